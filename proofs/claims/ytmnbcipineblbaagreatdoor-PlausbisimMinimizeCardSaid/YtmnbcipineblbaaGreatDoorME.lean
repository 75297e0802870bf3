/- A part of the proofs of this seat: functions and their contracts. -/
import Derived.Test.YtmnbcipineblbaaGreatDoorMD
import Derived.WalkKit
import Derived.Maps.OwnRows
import Derived.Maps.RangeRun
import Derived.Sort.LotD4
import Derived.Shelf.Sort.Plain
import Derived.Sort.OwnSortedInts
import Derived.Sort.AssemblyPlain
import Derived.Deep.RegionLaw
import Derived.Deep.AppendLies
import Derived.Deep.DrawnRows
set_option linter.unusedVariables false
set_option linter.unusedSimpArgs false
set_option linter.unusedSectionVars false
namespace Go.Ab
open Go Go.Proofs
set_option maxRecDepth 10000
set_option maxHeartbeats 4000000
variable {T:Nat→Obj→Prop}
def zeV (zs:List (BitVec 64)):List (BitVec 64):=ddA (Sort.sort ltU zs.toArray) (Sort.sort ltU zs.toArray).size
def uAt (r:List (BitVec 64)) (w:Nat):BitVec 64:=r.getD w 0
def zdL (n:Int) (r:List (BitVec 64)):Int:=if n < 0∨64 < n then 2 else if (r.length:Int)≠n then 3 else if r.any (bad n) then 1 else 0
def zjL (r:List (BitVec 64)):List Int:=(List.range r.length).map fun w=>(Lib.ctz 64 (uAt r w|||uAt (zR r) w).toNat:Int)
def zQ (r:List (BitVec 64)) (w n:Nat):List (BitVec 64):=((List.range n).filter fun v=>rb r w v && !rb r v w).map (uAt r)
def zkm (r:List (BitVec 64)):List Int:=(List.range r.length).map fun w=>((zeV (zQ r w r.length)).length:Int)
noncomputable def zea (W:Int) (val:List (BitVec 64)) (acc:List (List (BitVec 64))):PM×Int :=
 if z1 W acc.length val≠0 then (⟨0,[],[],[]⟩,z1 W acc.length val) else if acc.any (fun r=>decide (zdL W r≠0)) then (⟨0,[],[],[]⟩,3) else
  if acc.any (fun r => !zbZ r (zR r)) then (⟨0,[],[],[]⟩,12) else (⟨W,val,acc.map zjL,acc.map zkm⟩,0)
abbrev dPI (x:PM×Int):D := .tup [dPM x.1,.int .i64 x.2]
theorem zpt {n:Int} {r:List (BitVec 64)} (h:zdL n r=0):(r.length:Int)=n∧zq r=0:=by
 unfold zdL at h
 split at h
 ·cases h
 ·split at h
  ·cases h
  ·rename_i h1 h2
   have e:(r.length:Int)=n:=by omega
   subst e
   refine ⟨rfl,?_⟩
   unfold zq
   split at h
   ·cases h
   ·rename_i h3
    rw [if_neg (by omega),if_neg (by simpa using h3)]
theorem zyq (hT:zd3 T) {r:List (BitVec 64)} (h:zq r=0):Fn Tryz.prog T zcT [.d (dU r)] [] (.d (dUI (zR r,0))) []:=by
 have:=zsW hT r
 rwa [if_neg (not_not_intro h)] at this
theorem za9 {α:Type} {l:List α} {k:Nat} {x:α} (h:l[k]? = some x):l.take (k+1)=l.take k++[x]:=by rw [List.take_add_one,h];rfl
abbrev cD (r:List (BitVec 64)):D:=dI (zjL r)
abbrev rD (r:List (BitVec 64)):D:=dI (zkm r)
abbrev zeA:Ob := .box [.d (.int .i64 0),.nils 1,.nils 1,.nils 1]
theorem zh4 {r:List (BitVec 64)} {w n:Nat} : zQ r w (n+1)=zQ r w n++(if (rb r w n && !rb r n w)=true then [uAt r n] else []):=by
 unfold zQ
 rw [List.range_succ,List.filter_append,List.map_append]
 congr 1
 by_cases h:(rb r w n && !rb r n w)=true
 ·rw [if_pos h,List.filter_cons,if_pos h];rfl
 ·rw [if_neg h,List.filter_cons,if_neg h];rfl
theorem zjs {r:List (BitVec 64)} {w n:Nat} : (zQ r w n).length≤n:=by
 unfold zQ
 rw [List.length_map]
 have:=List.length_filter_le (fun v=>rb r w v && !rb r v w) (List.range n)
 rwa [List.length_range] at this
theorem zgi {r:List (BitVec 64)} {w:Nat} {x:BitVec 64} (h:r[w]? = some x):uAt r w=x:=by simp [uAt,List.getD,h]
theorem zu8 {zs:List (BitVec 64)} (h:Steps (Sort.sort ltU zs.toArray)):zeV zs=(Sort.sort ltU zs.toArray).toList:=by
 rw [zeV,zmD (Nat.le_refl _) (fun j h1 h2=>h j h1 h2),List.take_of_length_le (by simp)]
theorem zuK {d:Array (BitVec 64)} (h:d.size≤12):(Sort.sort ltU d).size=d.size:=by rw [Sort.sort,Sort.pdq,if_pos (by omega)];exact zlR _ _ _ (Nat.le_refl _)
theorem zza (hT:zd3 T) (W:Int) (hW:W≤12) (val:List (BitVec 64)) (acc:List (List (BitVec 64))):Fn Tryz.prog T zm9 [.d (.int .i64 W),.d (dU val),.d (dUU acc)] [] (.d (dPI (zea W val acc))) []:=by
 refine zd zw zs6 (by show 3≤136;decide) ?_
 (repeat' ((conv=>whnf);first|refine vA ?_|(refine vD ?_ ?_<;>intro hc<;>try simp only [vL] at hc)|refine vJ fun hg=>?_|refine vT ?_|refine yD (ziK _ _ _) ⟨⟨rfl,rfl⟩,⟨rfl,rfl⟩,⟨rfl,rfl⟩,rfl⟩ rfl ?_));all_goals try conv=>whnf
 ·rw [zea,if_pos hc,show (acc.length:Int)=((acc.map dU).length:Int) by simp];rfl
 have hs0:=‹z1 W acc.length val=0›
 obtain ⟨hw1,hw2,hv8,hn4,-⟩:=zh0 hs0
 refine zg (fun (k:Nat)=>[(0,.d (.int .i64 (W))),(1,.d (dU val)),(2,.d (dUU acc)),(6,.ptr 0 0),(30,.d (dUU acc)),(31,.d (.int .i64 ((acc.map dU).length:Int))),(32,.d (.int .i64 ((k:Int))))]) (fun (k:Nat)=>[(0,some (.box [.d (.int .i64 0),.nils 1,.nils 1,.nils 1]))]) 1 (fun (k:Nat)=>k≤acc.length ∧ ∀ r,r∈acc.take k→zdL W r=0) (fun (k:Nat)=>acc.length - k) (0) [(0,0)] [] (⟨by simp,by simp⟩) (by (refine ⟨rfl,rfl,rfl,?_,?_⟩;repeat' first|exact trivial|exact rfl|refine And.intro ?_ ?_|refine ⟨_,rfl,?_⟩|decide)) ?_
 rintro k ⟨hk,hI⟩
 (repeat' ((conv=>whnf);first|refine vA ?_|((first|refine vD ?_ ?_|refine vF ?_ ?_)<;>intro hc<;>try simp only [vL] at hc)|refine vJ fun hg=>?_|refine vT ?_|(refine vQ ?_ fun x hx=>?_;·omega)|(refine vO ?_ ?_;·omega)|refine yD (zgz _ _) ⟨⟨rfl,rfl⟩,⟨rfl,rfl⟩,rfl⟩ rfl ?_|(refine yN (zrF _ ?_) ⟨⟨rfl,rfl⟩,rfl⟩ ?_;(·omega))|fail));all_goals try conv=>whnf
 ·rw [zea,if_neg (not_not_intro hs0),if_pos (List.any_eq_true.2 ⟨_,List.mem_of_getElem? hx,decide_eq_true ‹_≠(0:Int)›⟩)];rfl
 ·exact ⟨k+1,[(0,0)],[],⟨by (omega),fun r hr=>by
   rw [za9 hx] at hr
   rcases List.mem_append.1 hr with h|h
   ·exact hI r h
   ·simp at h;subst h;assumption⟩,by (omega),by (refine ⟨rfl,rfl,rfl,?_,?_⟩;repeat' first|exact trivial|exact rfl|refine And.intro ?_ ?_|refine ⟨_,rfl,?_⟩|decide)⟩
 have hr0 : ∀ r∈acc,zdL W r=0:=fun r hr=>hI r (by rw [List.take_of_length_le (by omega)];exact hr)
 have hacc : ¬(acc.any fun r=>decide (zdL W r≠0))=true:=fun h=>by
  obtain ⟨r,h1,h2⟩:=List.any_eq_true.1 h
  exact of_decide_eq_true h2 (hr0 r h1)
 refine zg (fun ((k,xs,ys):Nat×List D×List D)=>[(0,.d (.int .i64 (W))),(6,.ptr 0 0),(11,.ptr 1 0),(46,.d (dUU acc)),(47,.d (.int .i64 ((acc.map dU).length:Int))),(48,.d (.int .i64 ((k:Int))))]) (fun ((k,xs,ys):Nat×List D×List D)=>[(0,some zeA),(1,some (.box [.d (.int .i64 W),.d (dU val),.own 2,.own 3])),(2,some (.row 1 xs)),(3,some (.row 1 ys))]) 4 (fun ((k,xs,ys):Nat×List D×List D)=>k≤acc.length∧xs=(acc.take k).map cD∧ys=(acc.take k).map rD ∧ ∀ r,r∈acc.take k→zbZ r (zR r)=true) (fun ((k,xs,ys):Nat×List D×List D)=>acc.length - k) ((0,[],[])) [(0,0),(1,1)]   [2,3] (⟨by simp,rfl,rfl,by simp⟩) (by (refine ⟨rfl,rfl,rfl,?_,?_⟩;repeat' first|exact trivial|exact rfl|exact ⟨_,rfl⟩|refine And.intro ?_ ?_|refine ⟨_,rfl,?_⟩|decide)) ?_
 rintro ⟨k,_,_⟩ ⟨hk,rfl,rfl,hI⟩
 (repeat' ((conv=>whnf);first|refine vA ?_|(refine vF ?_ ?_<;>intro hc<;>try simp only [vL] at hc)|refine vT ?_|(refine vQ ?_ fun x hx=>?_;·omega)|fail));all_goals try conv=>whnf
 ·obtain ⟨y,hy⟩ : ∃ y,y=x:=⟨_,rfl⟩
  subst hy
  have hrm:=List.mem_of_getElem? hx
  obtain ⟨hrl,hrc⟩:=zpt (hr0 y hrm)
  have hrv:(zR y).length=y.length:=by simp [zR]
  refine zX.dataN (zyq hT hrc) (by (repeat refine ⟨⟨rfl,rfl⟩,?_⟩);rfl) ?_
  (repeat' ((conv=>whnf);first|refine vA ?_|refine vE ?_|(refine vI ?_ ?_<;>intro hc)|refine vT ?_|(refine vP ?_ ?_;·omega)|(refine vU ?_ ?_;·kernel_rfl)|refine yD (zrM hT _ _ hrv) ⟨⟨rfl,rfl⟩,⟨rfl,rfl⟩,rfl⟩ rfl ?_));all_goals try conv=>whnf
  ·have hcn:=‹zbZ y (zR y)=true›
   refine zg (fun ((j,us,vs):Nat×List D×List D)=>[(0,.d (.int .i64 (W))),(6,.ptr 0 0),(11,.ptr 1 0),(13,.d (dU y)),(14,.d (dU (zR y))),(16,.own 4),(17,.own 5),(46,.d (dUU acc)),(47,.d (.int .i64 ((acc.map dU).length:Int))),(48,.d (.int .i64 ((k:Int)))),(66,.d (.int .i64 (W))),(67,.d (.int .i64 ((j:Int))))]) (fun ((j,us,vs):Nat×List D×List D)=>[(0,some zeA),(1,some (.box [.d (.int .i64 W),.d (dU val),.own 2,.own 3])),(2,some (.row 1 ((acc.take k).map cD))),(3,some (.row 1 ((acc.take k).map rD))),(4,some (.row 1 us)),(5,some (.row 1 vs))]) 6 (fun ((j,us,vs):Nat×List D×List D)=>j≤y.length∧us=(List.range y.length).map (fun u=>D.int .i64 (if u < j then (Lib.ctz 64 (uAt y u|||uAt (zR y) u).toNat:Int) else 0))∧vs=(List.range y.length).map (fun u=>D.int .i64 (if u < j then ((zeV (zQ y u y.length)).length:Int) else 0))) (fun ((j,us,vs):Nat×List D×List D)=>y.length - j) ((0,List.replicate W.toNat (D.int .i64 0),List.replicate W.toNat (D.int .i64 0))) [(0,0),(1,1),(2,2),(3,3),(4,4),(5,5)] [] (⟨by simp,by simp [← hrl,List.map_const'],by simp [← hrl,List.map_const']⟩) (by (refine ⟨rfl,rfl,rfl,?_,?_⟩;repeat' first|exact trivial|exact rfl|refine And.intro ?_ ?_|refine ⟨_,rfl,?_⟩|decide)) ?_
   rintro ⟨j,_,_⟩ ⟨hj,rfl,rfl⟩
   (repeat' ((conv=>whnf);first|refine vA ?_|(refine vF ?_ ?_<;>intro hc<;>try simp only [vL] at hc)|refine vT ?_|(refine vQ ?_ fun x hx=>?_;·omega)|(refine vP ?_ ?_;·(simp only [vM] at *;omega))|(refine vU ?_ ?_;·kernel_rfl)|refine yD (hT _) (by (repeat refine ⟨⟨rfl,rfl⟩,?_⟩);rfl) rfl ?_));all_goals try conv=>whnf
   ·rename_i b hb
    refine zg (fun ((i,zs):Nat×List D)=>[(0,.d (.int .i64 (W))),(6,.ptr 0 0),(11,.ptr 1 0),(13,.d (dU y)),(14,.d (dU (zR y))),(16,.own 4),(17,.own 5),(18,.d (.int .i64 ((j:Int)))),(19,.own 6),(46,.d (dUU acc)),(47,.d (.int .i64 ((acc.map dU).length:Int))),(48,.d (.int .i64 ((k:Int)))),(66,.d (.int .i64 (W))),(67,.d (.int .i64 ((j:Int)))),(83,.d (.int .i64 (W))),(84,.d (.int .i64 ((i:Int))))]) (fun ((i,zs):Nat×List D)=>[(0,some zeA),(1,some (.box [.d (.int .i64 W),.d (dU val),.own 2,.own 3])),(2,some (.row 1 ((acc.take k).map cD))),(3,some (.row 1 ((acc.take k).map rD))),(4,some (.row 1 (((List.range y.length).map (fun u=>D.int .i64 (if u < j then (Lib.ctz 64 (uAt y u|||uAt (zR y) u).toNat:Int) else 0))).set j (D.int .i64 (Lib.ctz 64 (b|||x).toNat:Int))))),(5,some (.row 1 ((List.range y.length).map (fun u=>D.int .i64 (if u < j then ((zeV (zQ y u y.length)).length:Int) else 0))))),(6,some (.row 1 zs))]) 7 (fun ((i,zs):Nat×List D)=>i≤y.length∧zs=(zQ y j i).map D.u64) (fun ((i,zs):Nat×List D)=>y.length - i) ((0,[])) [(0,0),(1,1),(2,2),(3,3),(4,4),(5,5)]   [6] (⟨by simp,rfl⟩) (by (refine ⟨rfl,rfl,rfl,?_,?_⟩;repeat' first|exact trivial|exact rfl|exact ⟨_,rfl⟩|refine And.intro ?_ ?_|refine ⟨_,rfl,?_⟩|decide)) ?_
    rintro ⟨i,_⟩ ⟨hi,rfl⟩
    (repeat' ((conv=>whnf);first|refine vA ?_|(refine vF ?_ ?_<;>intro hc<;>try simp only [vL] at hc)|refine vT ?_|refine vN ‹_› ?_|(refine vQ ?_ fun x hx=>?_;·omega)|((first|refine vO ?_ ?_|refine vP ?_ ?_);·omega)|fail));all_goals try conv=>whnf
    ·have hbl:=zjs (r:=y) (w:=j) (n:=i)
     refine zhL.mk (by simp only [List.length_map,zer,List.length_set,List.length_replicate];omega) ?_
     (repeat' ((conv=>whnf);first|refine vT ?_|(refine vO ?_ ?_;·omega)|fail));all_goals try conv=>whnf
     refine ⟨(i+1,_),[(0,0),(1,1),(2,2),(3,3),(4,4),(5,5),(6,8)],[],?_,?_,by (refine ⟨rfl,rfl,rfl,?_,?_⟩;repeat' first|exact trivial|exact rfl|refine And.intro ?_ ?_|refine ⟨_,rfl,?_⟩|decide)⟩
     ·have hyi:=zgi hx
      have c1:rb y j i=true:=by rw [zO hb];exact (zdp b i).1 ‹b >>> ((i:Nat):Int).toNat&&&1#64=1#64›
      have c2:rb y i j=false:=by rw [zO hx];exact ztp.1 ‹x >>> ((j:Nat):Int).toNat&&&1#64=0#64›
      refine ⟨by (omega),?_⟩
      rw [zh4,c1,c2,List.map_append,hyi];rfl
     ·((simp only [vM] at *;omega))
    ·have c2:rb y i j=true:=by rw [zO hx];exact zrb ‹¬x >>> ((j:Nat):Int).toNat&&&1#64=0#64›
     refine ⟨(i+1,_),[(0,0),(1,1),(2,2),(3,3),(4,4),(5,5),(6,6)],[],?_,?_,by (refine ⟨rfl,rfl,rfl,?_,?_⟩;repeat' first|exact trivial|exact rfl|refine And.intro ?_ ?_|refine ⟨_,rfl,?_⟩|decide)⟩
     ·refine ⟨by (omega),?_⟩
      rw [zh4,c2];simp
     ·((simp only [vM] at *;omega))
    ·have c1:rb y j i=false:=by
      rw [zO hb]
      have:=mt (zdp b i).2 ‹¬b >>> ((i:Nat):Int).toNat&&&1#64=1#64›
      simpa using this
     refine ⟨(i+1,_),[(0,0),(1,1),(2,2),(3,3),(4,4),(5,5),(6,6)],[],?_,?_,by (refine ⟨rfl,rfl,rfl,?_,?_⟩;repeat' first|exact trivial|exact rfl|refine And.intro ?_ ?_|refine ⟨_,rfl,?_⟩|decide)⟩
     ·refine ⟨by (omega),?_⟩
      rw [zh4,c1];simp
     ·((simp only [vM] at *;omega))
    obtain rfl:i=y.length:=by omega
    have hbl:=zjs (r:=y) (w:=j) (n:=y.length)
    have h12:(zQ y j y.length).toArray.size≤12:=by simp;omega
    have hsz:=zuK h12
    have hsz2:(Sort.sort ltU (zQ y j y.length).toArray).size=(zQ y j y.length).length:=hsz
    refine zX.objs [6] (zsZ (zQ y j y.length).toArray h12) (by (repeat' first|exact rfl|refine And.intro ?_ ?_|refine ⟨_,rfl,?_⟩)) (by (repeat' first|exact rfl|refine And.intro ?_ ?_)) (by rfl) (by rfl) (by simp) ?_
    (repeat' ((conv=>whnf);refine vT ?_));all_goals try conv=>whnf
    by_cases hst:Steps (Sort.sort ltU (zQ y j y.length).toArray)
    ·have hfs:=zu8 hst
     refine zX.objs [6] (zmV (Sort.sort ltU (zQ y j y.length).toArray) (by omega) hst) (by (repeat' first|exact rfl|refine And.intro ?_ ?_|refine ⟨_,rfl,?_⟩)) (by (repeat' first|exact rfl|refine And.intro ?_ ?_)) (by rfl) (by rfl) (by simp) ?_
     (repeat' ((conv=>whnf);first|refine vJ fun hg=>?_|refine vT ?_|((first|refine vO ?_ ?_|refine vP ?_ ?_);·first|omega|(simp only [vM] at *;omega))|fail));all_goals try conv=>whnf
     refine ⟨(j+1,_,_),[(0,0),(1,1),(2,2),(3,3),(4,4),(5,5)],[],?_,?_,by (refine ⟨rfl,rfl,rfl,?_,?_⟩;repeat' first|exact trivial|exact rfl|refine And.intro ?_ ?_|refine ⟨_,rfl,?_⟩|decide)⟩
     ·refine ⟨by (omega),(zal _).trans (zj fun u hu=>?_),(zal _).trans (zj fun u hu=>?_)⟩
      ·show (if u=j then _ else _)=_
       by_cases e:u=j
       ·subst e;rw [if_pos rfl,if_pos (Nat.lt_succ_self _),zgi hb,zgi hx]
       ·by_cases e1:u < j
        ·simp [e1,e,show u < j+1 by omega]
        ·simp [e1,e,show ¬ u < j+1 by omega]
      ·show (if u=j then _ else _)=_
       by_cases e:u=j
       ·subst e;rw [if_pos rfl,if_pos (Nat.lt_succ_self _)];exact congrArg (fun z:Nat=>D.int .i64 (z:Int)) (by rw [hfs,List.length_map])
       ·by_cases e1:u < j
        ·simp [e1,e,show u < j+1 by omega]
        ·simp [e1,e,show ¬ u < j+1 by omega]
     ·((simp only [vM] at *;omega))
    ·refine zX.objs [6] (zlG (Sort.sort ltU (zQ y j y.length).toArray) (by omega) hst) (by (repeat' first|exact rfl|refine And.intro ?_ ?_|refine ⟨_,rfl,?_⟩)) (by (repeat' first|exact rfl|refine And.intro ?_ ?_)) (by rfl) (by rfl) (by simp) ?_
     (repeat' ((conv=>whnf);first|refine vJ fun hg=>?_|refine vT ?_|((first|refine vO ?_ ?_|refine vP ?_ ?_);·first|omega|(simp only [vM] at *;omega))|fail));all_goals try conv=>whnf
     refine ⟨(j+1,_,_),[(0,0),(1,1),(2,2),(3,3),(4,4),(5,5)],[],?_,?_,by (refine ⟨rfl,rfl,rfl,?_,?_⟩;repeat' first|exact trivial|exact rfl|refine And.intro ?_ ?_|refine ⟨_,rfl,?_⟩|decide)⟩
     ·refine ⟨by (omega),(zal _).trans (zj fun u hu=>?_),(zal _).trans (zj fun u hu=>?_)⟩
      ·show (if u=j then _ else _)=_
       by_cases e:u=j
       ·subst e;rw [if_pos rfl,if_pos (Nat.lt_succ_self _),zgi hb,zgi hx]
       ·by_cases e1:u < j
        ·simp [e1,e,show u < j+1 by omega]
        ·simp [e1,e,show ¬ u < j+1 by omega]
      ·show (if u=j then _ else _)=_
       by_cases e:u=j
       ·subst e;rw [if_pos rfl,if_pos (Nat.lt_succ_self _)];exact congrArg (fun z:Nat=>D.int .i64 (z:Int)) (by rw [List.length_map];rfl)
       ·by_cases e1:u < j
        ·simp [e1,e,show u < j+1 by omega]
        ·simp [e1,e,show ¬ u < j+1 by omega]
     ·((simp only [vM] at *;omega))
   ·have hkt:(acc.take k).length=k:=List.length_take_of_le hk
    refine zhL.mk (by simp only [List.length_append,List.length_map,hkt,zer,List.length_set,List.length_replicate,List.length_cons,List.length_nil];omega) ?_
    (repeat' ((conv=>whnf);first|refine vT ?_|((first|refine vO ?_ ?_|refine vP ?_ ?_);·first|omega|(simp only [vM] at *;omega))|(refine vU ?_ ?_;·kernel_rfl)|fail));all_goals try conv=>whnf
    obtain rfl:j=y.length:=by omega
    refine ⟨(k+1,_,_),[(0,0),(1,1),(2,7),(3,9)],[],?_,?_,by (refine ⟨rfl,rfl,rfl,?_,?_⟩;repeat' first|exact trivial|exact rfl|refine And.intro ?_ ?_|refine ⟨_,rfl,?_⟩|decide)⟩
    ·refine ⟨by (omega),?_,?_,fun r hr=>?_⟩
     ·rw [za9 hx,List.map_append]
      refine congrArg (_++[D.arr 1 ·]) ?_
      rw [zjL,List.map_map]
      exact zj fun u hu=>by rw [if_pos hu];rfl
     ·rw [za9 hx,List.map_append]
      refine congrArg (_++[D.arr 1 ·]) ?_
      rw [zkm,List.map_map]
      exact zj fun u hu=>by rw [if_pos hu];rfl
     ·rw [za9 hx] at hr
      rcases List.mem_append.1 hr with h|h
      ·exact hI r h
      ·simp at h;subst h;exact hcn
    ·((simp only [vM] at *;omega))
  ·rw [zea,if_neg (not_not_intro hs0),if_neg hacc,if_pos (List.any_eq_true.2 ⟨y,hrm,by simpa using ‹zbZ y (zR y)=false›⟩)];rfl
 ·have hke:acc.take k=acc:=List.take_of_length_le (by omega)
  rw [zea,if_neg (not_not_intro hs0),if_neg hacc,if_neg (fun h=>by
   obtain ⟨r,h1,h2⟩:=List.any_eq_true.1 h
   rw [hI r (by rw [hke];exact h1)] at h2;cases h2)]
  rw [hke]
  show some (D.tup [D.agg [.int .i64 W,dU val,.arr 1 (acc.map cD),.arr 1 (acc.map rD)],.int .i64 0])=some (D.tup [D.agg [.int .i64 W,dU val,.arr 1 ((acc.map zjL).map dI),.arr 1 ((acc.map zkm).map dI)],.int .i64 0])
  rw [List.map_map,List.map_map];rfl
end Go.Ab
namespace Go.Ab
open Go Go.Proofs
set_option maxRecDepth 10000
set_option maxHeartbeats 4000000
variable {T:Nat→Obj→Prop}
def zcY (v:BitVec 64) (ws:List Int):Nat→BitVec 64
 | 0=>0
 | n+1=>zcY v ws n|||(((v >>> (at0 ws n).toNat)&&&1#64) <<< n)
end Go.Ab
namespace Go.Ab
open Go Go.Proofs Go.MapKept
abbrev GI := List (Int × List Int)
theorem zrB : ∀ (l : List MapEntry) (ks : List Int) (i : Nat) (c : Int), ks.length = l.length → (∀ j, j < ks.length → (l.getD j default).key = .int .i64 (ks.getD j 0)) →
    (c ∉ ks ∧ Instr.findNow (.int .i64) (.int .i64 c) l i = some none) ∨ ∃ j, j < ks.length ∧ ks.getD j 0 = c ∧ Instr.findNow (.int .i64) (.int .i64 c) l i = some (some (i + j, (l.getD j default).val))
  | [], [], i, c, _, _ => .inl ⟨by simp, rfl⟩
  | [], _ :: _, _, _, h, _ => by simp at h
  | _ :: _, [], _, _, h, _ => by simp at h
  | e :: l, k :: ks, i, c, h, hk => by
    have h0 : e.key = .int .i64 k := by simpa using hk 0 (by simp)
    have hs : Instr.sameNow (.int .i64) (.int .i64 c) e.key = some (decide (c = k)) := by rw [h0]; simp [Instr.sameNow, zgR]
    by_cases hc : c = k
    · refine .inr ⟨0, by simp, by simp [hc], ?_⟩
      subst hc
      simp [Instr.findNow, hs]
    · rcases zrB l ks (i + 1) c (by simpa using h) (fun j hj => by simpa using hk (j + 1) (by simpa using hj)) with ⟨h1, h2⟩ | ⟨j, h1, h2, h3⟩
      · exact .inl ⟨by simp [hc, h1], by simp [Instr.findNow, hs, hc, h2]⟩
      · exact .inr ⟨j + 1, by simpa using h1, by simpa using h2, by simp [Instr.findNow, hs, hc, h3]; omega⟩
theorem zqf {w : World} {m : Nat} {es : Array MapEntry} {clock : Nat} (hm : w.heap[m]? = some (.map es clock)) {c : Int} {v : Value} {r : Option (Nat × Value)} (hf : Instr.findNow (.int .i64) (.int .i64 c) es.toList 0 = some r)
    (hr : ∀ j u, r = some (j, u) → j < es.size ∧ (es.getD j default).key = .int .i64 c) :
    (Instr.mapUpdate 90 (.map (some m)) (.int .i64 c) v).run Tryz.prog w = .ok () { w with heap := w.heap.setIfInBounds m (match r with
      | none => .map (es.push { key := .int .i64 c, val := v, born := clock }) (clock + 1)
      | some p => .map (es.modify p.1 fun e => { e with key := .int .i64 c, val := v }) clock) } := by
  have hik : IsKey (.int .i64) (.int .i64 c) := rfl
  have hck := fun b => run_checkKey (w := w) Tryz.underlying3 hik b 9999
  have hfk := run_findKey (w := w) Tryz.underlying3 hf
  cases r with
  | none =>
    have hset := run_setObj_map (P := Tryz.prog) (.map (es.push { key := .int .i64 c, val := v, born := clock }) (clock + 1)) hm
    simp [Instr.mapUpdate, run_underlying Tryz.underlying90, za4 hm, hck, hfk, hset]
  | some p =>
    obtain ⟨j, u⟩ := p
    obtain ⟨hj, hkj⟩ := hr j u rfl
    have hold : ((es[j]?).map (·.key)).getD (.int .i64 c) = .int .i64 c := by
      rw [← hkj]; simp [Array.getD_eq_getD_getElem?, hj]
    have hset := run_setObj_map (P := Tryz.prog) (.map (es.modify j fun e => { e with key := .int .i64 c, val := v }) clock) hm
    simp [Instr.mapUpdate, run_underlying Tryz.underlying90, za4 hm, hck, hfk, hold, Instr.keyThatStays, zmp hik, hset]
structure Grp (O : World → Value → Nat → List Int → Prop) (w : World) (m : Nat) (gs : GI) (es : Array MapEntry) (clock : Nat) (blk : Nat → Nat) : Prop where
  heap : w.heap[m]? = some (.map es clock)
  st : zdN es clock
  size : es.size = gs.length
  key : ∀ i, i < gs.length → (es.getD i default).key = .int .i64 (gs.getD i default).1
  val : ∀ i, i < gs.length → O w (es.getD i default).val (blk i) (gs.getD i default).2
  apart : ∀ i j, i < gs.length → j < gs.length → blk i = blk j → i = j
section
variable {O : World → Value → Nat → List Int → Prop} {w : World} {m : Nat} {gs : GI} {es : Array MapEntry} {clock : Nat} {blk : Nat → Nat}
theorem Grp.find (h : Grp O w m gs es clock blk) (c : Int) : (c ∉ gs.map Prod.fst ∧ Instr.findNow (.int .i64) (.int .i64 c) es.toList 0 = some none) ∨
    ∃ j, j < gs.length ∧ (gs.getD j default).1 = c ∧ Instr.findNow (.int .i64) (.int .i64 c) es.toList 0 = some (some (j, (es.getD j default).val)) := by
  have hg : ∀ j, j < gs.length → (gs.map Prod.fst).getD j 0 = (gs.getD j default).1 := fun j hj => by simp [List.getD, hj]
  rcases zrB es.toList (gs.map Prod.fst) 0 c (by simp [h.size]) (fun j hj => by
    rw [List.length_map] at hj
    rw [zbh, h.key j hj, hg j hj]) with h1 | ⟨j, h1, h2, h3⟩
  · exact .inl h1
  · rw [List.length_map] at h1
    rw [hg j h1] at h2
    refine .inr ⟨j, h1, h2, ?_⟩
    rw [h3, Nat.zero_add, zbh]
theorem zjg {P : Program} {w : World} {t kt e : TypeId} {d : TypeDesc} {kv : Value} (ht : P.underlying t = some (.map kt e)) (hkd : P.underlying kt = some d) (hik : IsKey d kv) {zv : Value} (hz : ∀ w, (zeroValue e).run P w = .ok zv w)
    {ok : Bool} {m : Nat} {ents : Array MapEntry} {clock : Nat} (hm : w.heap[m]? = some (.map ents clock)) {r : Option (Nat × Value)} (hf : Instr.findNow d kv ents.toList 0 = some r) :
    (Instr.lookup t (.map (some m)) kv ok).run P w = .ok (if ok then .tuple #[zcL r zv, .bool r.isSome] else zcL r zv) w := by
  have hfk := run_findKey (w := w) hkd hf
  have hck : ∀ b, (Instr.checkKey b 10000 kt kv).run P w = .ok () w := fun b => run_checkKey hkd hik b 9999
  cases r with
  | none => simp [Instr.lookup, run_underlying ht, za4 hm, hck, hfk, hz, zcL]
  | some p => obtain ⟨i, v⟩ := p; simp [Instr.lookup, run_underlying ht, za4 hm, hck, hfk, zcL]
theorem zup {w : World} {m : Nat} {es : Array MapEntry} {clock : Nat} (h : w.heap[m]? = some (.map es clock)) {c : Int} (hf : Instr.findNow (.int .i64) (.int .i64 c) es.toList 0 = some none) : (Instr.lookup 90 (.map (some m)) (.int .i64 c) false).run Tryz.prog w = .ok (.slice none 0 0) w := by
  have hz : ∀ w, (zeroValue 28).run Tryz.prog w = .ok (.slice none 0 0) w := fun w => by kernel_rfl
  simpa [zcL] using zjg (ok := false) Tryz.underlying90 Tryz.underlying3 (show IsKey (.int .i64) (.int .i64 c) from rfl) hz h hf
theorem zuq {w : World} {m : Nat} {es : Array MapEntry} {clock : Nat} (h : w.heap[m]? = some (.map es clock)) {c : Int} {j : Nat} {v : Value} (hf : Instr.findNow (.int .i64) (.int .i64 c) es.toList 0 = some (some (j, v))) : (Instr.lookup 90 (.map (some m)) (.int .i64 c) false).run Tryz.prog w = .ok v w := by
  have hz : ∀ w, (zeroValue 28).run Tryz.prog w = .ok (.slice none 0 0) w := fun w => by kernel_rfl
  simpa [zcL] using zjg (ok := false) Tryz.underlying90 Tryz.underlying3 (show IsKey (.int .i64) (.int .i64 c) from rfl) hz h hf
theorem zrT {i j : Nat} {x : Int × List Int} (hi : i < gs.length) : (gs.set i x).getD j default = if j = i then x else gs.getD j default := by
  by_cases h : j = i
  · subst h; simp [List.getD, hi]
  · rw [if_neg h]; simp [List.getD, Ne.symm h]
theorem zrS {j : Nat} {x : Int × List Int} (hj : j < gs.length + 1) : (gs ++ [x]).getD j default = if j = gs.length then x else gs.getD j default := by
  by_cases h : j = gs.length
  · subst h; simp [List.getD]
  · rw [if_neg h]; simp [List.getD, List.getElem?_append_left (show j < gs.length by omega)]
theorem Grp.set {w1 : World} (h : Grp O w m gs es clock blk) {c : Int} {i : Nat} {u v : Value} {g : Nat} {zs : List Int} (hi : i < gs.length) (hc : (gs.getD i default).1 = c)
    (hf : Instr.findNow (.int .i64) (.int .i64 c) es.toList 0 = some (some (i, u))) (hm : w1.heap[m]? = some (.map es clock))
    (hv : ∀ o, O { w1 with heap := w1.heap.setIfInBounds m o } v g zs)
    (ho : ∀ o j, j < gs.length → j ≠ i → O { w1 with heap := w1.heap.setIfInBounds m o } (es.getD j default).val (blk j) (gs.getD j default).2) (hg : ∀ j, j < gs.length → j ≠ i → blk j ≠ g) :
    ∃ es', (Instr.mapUpdate 90 (.map (some m)) (.int .i64 c) v).run Tryz.prog w1 = .ok () { w1 with heap := w1.heap.setIfInBounds m (.map es' clock) } ∧
      Grp O { w1 with heap := w1.heap.setIfInBounds m (.map es' clock) } m (gs.set i (c, zs)) es' clock (fun j => if j = i then g else blk j) ∧ ∀ j, j < gs.length → (es'.getD j default).born = (es.getD j default).born := by
  have hj : i < es.size := by rw [h.size]; exact hi
  have hmod : ∀ j, (es.modify i fun e => { e with key := .int .i64 c, val := v }).getD j default = if j = i then { key := .int .i64 c, val := v, born := (es.getD i default).born } else es.getD j default := fun j => znq hj
  refine ⟨es.modify i fun e => { e with key := .int .i64 c, val := v }, zqf hm hf (fun j u' e => ?_), ⟨?_, ?_, ?_, fun j hj' => ?_, fun j hj' => ?_, fun j k hj' hk' e => ?_⟩, fun j hj' => ?_⟩
  · cases e; exact ⟨hj, by rw [h.key i hi, hc]⟩
  · simp [zi hm]
  · refine ⟨fun p q hp hq he => ?_, fun p hp => ?_⟩
    · simp only [Array.size_modify] at hp hq
      rw [hmod, hmod] at he
      refine h.st.inj p q hp hq ?_
      split at he <;> split at he <;> simp_all
    · simp only [Array.size_modify] at hp
      rw [hmod p]
      by_cases e : p = i
      · rw [if_pos e]; exact h.st.lt i hj
      · rw [if_neg e]; exact h.st.lt p hp
  · simp [h.size]
  · rw [List.length_set] at hj'
    rw [hmod, zrT hi]
    split
    · rfl
    · exact h.key j hj'
  · rw [List.length_set] at hj'
    rw [hmod, zrT hi]
    split
    · exact hv _
    · exact ho _ j hj' ‹_›
  · rw [List.length_set] at hj' hk'
    by_cases e1 : j = i <;> by_cases e2 : k = i
    · omega
    · rw [if_pos e1, if_neg e2] at e; exact absurd e.symm (hg k hk' e2)
    · rw [if_neg e1, if_pos e2] at e; exact absurd e (hg j hj' e1)
    · rw [if_neg e1, if_neg e2] at e; exact h.apart j k hj' hk' e
  · rw [hmod j]
    by_cases e : j = i
    · rw [if_pos e, e]
    · rw [if_neg e]
theorem Grp.add {w1 : World} (h : Grp O w m gs es clock blk) {c : Int} {v : Value} {g : Nat} {zs : List Int}
    (hf : Instr.findNow (.int .i64) (.int .i64 c) es.toList 0 = some none) (hm : w1.heap[m]? = some (.map es clock))
    (hv : ∀ o, O { w1 with heap := w1.heap.setIfInBounds m o } v g zs)
    (ho : ∀ o j, j < gs.length → O { w1 with heap := w1.heap.setIfInBounds m o } (es.getD j default).val (blk j) (gs.getD j default).2) (hg : ∀ j, j < gs.length → blk j ≠ g) :
    ∃ es', (Instr.mapUpdate 90 (.map (some m)) (.int .i64 c) v).run Tryz.prog w1 = .ok () { w1 with heap := w1.heap.setIfInBounds m (.map es' (clock + 1)) } ∧
      Grp O { w1 with heap := w1.heap.setIfInBounds m (.map es' (clock + 1)) } m (gs ++ [(c, zs)]) es' (clock + 1) (fun j => if j = gs.length then g else blk j) := by
  have hget : ∀ j, (es.push { key := .int .i64 c, val := v, born := clock }).getD j default = if j = gs.length then { key := .int .i64 c, val := v, born := clock } else es.getD j default := by
    intro j
    rw [← h.size]
    simp only [Array.getD_eq_getD_getElem?, Array.getElem?_push]
    split <;> rfl
  refine ⟨es.push { key := .int .i64 c, val := v, born := clock }, zqf hm hf (fun j u' e => by cases e), ⟨?_, znw h.st _ _, ?_, fun j hj' => ?_, fun j hj' => ?_, fun j k hj' hk' e => ?_⟩⟩
  · simp [zi hm]
  · simp [h.size]
  · simp only [List.length_append, List.length_cons, List.length_nil] at hj'
    rw [hget, zrS hj']
    split
    · rfl
    · exact h.key j (by omega)
  · simp only [List.length_append, List.length_cons, List.length_nil] at hj'
    rw [hget, zrS hj']
    split
    · exact hv _
    · exact ho _ j (by omega)
  · simp only [List.length_append, List.length_cons, List.length_nil] at hj' hk'
    by_cases e1 : j = gs.length <;> by_cases e2 : k = gs.length
    · omega
    · rw [if_pos e1, if_neg e2] at e; exact absurd e.symm (hg k (by omega))
    · rw [if_neg e1, if_pos e2] at e; exact absurd e (hg j (by omega))
    · rw [if_neg e1, if_neg e2] at e; exact h.apart j k (by omega) (by omega) e
end
end Go.Ab
namespace Go.Ab
open Go Go.Proofs
set_option maxRecDepth 10000
set_option maxHeartbeats 4000000
variable {T:Nat→Obj→Prop}
abbrev zmm (d:Array (Int)):Ob := .row 1 (d.toList.map (D.int .i64))
end Go.Ab
namespace Go.Ab
open Go Go.Proofs
set_option maxRecDepth 10000
set_option maxHeartbeats 4000000
variable {T:Nat→Obj→Prop}
set_option maxHeartbeats 1000000 in
theorem zmU (d:Array Int) (hs:d.size≤536870912) (hd:Steps d):Fn Tryz.prog T zbr [.own 0] [zmm d] (.own 0) [some (zmm d)]:=by
 have hln:d.toList.length=d.size:=Array.length_toList
 refine zaQ zw zcM (by show 1≤61;decide) _ (fun e env mem n h=>h) ?_
 (repeat' ((conv=>whnf);first|refine vA ?_|(refine vF ?_ ?_<;>intro hc<;>try simp only [vL] at hc)|refine vJ fun hg=>?_));all_goals try conv=>whnf
 ·refine ⟨trivial,_,[(0,0)],[],rfl,.inl (by (repeat' exact rfl)),⟨by rfl,by rfl,by rfl,trivial,by (repeat' first|exact trivial|exact rfl|refine And.intro ?_ ?_|refine ⟨_,rfl,?_⟩|exact of_decide_eq_true rfl)⟩,by (repeat' first|exact trivial|exact rfl|refine And.intro ?_ ?_)⟩
 refine zg (fun (i:Int)=>[(0,.own 0),(3,.d (.int .i64 (i))),(ze,.own 0)]) (fun (i:Int)=>[(0,some (zmm d))]) 1 (fun (i:Int) => ∃ k:Nat,i=k∧0 < k∧k≤d.size) (fun (i:Int)=>(d.size - i).toNat) (1) [(0,0)] [] (⟨1,rfl,by omega,by omega⟩) (by (refine ⟨rfl,rfl,rfl,?_,?_⟩;repeat' first|exact trivial|exact rfl|refine And.intro ?_ ?_|refine ⟨_,rfl,?_⟩|decide)) ?_
 rintro _ ⟨k,rfl,hk0,hk1⟩
 (repeat' ((conv=>whnf);first|refine vA ?_|(refine vF ?_ ?_<;>intro hc<;>try simp only [vL] at hc)|refine vJ fun hg=>?_|(refine vQ ?_ fun x hx=>?_;·omega)|((first|refine vO ?_ ?_|refine vP ?_ ?_);·first|omega|(simp only [vM] at *;omega))|(refine vU ?_ ?_;·kernel_rfl)|fail));all_goals try conv=>whnf
 ·have g1:=zae (zbu k ‹d.toList[(k:Int).toNat]? = some _› rfl)
  have g2:=zae (zbu (k - 1) ‹d.toList[((k:Int) - 1).toNat]? = some _› (by omega))
  exact absurd (g1.1.trans (‹_=_›.trans g2.1.symm)) (hd k hk0 g1.2)
 ·refine ⟨_,[(0,0)],[],?_,?_,by (refine ⟨rfl,rfl,rfl,?_,?_⟩;repeat' first|exact trivial|exact rfl|refine And.intro ?_ ?_|refine ⟨_,rfl,?_⟩|decide)⟩
  ·exact ⟨k+1,by omega,by omega,by omega⟩
  ·(omega)
 ·refine ⟨trivial,_,[(0,0)],[],rfl,.inl (by (repeat' exact rfl)),⟨by rfl,by rfl,by rfl,trivial,by (repeat' first|exact trivial|exact rfl|refine And.intro ?_ ?_|refine ⟨_,rfl,?_⟩|exact of_decide_eq_true rfl)⟩,by (repeat' first|exact trivial|exact rfl|refine And.intro ?_ ?_)⟩
set_option maxHeartbeats 1000000 in
theorem zlF (d:Array Int) (hs:d.size≤536870912) (hd : ¬Steps d):Fn Tryz.prog T zbr [.own 0] [zmm d] (.own 1) [none,some (.row 1 ((ddA d d.size).map (D.int .i64)))]:=by
 generalize hR:(ddA d d.size).map (D.int .i64)=R
 have hln:d.toList.length=d.size:=Array.length_toList
 refine zaQ zw zcM (by show 1≤61;decide) _ (fun e env mem n h=>h) ?_
 (repeat' ((conv=>whnf);first|refine vA ?_|(refine vF ?_ ?_<;>intro hc<;>try simp only [vL] at hc)|refine vJ fun hg=>?_));all_goals try conv=>whnf
 ·exact absurd (fun j hj0 hj1=>by omega) hd
 refine zg (fun (i:Int)=>[(0,.own 0),(3,.d (.int .i64 (i))),(ze,.own 0)]) (fun (i:Int)=>[(0,some (zmm d))]) 1 (fun (i:Int) => ∃ k:Nat,i=k∧0 < k∧k≤d.size ∧ ∀ j,0 < j→j < k→d[j]! ≠ d[j - 1]!) (fun (i:Int)=>(d.size - i).toNat) (1) [(0,0)] [] (⟨1,rfl,by omega,by omega,fun j _ _=>by omega⟩) (by (refine ⟨rfl,rfl,rfl,?_,?_⟩;repeat' first|exact trivial|exact rfl|refine And.intro ?_ ?_|refine ⟨_,rfl,?_⟩|decide)) ?_
 rintro _ ⟨k,rfl,hk0,hk1,hk⟩
 (repeat' ((conv=>whnf);first|refine vA ?_|(refine vF ?_ ?_<;>intro hc<;>try simp only [vL] at hc)|refine vJ fun hg=>?_|(refine vQ ?_ fun x hx=>?_;·omega)|((first|refine vO ?_ ?_|refine vP ?_ ?_);·first|omega|(simp only [vM] at *;omega))|(refine vU ?_ ?_;·kernel_rfl)|fail));all_goals try conv=>whnf
 ·have g1:=zae (zbu k ‹d.toList[(k:Int).toNat]? = some _› rfl)
  have g2:=zae (zbu (k - 1) ‹d.toList[((k:Int) - 1).toNat]? = some _› (by omega))
  have hkk:d[k]! = d[k - 1]! := g1.1.trans (‹_=_›.trans g2.1.symm)
  refine zg (fun ((w,q,xs):Int×Int×List D)=>[(0,.own 0),(3,.d (.int .i64 (w))),(4,.view 0 k ((d.toList.map (D.int .i64)).length - k)),(5,.d (.int .i64 (q))),(ze,.own 0)]) (fun ((w,q,xs):Int×Int×List D)=>[(0,some (.row 1 xs))]) 1 (fun ((w,q,xs):Int×Int×List D) => ∃ (a b:Nat) (e:Array Int),w=a∧q=b∧xs=e.toList.map (D.int .i64)∧0 < b∧k+b≤d.size∧a < k+b∧e.size=d.size∧e.toList.take a=ddA d (k+b) ∧ ∀ j,k+b - 1≤j→j < d.size→e[j]! = d[j]!) (fun ((w,q,xs):Int×Int×List D)=>(d.size - k - q).toNat) (((k:Int),(1:Int),d.toList.map (D.int .i64))) [(0,0)] [] (⟨k,1,d,rfl,rfl,rfl,by omega,by omega,by omega,rfl,zrp hk0 g1.2 hk hkk,fun _ _ _=>rfl⟩) (by (refine ⟨rfl,rfl,rfl,?_,?_⟩;repeat' first|exact trivial|exact rfl|refine And.intro ?_ ?_|refine ⟨_,rfl,?_⟩|decide)) ?_
  rintro ⟨_,_,_⟩ ⟨a,b,e,rfl,rfl,rfl,hb0,hb1,hab,he,ha,hj⟩
  have hle:e.toList.length=e.size:=Array.length_toList
  (repeat' ((conv=>whnf);first|refine vA ?_|((first|refine vD ?_ ?_|refine vF ?_ ?_)<;>intro hc<;>try simp only [vL] at hc)|refine vN ‹_› ?_|(refine vQ ?_ fun x hx=>?_;·omega)|((first|refine vO ?_ ?_|refine vP ?_ ?_);·first|omega|(simp only [vM] at *;omega))|(refine vU ?_ ?_;·kernel_rfl)|fail));all_goals try conv=>whnf
  ·have h1:=zae ‹e.toList[k+((b:Nat):Int).toNat]? = some _›
   have h2:=zae (zbu (i:=((k+b - 1:Nat):Int)) (k+b - 1) (by rw [← ‹e.toList[k+(((b:Nat):Int) - 1).toNat]? = some _›];congr 1;omega) rfl)
   simp only [Int.toNat_natCast] at h1
   have e1:=hj (k+b) (by omega) (by omega)
   have e2:=hj (k+b - 1) (by omega) (by omega)
   refine ⟨(_,_,_),[(0,0)],[],?_,?_,by (refine ⟨rfl,rfl,rfl,?_,?_⟩;repeat' first|exact trivial|exact rfl|refine And.intro ?_ ?_|refine ⟨_,rfl,?_⟩|decide)⟩
   ·exact ⟨a+1,b+1,e.setIfInBounds a e[k+b]!,by omega,by omega,by rw [h1.1];simp [List.map_set],by omega,by omega,by omega,by simp [he],
     by rw [zsz (by omega),ha,← Nat.add_assoc,zu4 (by rw [← e1,← e2,h1.1,h2.1];assumption),e1],
     fun j h0 h1=>by rw [ztH (by omega)];exact hj j (by omega) h1⟩
   ·((simp only [vM] at *;omega))
  ·have h1:=zae ‹e.toList[k+((b:Nat):Int).toNat]? = some _›
   have h2:=zae (zbu (i:=((k+b - 1:Nat):Int)) (k+b - 1) (by rw [← ‹e.toList[k+(((b:Nat):Int) - 1).toNat]? = some _›];congr 1;omega) rfl)
   simp only [Int.toNat_natCast] at h1
   have e1:=hj (k+b) (by omega) (by omega)
   have e2:=hj (k+b - 1) (by omega) (by omega)
   refine ⟨(_,_,_),[(0,0)],[],?_,?_,by (refine ⟨rfl,rfl,rfl,?_,?_⟩;repeat' first|exact trivial|exact rfl|refine And.intro ?_ ?_|refine ⟨_,rfl,?_⟩|decide)⟩
   ·exact ⟨a,b+1,e,rfl,by omega,rfl,by omega,by omega,by omega,he,
     by rw [ha,← Nat.add_assoc,ztt (by omega) (by rw [← e1,← e2,h1.1,h2.1];assumption)],
     fun j h0 h1=>hj j (by omega) h1⟩
   ·((simp only [vM] at *;omega))
  ·have hE:=zts (enc:=(D.int .i64)) (e:=e) (z:=(D.int .i64) 0) (a:=a) (n:=(e.toList.map (D.int .i64)).length - a) (by omega)
   rw [ha,show k+b=d.size by omega,hR] at hE
   subst hE
   refine zhL.mk (by simp only [List.length_append,List.length_take,List.length_replicate,List.length_drop,List.length_map,hle];omega) ?_
   (repeat' ((conv=>whnf);fail));all_goals try conv=>whnf
   refine ⟨trivial,_,[(1,1)],[],rfl,.inl (by (repeat' exact rfl)),⟨by rfl,by rfl,by rfl,trivial,by (repeat' first|exact trivial|exact rfl|refine And.intro ?_ ?_|refine ⟨_,rfl,?_⟩|exact of_decide_eq_true rfl)⟩,by (repeat' first|exact trivial|refine And.intro ?_ ?_)⟩
 ·refine ⟨_,[(0,0)],[],?_,?_,by (refine ⟨rfl,rfl,rfl,?_,?_⟩;repeat' first|exact trivial|exact rfl|refine And.intro ?_ ?_|refine ⟨_,rfl,?_⟩|decide)⟩
  ·exact ⟨k+1,by omega,by omega,by omega,fun j h0 h1=>by
    by_cases hjk:j=k
    ·subst hjk
     have g1:=zae (zbu j ‹d.toList[(j:Int).toNat]? = some _› rfl)
     have g2:=zae (zbu (j - 1) ‹d.toList[((j:Int) - 1).toNat]? = some _› (by omega))
     rw [g1.1,g2.1];assumption
    ·exact hk j h0 (by omega)⟩
  ·(omega)
 ·exact absurd (fun j h0 h1=>hk j h0 (by omega)) hd
end Go.Ab
namespace Go.Ab
open Go Go.Proofs Go.MapKept
variable {T : Nat → Obj → Prop}
def O2 (base : Nat) (w : World) (v : Value) (g : Nat) (zs : List Int) : Prop := ∃ cap c e, v = .slice (some ⟨g, 0, none⟩) zs.length cap ∧ base ≤ g ∧ w.heap[g]? = some (.cells c e (0, 0)) ∧ zs.length ≤ cap ∧ cap ≤ c.size ∧ zs.length ≤ 536870912 ∧
  ∀ j, j < zs.length → c.getD j undef = .int .i64 (zs.getD j 0)
def zat (zs : List Int) : Ob := .row 1 (zs.map (D.int .i64))
theorem O2.kept {base : Nat} {w w' : World} {v : Value} {g : Nat} {zs : List Int} (h : O2 base w v g zs) (hg : w'.heap[g]? = w.heap[g]?) : O2 base w' v g zs := by
  obtain ⟨cap, c, e, h1, h2, h3, h4⟩ := h
  exact ⟨cap, c, e, h1, h2, hg.trans h3, h4⟩
def zqR (T : Nat → Obj → Prop) (w : World) (g : Nat) : zt where
  w0 := w
  O := fun b => b < w.heap.size ∧ b ≠ g
  R := fun b => b = g
  nt := 0
  pin := fun b o => T b o ∧ w.heap[b]? = some o ∧ b ≠ g
  pinO := fun b o h => ⟨zi h.2.1, h.2.2⟩
  ghost := fun _ => undef
  small := Nat.zero_le _
  dfr := []
  inv := fun _ _ _ _ => True
  stab := fun _ _ _ _ _ _ _ _ _ _ _ _ => trivial
  mono := fun _ _ _ _ _ _ _ => trivial
theorem zzN {base : Nat} {w : World} {v : Value} {g : Nat} {zs : List Int} (h : O2 base w v g zs) :
    Sim (zqR T w g) (fun _ => .undef) (zp [some (zat zs)]) (fun i => 1 ≤ i) (fun _ => some g) ⟨#[], []⟩ w ∧
    VSim (fun _ => some g) (zp [some (zat zs)]) (fun i => 1 ≤ i) ((zqR T w g).X (fun _ => some g) (zp [some (zat zs)])) w (.own 0) v := by
  obtain ⟨cap, c, e, rfl, h2, h3, h4, h5, h6, h7⟩ := h
  have hm : ∀ i, zp [some (zat zs)] i = if i = 0 then some (zat zs) else none := fun i => by
    match i with
    | 0 => rfl
    | i + 1 => rfl
  have e0 : ∀ i, zp [some (zat zs)] i ≠ none → i = 0 := fun i hi => by
    rw [hm] at hi
    by_cases h : i = 0
    · exact h
    · rw [if_neg h] at hi; exact absurd rfl hi
  refine ⟨⟨fun t => .undef _, fun id ob hid => ?_, fun i j b hi hj _ _ => by rw [e0 i hi, e0 j hj], fun id b hi hb => ?_, fun id hid => by rw [hm, if_neg (by omega)], ⟨rfl, rfl, rfl, Nat.le_refl _, fun _ _ _ => rfl, fun b c e h => ⟨c, h, rfl⟩⟩, ⟨rfl, rfl⟩, fun b hb => hb.1, fun b o h => h.2.1, fun _ _ _ => trivial⟩, ?_⟩
  · rw [hm] at hid
    by_cases h : id = 0
    · rw [if_pos h] at hid
      cases hid
      refine .row 1 (zs.map (D.int .i64)) g c e rfl h3 (by rw [List.length_map]; omega) (by rw [List.length_map]; omega) (fun x hx => ?_) (fun i j hi hj => ?_)
      · obtain ⟨y, -, rfl⟩ := List.mem_map.1 hx
        rfl
      · rw [List.length_map] at hi
        have : j = 0 := by omega
        subst this
        rw [Nat.mul_one, Nat.add_zero, h7 i hi]
        rw [show (zs.map (D.int .i64)).getD i .nil = .int .i64 (zs.getD i 0) by simp [List.getD, hi]]
        exact .int .i64 _ (by simp)
    · rw [if_neg h] at hid; cases hid
  · cases hb
    exact ⟨fun h => h.2 rfl, .inl rfl⟩
  · have := VSim.own (σ := fun _ => some g) (M := zp [some (zat zs)]) (F := fun i => 1 ≤ i) (X := (zqR T w g).X (fun _ => some g) (zp [some (zat zs)])) (w := w) 0 1 (zs.map (D.int .i64)) g cap c e rfl rfl h3 (by rw [List.length_map]; omega) (by omega)
    rwa [List.length_map] at this
theorem zun {w w' : World} {g : Nat} (h : ztS (fun b => b = g) w w') : w.grownBy w' (some g) :=
  ⟨h.os, h.tape, h.output, h.size, fun b hb hne => h.block b hb (fun e => hne (by rw [e]))⟩
theorem zpw {σ : Nat → Option Nat} {M : Nat → Option Ob} {F X : Nat → Prop} {w : World} {id : Nat} {ys : List Int} {v : Value} (hV : VSim σ M F X w (.own id) v) (hO : zaY σ M F X w id (zat ys)) (hm : M id = some (zat ys)) (hl : ys.length ≤ 536870912) (h0 : ys ≠ []) :
    ∃ g, σ id = some g ∧ O2 0 w v g ys := by
  have hlen : (ys.map (D.int .i64)).length = ys.length := List.length_map _
  unfold zat at hm hO
  have pos : 0 < ys.length := List.length_pos_iff.2 h0
  cases hV with
  | ownDead _ ad l c h1 => rw [hm] at h1; cases h1
  | ownNil _ s h1 => rw [hm] at h1; simp at h1; exact absurd h1.2 h0
  | own _ s xs b cap c e h1 h2 h3 h4 h5 =>
    rw [hm] at h1
    simp only [Option.some.injEq, Ob.row.injEq] at h1
    obtain ⟨rfl, rfl⟩ := h1
    refine ⟨b, h2, cap, c, e, by rw [hlen], Nat.zero_le _, h3, by omega, by omega, hl, fun j hj => ?_⟩
    generalize hxs : ys.map (D.int .i64) = xs at hO hlen
    cases hO with
    | nilrow s h => rw [List.length_nil] at hlen; omega
    | row s xs' b' c' e' g1 g2 g3 g4 g5 g6 =>
      rw [h2] at g1; cases g1
      rw [h3] at g2; cases g2
      have := g6 j 0 (by omega) (by omega)
      rw [Nat.mul_one, Nat.add_zero, ← hxs, show (ys.map (D.int .i64)).getD j .nil = .int .i64 (ys.getD j 0) by simp [List.getD, hj]] at this
      generalize c.getD j undef = z at this ⊢
      cases this; rfl
theorem zrh {f : Nat} {zs ys : List Int} {id : Nat} {obs' : List (Option Ob)} (hf : Fn Tryz.prog T f [.own 0] [zat zs] (.own id) obs') (hid : zp obs' id = some (zat ys)) (hl : ys.length ≤ 536870912) (h0 : ys ≠ [])
    {base : Nat} {w : World} {v : Value} {g : Nat} (h : O2 base w v g zs) (hT : ∀ b o, T b o → w.heap[b]? = some o ∧ b ≠ g) (hb : base ≤ w.heap.size) :
    Calls Tryz.prog f #[v] w fun e w' => ∃ v' g', e = .returned v' ∧ O2 base w' v' g' ys ∧ (g' = g ∨ w.heap.size ≤ g') ∧ w.grownBy w' (some g) := by
  obtain ⟨hS, hV⟩ := zzN (T := T) h
  have hbg : base ≤ g := by obtain ⟨_, _, _, _, h2, _⟩ := h; exact h2
  intro cs
  obtain ⟨v', w', σ', ⟨fr, hc, hfn, hlk⟩, hS', hV', -⟩ := hf.2 (zqR T w g) (fun _ => some g) ⟨#[], []⟩ w #[v] (fun b o ht => ⟨ht, hT b o ht⟩) (fun _ _ _ _ => trivial) hS rfl (fun i hi => by
    match i, hi with
    | 0, _ => exact hV) cs
  obtain ⟨g', hg', cap, c, e, q1, -, q2⟩ := zpw hV' (hS'.mem id _ hid) hid hl h0
  have hmine := (hS'.mine id g' (by rw [hid]; simp) hg').2
  refine ⟨.returned v', w', fr, ⟨v', g', rfl, ⟨cap, c, e, q1, ?_, q2⟩, hmine, zun hS'.kept⟩, hc, hfn, hlk⟩
  rcases hmine with rfl | h
  · exact hbg
  · exact Nat.le_trans hb h
end Go.Ab
namespace Go.Ab
open Go Go.Proofs Go.MapKept
def inC (rank cell : List Int) (k : Nat) (c : Int) : List Int := ((List.range k).filter fun w => at0 cell w == c).map (at0 rank)
def zG (cell rank : List Int) (k : Nat) : GI := (zA (cell.take k)).map fun c => (c, inC rank cell k c)
theorem zjX {cell rank : List Int} {k : Nat} {c : Int} : inC rank cell (k + 1) c = inC rank cell k c ++ (if at0 cell k = c then [at0 rank k] else []) := by
  unfold inC
  rw [List.range_succ, List.filter_append, List.map_append]
  congr 1
  by_cases h : at0 cell k = c
  · simp [h]
  · simp [h]
theorem zty {cell rank : List Int} {k : Nat} {c : Int} : (inC rank cell k c).length ≤ k := by
  unfold inC
  rw [List.length_map]
  have := List.length_filter_le (fun w => at0 cell w == c) (List.range k)
  rwa [List.length_range] at this
theorem zno {l : List Int} {c : Int} : zA (l ++ [c]) = if c ∈ zA l then zA l else zA l ++ [c] := by
  simp only [zA, List.foldl_append, List.foldl_cons, List.foldl_nil]
  by_cases h : c ∈ List.foldl (fun l c => if c ∈ l then l else l ++ [c]) [] l
  · exact (if_pos h).trans (if_pos h).symm
  · exact (if_neg h).trans (if_neg h).symm
theorem zoP : ∀ {l acc : List Int}, acc.Nodup → (l.foldl (fun l c => if c ∈ l then l else l ++ [c]) acc).Nodup
  | [], acc, h => h
  | x :: l, acc, h => by
    rw [List.foldl_cons]
    refine zoP ?_
    split
    · exact h
    · rename_i hx
      exact List.nodup_append.2 ⟨h, by simp, fun a ha b hb => by simp at hb; subst hb; intro e; subst e; exact hx ha⟩
theorem zma {l : List Int} : (zA l).Nodup := zoP List.nodup_nil
theorem zsE {cell : List Int} {k : Nat} (h : k < cell.length) : cell.take (k + 1) = cell.take k ++ [at0 cell k] := by
  rw [List.take_add_one, ziQ h]; rfl
theorem zpV {cell rank : List Int} {k : Nat} : (zG cell rank k).map Prod.fst = zA (cell.take k) := by
  rw [zG, List.map_map]
  exact (List.map_congr_left fun _ _ => rfl).trans (List.map_id _)
theorem zzd {cell rank : List Int} {k : Nat} (hk : k < cell.length) (h : at0 cell k ∉ (zG cell rank k).map Prod.fst) : zG cell rank (k + 1) = zG cell rank k ++ [(at0 cell k, [at0 rank k])] := by
  rw [zpV] at h
  have h0 : inC rank cell k (at0 cell k) = [] := by
    rw [inC, List.map_eq_nil_iff, List.filter_eq_nil_iff]
    intro w hw he
    rw [List.mem_range] at hw
    refine h (zki.2 ?_)
    rw [← (show at0 cell w = at0 cell k by simpa using he)]
    exact List.mem_of_getElem? (i := w) (by rw [List.getElem?_take, if_pos hw, ziQ (by omega)])
  rw [zG, zsE hk, zno, if_neg h, List.map_append]
  congr 1
  · refine List.map_congr_left fun c hc => ?_
    rw [zjX, if_neg (fun e => h (by rw [e]; exact hc)), List.append_nil]
  · simp [zjX, h0]
theorem zze {cell rank : List Int} {k i : Nat} (hk : k < cell.length) (hi : i < (zG cell rank k).length) (hc : ((zG cell rank k).getD i default).1 = at0 cell k) :
    zG cell rank (k + 1) = (zG cell rank k).set i (at0 cell k, ((zG cell rank k).getD i default).2 ++ [at0 rank k]) := by
  have hl : i < (zA (cell.take k)).length := by simpa [zG] using hi
  have hg : ∀ j (hj : j < (zA (cell.take k)).length), (zG cell rank k)[j]'(by simpa [zG] using hj) = ((zA (cell.take k))[j], inC rank cell k (zA (cell.take k))[j]) := fun j hj => by simp [zG]
  have hci : (zA (cell.take k))[i] = at0 cell k := by
    rw [← hc]; simp [List.getD, hi, hg i hl]
  have hm : at0 cell k ∈ zA (cell.take k) := by rw [← hci]; exact List.getElem_mem _
  have hn : zG cell rank (k + 1) = (zA (cell.take k)).map fun c => (c, inC rank cell (k + 1) c) := by rw [zG, zsE hk, zno, if_pos hm]
  rw [hn]
  refine List.ext_getElem (by simp [zG]) fun j h1 h2 => ?_
  have hj : j < (zA (cell.take k)).length := by simpa using h1
  rw [List.getElem_map, List.getElem_set]
  by_cases e : i = j
  · subst e
    rw [if_pos rfl, hci, zjX, if_pos rfl]
    simp [List.getD, hi, hg i hl, hci]
  · rw [if_neg e, hg j hj, zjX, if_neg, List.append_nil]
    intro h
    exact e ((List.getElem_inj zma).1 (hci.trans h))
def O1 (base : Nat) (w : World) (v : Value) (g : Nat) (zs : List Int) : Prop := w.ownsRow base 3 1 v zs.length (zs.map (Value.int .i64)) ∧ v.ownBlock = some g
theorem O1.kept {base : Nat} {w w' : World} {v : Value} {g : Nat} {zs : List Int} {row : Option Nat} (h : O1 base w v g zs) (hg : w.grownBy w' row) (hne : some g ≠ row) : O1 base w' v g zs := ⟨h.1.kept hg (.inr (by rw [h.2]; exact hne)), h.2⟩
theorem O1.lt {base : Nat} {w : World} {v : Value} {g : Nat} {zs : List Int} (h : O1 base w v g zs) : base ≤ g ∧ g < w.heap.size := h.1.lt g h.2
theorem O1.O2 {base : Nat} {w : World} {v : Value} {g : Nat} {zs : List Int} (h : O1 base w v g zs) (hl : zs.length ≤ 536870912) : O2 base w v g zs := by
  obtain ⟨⟨h1, h2⟩, h3⟩ := h
  rcases h2 with ⟨rfl, h2⟩ | ⟨g', cap, cur, rfl, h4, h5, h6, h7, h8, h9⟩
  · cases h3
  · cases h3
    refine ⟨cap, cur, 3, rfl, h4, h5, h6, by omega, hl, fun j hj => ?_⟩
    have : (cur.toList.take (zs.length * 1))[j]? = some (Value.int .i64 (zs.getD j 0)) := by rw [h9]; simp [hj, List.getD]
    rw [List.getElem?_take, if_pos (by omega)] at this
    rw [Array.getD_eq_getD_getElem?, ← Array.getElem?_toList, this]; rfl
theorem zep (w : World) (m : Nat) (o : Obj) : w.grownBy { w with heap := w.heap.setIfInBounds m o } (some m) :=
  ⟨rfl, rfl, rfl, by simp, fun k _ hk => by simp [Array.getElem?_setIfInBounds_ne (fun e : m = k => hk (by rw [e]))]⟩
section
variable {w : World} {base m : Nat} {gs : GI} {es : Array MapEntry} {clock : Nat} {blk : Nat → Nat}
theorem Grp.look1 (h : Grp (O1 base) w m gs es clock blk) (hmb : m < base) (c : Int) : ∃ v zs, ∃ tgt : List Int → GI, (v.ownBlock ≠ some m) ∧ (∀ w', w'.heap[m]? = w.heap[m]? → (Instr.lookup 90 (.map (some m)) (.int .i64 c) false).run Tryz.prog w' = .ok v w') ∧ w.ownsRow base 3 1 v zs.length (zs.map (Value.int .i64)) ∧
    ((∃ i, i < gs.length ∧ (gs.getD i default).1 = c ∧ zs = (gs.getD i default).2 ∧ tgt = fun ys => gs.set i (c, ys)) ∨ (c ∉ gs.map Prod.fst ∧ zs = [] ∧ tgt = fun ys => gs ++ [(c, ys)])) ∧
    ∀ w1 v' x, w.grownBy w1 v.ownBlock → w1.ownsRow base 3 1 v' (zs.length + 1) (zs.map (Value.int .i64) ++ [.int .i64 x]) → (v'.ownBlock = v.ownBlock ∨ v'.ownBlock = some w.heap.size ∨ ∃ g, v'.ownBlock = some g ∧ w.heap.size ≤ g) →
      ∃ w2 es' clock' blk', (Instr.mapUpdate 90 (.map (some m)) (.int .i64 c) v').run Tryz.prog w1 = .ok () w2 ∧ Grp (O1 base) w2 m (tgt (zs ++ [x])) es' clock' blk' ∧ w1.grownBy w2 (some m) := by
  have hmw : m < w.heap.size := zi h.heap
  have nn : ∀ {w1 : World} {v' : Value} {zs : List Int} {x : Int}, w1.ownsRow base 3 1 v' (zs.length + 1) (zs.map (Value.int .i64) ++ [.int .i64 x]) → ∃ g, O1 base w1 v' g (zs ++ [x]) := by
    intro w1 v' zs x ho
    have ho' : w1.ownsRow base 3 1 v' (zs ++ [x]).length ((zs ++ [x]).map (Value.int .i64)) := by simpa using ho
    rcases ho.2 with ⟨_, h0⟩ | ⟨g, cap, cur, rfl, _⟩
    · omega
    · exact ⟨g, ho', rfl⟩
  rcases h.find c with ⟨hn, hf⟩ | ⟨i, hi, hc, hf⟩
  · refine ⟨_, [], _, by simp [Value.ownBlock], fun w' hw' => zup (hw'.trans h.heap) hf, World.ownsRow_nil _ _ _ _, .inr ⟨hn, rfl, rfl⟩, fun w1 v' x hg ho hl => ?_⟩
    obtain ⟨g, hv⟩ := nn ho
    have hgw : w.heap.size ≤ g := by
      rcases hl with h1 | h1 | ⟨g', h1, h2⟩
      · rw [hv.2] at h1; cases h1
      · rw [hv.2] at h1; cases h1; exact Nat.le_refl _
      · rw [hv.2] at h1; cases h1; exact h2
    have hm1 : w1.heap[m]? = some (.map es clock) := (hg.block m hmw (by simp [Value.ownBlock])).trans h.heap
    obtain ⟨es', h1, h2⟩ := h.add (w1 := w1) (c := c) (v := v') (g := g) (zs := [] ++ [x]) hf hm1
      (fun o => hv.kept (zep w1 m o) (by simp; have := hv.lt; omega))
      (fun o j hj => ((h.val j hj).kept hg (by simp [Value.ownBlock])).kept (zep w1 m o) (by have := (h.val j hj).lt; simp; omega))
      (fun j hj => by have := (h.val j hj).lt; omega)
    exact ⟨_, es', _, _, h1, h2, zep _ _ _⟩
  · have hvi := h.val i hi
    refine ⟨_, (gs.getD i default).2, _, by rw [hvi.2]; have := hvi.lt; simp; omega, fun w' hw' => zuq (hw'.trans h.heap) hf, hvi.1, .inl ⟨i, hi, hc, rfl, rfl⟩, fun w1 v' x hg ho hl => ?_⟩
    rw [hvi.2] at hg hl
    obtain ⟨g, hv⟩ := nn ho
    have hgw : g = blk i ∨ w.heap.size ≤ g := by
      rcases hl with h1 | h1 | ⟨g', h1, h2⟩
      · rw [hv.2] at h1; cases h1; exact .inl rfl
      · rw [hv.2] at h1; cases h1; exact .inr (Nat.le_refl _)
      · rw [hv.2] at h1; cases h1; exact .inr h2
    have hmi : m ≠ blk i := by have := hvi.lt; omega
    have hm1 : w1.heap[m]? = some (.map es clock) := (hg.block m hmw (by simpa using hmi)).trans h.heap
    have hne : ∀ j, j < gs.length → j ≠ i → blk j ≠ blk i := fun j hj hji e => hji (h.apart j i hj hi e)
    obtain ⟨es', h1, h2, -⟩ := h.set (w1 := w1) (c := c) (u := (es.getD i default).val) (v := v') (g := g) (zs := (gs.getD i default).2 ++ [x]) hi hc hf hm1
      (fun o => hv.kept (zep w1 m o) (by simp; have := hv.lt; omega))
      (fun o j hj hji => ((h.val j hj).kept hg (by simpa using hne j hj hji)).kept (zep w1 m o) (by have := (h.val j hj).lt; simp; omega))
      (fun j hj hji => by
        have := (h.val j hj).lt
        rcases hgw with rfl | h3
        · exact hne j hj hji
        · omega)
    exact ⟨_, es', _, _, h1, h2, zep _ _ _⟩
end
end Go.Ab
namespace Go.Proofs
def Tryz.lays189_ren : Go.Shelf.Ren := ⟨fun | 189 => 110 | 125 => 124 | 257 => 143 | 128 => 158 | 129 => 159 | 294 => 166 | 295 => 167 | 296 => 168 | 297 => 169 | 298 => 170 | 299 => 171 | 216 => 172 | 300 => 173 | 301 => 174 | 328 => 192 | 329 => 179 | 330 => 180 | 331 => 193 | 332 => 194 | 215 => 195 | 343 => 201 | n => n, fun | 28 => 28 | 3 => 3 | 46 => 101 | 0 => 0 | 51 => 158 | 53 => 44 | 4 => 4 | 183 => 151 | 182 => 150 | 131 => 122 | 5 => 5 | 9 => 9 | 218 => 172 | 222 => 176 | 228 => 188 | 229 => 37 | n => n, fun | n => n⟩
theorem Tryz.lays189 : Go.Proofs.Lays.n189 Tryz.prog Tryz.lays189_ren := {
  mixed := by kernel_rfl
  f125 := Tryz.func124.trans (congrArg some (by kernel_rfl))
  f128 := Tryz.func158.trans (congrArg some (by kernel_rfl))
  f129 := Tryz.func159.trans (congrArg some (by kernel_rfl))
  f189 := Tryz.func110.trans (congrArg some (by kernel_rfl))
  f215 := Tryz.func195.trans (congrArg some (by kernel_rfl))
  f216 := Tryz.func172.trans (congrArg some (by kernel_rfl))
  f257 := Tryz.func143.trans (congrArg some (by kernel_rfl))
  f294 := Tryz.func166.trans (congrArg some (by kernel_rfl))
  f295 := Tryz.func167.trans (congrArg some (by kernel_rfl))
  f296 := Tryz.func168.trans (congrArg some (by kernel_rfl))
  f297 := Tryz.func169.trans (congrArg some (by kernel_rfl))
  f298 := Tryz.func170.trans (congrArg some (by kernel_rfl))
  f299 := Tryz.func171.trans (congrArg some (by kernel_rfl))
  f300 := Tryz.func173.trans (congrArg some (by kernel_rfl))
  f301 := Tryz.func174.trans (congrArg some (by kernel_rfl))
  f328 := Tryz.func192.trans (congrArg some (by kernel_rfl))
  f329 := Tryz.func179.trans (congrArg some (by kernel_rfl))
  f330 := Tryz.func180.trans (congrArg some (by kernel_rfl))
  f331 := Tryz.func193.trans (congrArg some (by kernel_rfl))
  f332 := Tryz.func194.trans (congrArg some (by kernel_rfl))
  f343 := Tryz.func201.trans (congrArg some (by kernel_rfl))
  t0 := Tryz.underlying0
  a0 := Tryz.isAgg0
  z0 := Tryz.sizeOf0
  v0 := Tryz.zeroValue0
  t3 := Tryz.underlying3
  a3 := Tryz.isAgg3
  z3 := Tryz.sizeOf3
  v3 := Tryz.zeroValue3
  t4 := Tryz.underlying4
  a4 := Tryz.isAgg4
  z4 := Tryz.sizeOf4
  v4 := Tryz.zeroValue4
  t5 := Tryz.underlying5
  a5 := Tryz.isAgg5
  z5 := Tryz.sizeOf5
  v5 := Tryz.zeroValue5
  t9 := Tryz.underlying9
  a9 := Tryz.isAgg9
  z9 := Tryz.sizeOf9
  v9 := Tryz.zeroValue9
  t28 := Tryz.underlying28
  a28 := Tryz.isAgg28
  z28 := Tryz.sizeOf28
  v28 := Tryz.zeroValue28
  t46 := Tryz.underlying101
  a46 := Tryz.isAgg101
  z46 := Tryz.sizeOf101
  v46 := Tryz.zeroValue101
  t51 := Tryz.underlying158
  a51 := Tryz.isAgg158
  z51 := Tryz.sizeOf158
  v51 := Tryz.zeroValue158
  t53 := Tryz.underlying44
  a53 := Tryz.isAgg44
  z53 := Tryz.sizeOf44
  v53 := Tryz.zeroValue44
  t131 := Tryz.underlying122
  a131 := Tryz.isAgg122
  z131 := Tryz.sizeOf122
  v131 := Tryz.zeroValue122
  t182 := Tryz.underlying150
  a182 := Tryz.isAgg150
  z182 := Tryz.sizeOf150
  v182 := Tryz.zeroValue150
  t183 := Tryz.underlying151
  a183 := Tryz.isAgg151
  z183 := Tryz.sizeOf151
  v183 := Tryz.zeroValue151
  t218 := Tryz.underlying172
  a218 := Tryz.isAgg172
  z218 := Tryz.sizeOf172
  v218 := Tryz.zeroValue172
  t222 := Tryz.underlying176
  a222 := Tryz.isAgg176
  z222 := Tryz.sizeOf176
  v222 := Tryz.zeroValue176
  t228 := Tryz.underlying188
  a228 := Tryz.isAgg188
  z228 := Tryz.sizeOf188
  v228 := Tryz.zeroValue188
  t229 := Tryz.underlying37
  a229 := Tryz.isAgg37
  z229 := Tryz.sizeOf37
  v229 := Tryz.zeroValue37 }
end Go.Proofs
namespace Go.Ab
open Go Go.Proofs Go.MapKept
open Go.ChangeMaps (setBlock)
variable {T : Nat → Obj → Prop}
def zd6 (zs : List Int) : List Int := ddA (Sort.sort Sort.ltInt zs.toArray) (Sort.sort Sort.ltInt zs.toArray).size
theorem zt7 {d : Array Int} : ∀ {n : Nat}, 0 < n → ddA d n ≠ []
  | 1, _ => by simp [ddA]
  | n + 2, _ => by
    rw [ddA]
    split
    · exact zt7 (Nat.succ_pos n)
    · simp
theorem zro {α : Type} [Inhabited α] [DecidableEq α] {d : Array α} : ∀ {n : Nat}, (ddA d n).length ≤ n
  | 0 => Nat.le_refl 0
  | n + 1 => by
    have := zro (d := d) (n := n)
    rw [ddA]
    split
    · omega
    · simp; omega
theorem zqo (d : Array Int) : (Sort.sort Sort.ltInt d).size = d.size := zxt Sort.swo_ltInt d.size d 0 d.size _ true true (by omega) (Nat.zero_le _) (Nat.le_refl _)
theorem zrg {d : Array Int} (hl : d.size ≤ 536870912) (h0 : 0 < d.size) {base : Nat} {w : World} {v : Value} {g : Nat} (h : O2 base w v g d.toList) (hT : ∀ b o, T b o → w.heap[b]? = some o ∧ b ≠ g) (hb : base ≤ w.heap.size) :
    Calls Tryz.prog 111 #[v] w fun e w' => ∃ v' g', e = .returned v' ∧ O2 base w' v' g' (ddA d d.size) ∧ (g' = g ∨ w.heap.size ≤ g') ∧ w.grownBy w' (some g) := by
  by_cases hs : Steps d
  · have hd : ddA d d.size = d.toList := by
      rw [zmD (Nat.le_refl _) (fun j h1 h2 => hs j h1 h2), List.take_of_length_le (by simp)]
    exact zrh (T := T) (f := 111) (id := 0) (zmU d hl hs) (by rw [hd]; rfl) (Nat.le_trans zro hl) (zt7 h0) h hT hb
  · exact zrh (T := T) (f := 111) (id := 1) (zlF d hl hs) rfl (Nat.le_trans zro hl) (zt7 h0) h hT hb
theorem zt2 {zs : List Int} (hl : zs.length ≤ 536870912) (h0 : zs ≠ []) {base : Nat} {w : World} {v : Value} {g : Nat} (h : O2 base w v g zs) (hT : ∀ b o, T b o → w.heap[b]? = some o ∧ b ≠ g) :
    Calls Tryz.prog 110 #[v] w fun e w' => e = .returned (.tuple #[]) ∧ O2 base w' v g (Sort.sort Sort.ltInt zs.toArray).toList ∧ w.grownBy w' (some g) := by
  have hz : (Sort.sort Sort.ltInt zs.toArray).toList.length = zs.length := by rw [Array.length_toList, zqo]; simp
  obtain ⟨cap, c, e, rfl, h2, h3, h4, h5, h6, h7⟩ := h
  have hH := holds_of_blockI (ss := zs) h3 (by
    refine List.ext_getElem (by simp; omega) fun i h1 h8 => ?_
    have h8 : i < zs.length := by simpa using h8
    have := h7 i h8
    simp [List.getD, h8, show i < c.size by omega] at this
    simp [this])
  refine (Any.slices_Sort_int Tryz.lays189 g 0 cap zs w hH (zi h3) (by omega)).mono fun x w' => ?_
  rintro ⟨rfl, n, os, rfl⟩
  have hq : (zs.mergeSort fun x y => decide (x ≤ y)) = (Sort.sort Sort.ltInt zs.toArray).toList := (Go.Sort.sortInt zs).symm
  rw [hq]
  generalize (Sort.sort Sort.ltInt zs.toArray).toList = ys at hz
  refine ⟨rfl, ⟨cap, _, e, by rw [hz], h2, heap_sortedI _ h3, by omega, by simp [Sort.putCells]; omega, by omega, fun j hj => ?_⟩, grownBy_sortedI _⟩
  have ht := take_putCellsI c ys (by omega)
  have := congrArg (fun l : List Value => l.getD j undef) ht
  simp [List.getD, List.getElem?_take, hj] at this
  simpa [List.getD, hj] using this
def gAt (gs : GI) (born : Nat → Nat) (seen : Array Nat) : GI := (List.range gs.length).map fun j => ((gs.getD j default).1, if seen.contains (born j) then zd6 (gs.getD j default).2 else (gs.getD j default).2)
def zht (n : Nat) (born : Nat → Nat) (seen : Array Nat) : Nat := ((List.range n).filter fun j => !seen.contains (born j)).length
structure Mid (w : World) (m base r clock : Nat) (gs : GI) (born : Nat → Nat) (seen : Array Nat) (wr : World) : Prop where
  ex : ∃ es blk, Grp (O2 base) wr m (gAt gs born seen) es clock blk ∧ (∀ j, j < gs.length → (es.getD j default).born = born j) ∧ ∀ j, j < gs.length → blk j ≠ r ∧ blk j < wr.heap.size
  iter : wr.heap[r]? = some (.mapIter (some m) clock seen clock)
  grown : w.grownBy wr none
  mr : m < base ∧ base ≤ r ∧ w.heap.size ≤ m
theorem zdt {gs : GI} {born : Nat → Nat} {seen : Array Nat} : (gAt gs born seen).length = gs.length := by simp [gAt]
theorem ztw {gs : GI} {born : Nat → Nat} {seen : Array Nat} {j : Nat} (hj : j < gs.length) : (gAt gs born seen).getD j default = ((gs.getD j default).1, if seen.contains (born j) then zd6 (gs.getD j default).2 else (gs.getD j default).2) := by
  simp [gAt, List.getD, hj]
theorem zw6 {gs : GI} {born : Nat → Nat} {seen : Array Nat} {i : Nat} (hi : i < gs.length) (hb : ∀ j, j < gs.length → born j = born i → j = i) :
    gAt gs born (seen.push (born i)) = (gAt gs born seen).set i ((gs.getD i default).1, zd6 (gs.getD i default).2) := by
  refine List.ext_getElem (by simp [gAt]) fun j h1 h2 => ?_
  have hj : j < gs.length := by simpa [gAt] using h1
  rw [List.getElem_set]
  simp only [gAt, List.getElem_map, List.getElem_range, Array.contains_push]
  by_cases e : i = j
  · subst e; simp
  · rw [if_neg e]
    have : (born j == born i) = false := by simpa using fun h => e (hb j hj h).symm
    simp [this]
theorem ztg {n : Nat} {born : Nat → Nat} {seen : Array Nat} {i : Nat} (hi : i < n) (hs : seen.contains (born i) = false) : zht n born (seen.push (born i)) < zht n born seen := by
  unfold zht
  have hsub : ((List.range n).filter fun j => !(seen.push (born i)).contains (born j)) = ((List.range n).filter fun j => !seen.contains (born j)).filter fun j => !(born j == born i) := by
    rw [List.filter_filter]
    refine List.filter_congr fun j _ => ?_
    rw [Array.contains_push]
    cases seen.contains (born j) <;> cases (born j == born i) <;> rfl
  rw [hsub]
  refine Nat.lt_of_le_of_ne (List.length_filter_le _ _) fun h => ?_
  have := (List.filter_eq_self.1 (List.length_filter_eq_length_iff.1 h |> fun hh => List.filter_eq_self.2 hh)) i (List.mem_filter.2 ⟨List.mem_range.2 hi, by simpa using hs⟩)
  simp at this
end Go.Ab
namespace Go.Ab
open Go Go.Proofs Go.MapKept
open Go.ChangeMaps (setBlock)
variable {T : Nat → Obj → Prop}
theorem Mid.round {w wr : World} {m base r clock : Nat} {gs : GI} {born : Nat → Nat} {seen : Array Nat} (h : Mid w m base r clock gs born seen wr) (ty : TypeId) (hT : ∀ b o, T b o → w.heap[b]? = some o)
    (hk : ∀ i j, i < gs.length → j < gs.length → (gs.getD i default).1 = (gs.getD j default).1 → i = j) (hz : ∀ j, j < gs.length → (gs.getD j default).2 ≠ [] ∧ (gs.getD j default).2.length ≤ 536870912) :
    ((Instr.next (.pointer (some ⟨r, 0, none⟩)) false ty).run Tryz.prog wr = .ok (.tuple #[.bool false]) wr ∧ ∀ j, j < gs.length → seen.contains (born j) = true) ∨
    ∃ (c : Int) (v : Value) (wn : World), (Instr.next (.pointer (some ⟨r, 0, none⟩)) false ty).run Tryz.prog wr = .ok (.tuple #[.bool true, .int .i64 c, v]) wn ∧ (Instr.entry (.pointer (some ⟨r, 0, none⟩))).run Tryz.prog wn = .ok (.tuple #[.int .i64 c, v]) wn ∧
      Calls Tryz.prog 110 #[v] wn fun e w' => e = .returned (.tuple #[]) ∧ Calls Tryz.prog 111 #[v] w' fun e w'' => ∃ v', e = .returned v' ∧ ∃ wz seen', (Instr.mapUpdate 90 (.map (some m)) (.int .i64 c) v').run Tryz.prog w'' = .ok () wz ∧
        Mid w m base r clock gs born seen' wz ∧ zht gs.length born seen' < zht gs.length born seen := by
  obtain ⟨es, blk, hG, hborn, hblk⟩ := h.ex
  obtain ⟨hmb, hbr, hwm⟩ := h.mr
  have hsz : es.size = gs.length := hG.size.trans zdt
  have idx : ∀ x ∈ es.toList, ∃ j, j < gs.length ∧ es.getD j default = x := fun x hx => by
    obtain ⟨j, hj, rfl⟩ := List.getElem_of_mem hx
    rw [Array.length_toList] at hj
    exact ⟨j, by omega, by simp [Array.getD_eq_getD_getElem?, hj]⟩
  have hold : ∀ x ∈ es.toList, x.born < clock := fun x hx => by
    obtain ⟨j, hj, rfl⟩ := idx x hx
    exact hG.st.lt j (by omega)
  have hbi : ∀ i j, i < gs.length → j < gs.length → born i = born j → i = j := fun i j hi hj e => hG.st.inj i j (by omega) (by omega) (by rw [hborn i hi, hborn j hj, e])
  rcases run_next_at (P := Tryz.prog) wr ty r m clock clock seen es clock h.iter hG.heap hold (Nat.le_refl _) with ⟨h0, hrun⟩ | ⟨e, he, w1, hw1, hrun⟩
  · refine .inl ⟨hrun, fun j hj => ?_⟩
    by_cases hc : seen.contains (born j) = true
    · exact hc
    · have hm : es.getD j default ∈ (leftOf es seen) := by
        unfold leftOf
        refine Array.mem_filter.2 ⟨?_, ?_⟩
        · rw [show es.getD j default = es[j]'(by omega) by simp [Array.getD_eq_getD_getElem?, show j < es.size by omega]]
          exact Array.getElem_mem _
        · rw [hborn j hj]; simpa using hc
      have : leftOf es seen = #[] := Array.eq_empty_of_size_eq_zero h0
      rw [this] at hm
      simp at hm
  · right
    have he' : e ∈ es ∧ seen.contains e.born = false := by
      have : e ∈ leftOf es seen := by simpa using he
      unfold leftOf at this
      obtain ⟨h1, h2⟩ := Array.mem_filter.1 this
      exact ⟨h1, by simpa using h2⟩
    obtain ⟨j, hj, rfl⟩ := idx e (by simpa using he'.1)
    have hs := he'.2
    rw [hborn j hj] at hs hrun
    have hjl : j < (gAt gs born seen).length := by rw [zdt]; exact hj
    have hkey := hG.key j hjl
    have hval := hG.val j hjl
    have hgj := ztw (born := born) (seen := seen) hj
    rw [hs] at hgj
    simp only [Bool.false_eq_true, if_false] at hgj
    rw [hgj] at hkey hval
    simp only at hkey hval
    rw [hkey] at hrun
    have hw1h : w1.heap = wr.heap ∧ w1.os = wr.os ∧ w1.tape = wr.tape ∧ w1.output = wr.output := by rcases hw1 with rfl | rfl <;> exact ⟨rfl, rfl, rfl, rfl⟩
    have hrlt : r < wr.heap.size := zi h.iter
    generalize hwn : setBlock w1 r (.mapIter (some m) clock (seen.push (born j)) clock) = wn at hrun
    have nr : wn.heap[r]? = some (.mapIter (some m) clock (seen.push (born j)) clock) := by rw [← hwn]; simp [setBlock, hw1h.1, hrlt]
    have no : ∀ b, b ≠ r → wn.heap[b]? = wr.heap[b]? := fun b hb => by rw [← hwn]; simp [setBlock, hw1h.1, Array.getElem?_setIfInBounds_ne (Ne.symm hb)]
    have ns : wn.heap.size = wr.heap.size := by rw [← hwn]; simp [setBlock, hw1h.1]
    have nx : wn.os = wr.os ∧ wn.tape = wr.tape ∧ wn.output = wr.output := by rw [← hwn]; exact hw1h.2
    clear hwn
    obtain ⟨hbj1, hbj2⟩ := hblk j hj
    have hbase : ∀ i, i < gs.length → base ≤ blk i := fun i hi => by
      obtain ⟨_, _, _, _, h2, _⟩ := hG.val i (by rw [zdt]; exact hi); exact h2
    have hgn : w.grownBy wn none := ⟨nx.1.trans h.grown.os, nx.2.1.trans h.grown.tape, nx.2.2.trans h.grown.output, by rw [ns]; exact h.grown.size, fun b hb _ => (no b (by omega)).trans (h.grown.block b hb (by simp))⟩
    have hTn : ∀ (x : World), wn.grownBy x (some (blk j)) → ∀ b o, T b o → x.heap[b]? = some o ∧ b ≠ blk j := fun x hx b o ht => by
      have h1 := hT b o ht
      have h2 := zi h1
      have h3 := hbase j hj
      exact ⟨(hx.block b (Nat.lt_of_lt_of_le h2 hgn.size) (by simp; omega)).trans ((hgn.block b h2 (by simp)).trans h1), by omega⟩
    have hself : wn.grownBy wn (some (blk j)) := ⟨rfl, rfl, rfl, Nat.le_refl _, fun _ _ _ => rfl⟩
    refine ⟨(gs.getD j default).1, (es.getD j default).val, wn, hrun, ?_, ?_⟩
    · have := run_entry_at (P := Tryz.prog) wn r m clock seen es clock (es.getD j default) (by rw [hborn j hj]; exact nr) ((no m (by omega)).trans hG.heap) (by simpa using he'.1) (by
        refine List.pairwise_iff_getElem.2 fun p q hp hq hpq e => ?_
        simp only [List.length_map, Array.length_toList] at hp hq
        have := hG.st.inj p q hp hq (by simpa [Array.getD_eq_getD_getElem?, hp, hq] using e)
        omega)
      rw [hkey] at this
      exact this
    · refine (zt2 (T := T) (hz j hj).2 (hz j hj).1 (hval.kept (no _ hbj1)) (hTn wn hself)).mono ?_
      rintro e1 w' ⟨rfl, hO1, hg1⟩
      refine ⟨rfl, ?_⟩
      have hds : (Sort.sort Sort.ltInt (gs.getD j default).2.toArray).size = (gs.getD j default).2.length := by rw [zqo]; simp
      refine (zrg (T := T) (d := Sort.sort Sort.ltInt (gs.getD j default).2.toArray) (by rw [hds]; exact (hz j hj).2) (by rw [hds]; exact List.length_pos_iff.2 (hz j hj).1) hO1 (hTn w' hg1) (by have := hbase j hj; have := hg1.size; omega)).mono ?_
      rintro e2 w'' ⟨v', g', rfl, hO2, hg', hg2⟩
      refine ⟨v', rfl, ?_⟩
      have hg12 : wn.grownBy w'' (some (blk j)) := ⟨hg2.os.trans hg1.os, hg2.tape.trans hg1.tape, hg2.output.trans hg1.output, Nat.le_trans hg1.size hg2.size, fun b hb hne => (hg2.block b (Nat.lt_of_lt_of_le hb hg1.size) hne).trans (hg1.block b hb hne)⟩
      have hmj : m ≠ blk j := by have := hbase j hj; omega
      have hm2 : w''.heap[m]? = some (.map es clock) := (hg12.block m (by rw [ns]; omega) (by simpa using hmj)).trans ((no m (by omega)).trans hG.heap)
      have hg'b : base ≤ g' := by obtain ⟨_, _, _, _, h2, _⟩ := hO2; exact h2
      have hg'l : g' < w''.heap.size := by obtain ⟨_, _, _, _, _, h3, _⟩ := hO2; exact zi h3
      have hg'r : g' ≠ r := by
        rcases hg' with rfl | h3
        · exact hbj1
        · have := hg1.size; omega
      have hf : Instr.findNow (.int .i64) (.int .i64 (gs.getD j default).1) es.toList 0 = some (some (j, (es.getD j default).val)) := by
        rcases hG.find (gs.getD j default).1 with ⟨hn, -⟩ | ⟨i, hi, hi2, hf⟩
        · refine absurd ?_ hn
          refine List.mem_map.2 ⟨(gAt gs born seen).getD j default, ?_, by rw [hgj]⟩
          simp [List.getD, hjl]
        · rw [zdt] at hi
          rw [ztw hi] at hi2
          have := hk i j hi hj hi2
          subst this
          exact hf
      obtain ⟨es', hup, hG', hbn⟩ := hG.set (w1 := w'') (c := (gs.getD j default).1) (i := j) (u := (es.getD j default).val) (v := v') (g := g') (zs := zd6 (gs.getD j default).2) hjl (by rw [hgj]) hf hm2
        (fun o => hO2.kept (by simp [Array.getElem?_setIfInBounds_ne (show m ≠ g' by omega)]))
        (fun o i hi hij => (hG.val i hi).kept (by
          rw [zdt] at hi
          have h1 := hbase i hi
          have h2 : blk i ≠ blk j := fun e => hij (hG.apart i j (by rw [zdt]; exact hi) hjl e)
          obtain ⟨h3, h4⟩ := hblk i hi
          show (w''.heap.setIfInBounds m o)[blk i]? = _
          rw [Array.getElem?_setIfInBounds_ne (show m ≠ blk i by omega), hg12.block (blk i) (by rw [ns]; exact h4) (by simpa using h2), no _ h3]))
        (fun i hi hij => by
          rw [zdt] at hi
          have h2 : blk i ≠ blk j := fun e => hij (hG.apart i j (by rw [zdt]; exact hi) hjl e)
          have h4 := (hblk i hi).2
          rcases hg' with rfl | h3
          · exact h2
          · have := hg1.size; omega)
      refine ⟨_, seen.push (born j), hup, ⟨⟨es', fun i => if i = j then g' else blk i, ?_, fun i hi => (hbn i (by rw [zdt]; exact hi)).trans (hborn i hi), fun i hi => ?_⟩, ?_, ?_, hmb, hbr, hwm⟩, ztg hj hs⟩
      · rw [zw6 hj (fun i hi e => hbi i j hi hj e)]
        exact hG'
      · show (if i = j then g' else blk i) ≠ r ∧ (if i = j then g' else blk i) < _
        by_cases e : i = j
        · rw [if_pos e]; exact ⟨hg'r, by simpa using hg'l⟩
        · rw [if_neg e]
          refine ⟨(hblk i hi).1, ?_⟩
          have := (hblk i hi).2; have := hg12.size; simp; omega
      · show (w''.heap.setIfInBounds m _)[r]? = _
        rw [Array.getElem?_setIfInBounds_ne (show m ≠ r by omega), hg12.block r (by rw [ns]; exact hrlt) (by simpa using Ne.symm hbj1), nr]
      · refine ⟨hg12.os.trans hgn.os, hg12.tape.trans hgn.tape, hg12.output.trans hgn.output, by simp; exact Nat.le_trans hgn.size hg12.size, fun b hb _ => ?_⟩
        show (w''.heap.setIfInBounds m _)[b]? = _
        have := hbase j hj
        rw [Array.getElem?_setIfInBounds_ne (show m ≠ b by omega), hg12.block b (Nat.lt_of_lt_of_le hb hgn.size) (by simp; omega), hgn.block b hb (by simp)]
def zxf (r n : Nat) (born : Nat → Nat) (w : World) : Nat := match w.heap[r]? with
  | some (.mapIter _ _ seen _) => zht n born seen
  | _ => 0
theorem Mid.mu {w wr : World} {m base r clock n : Nat} {gs : GI} {born : Nat → Nat} {seen : Array Nat} (h : Mid w m base r clock gs born seen wr) : zxf r n born wr = zht n born seen := by
  rw [zxf, h.iter]
theorem zyv {gs : GI} {born : Nat → Nat} : gAt gs born #[] = gs := by
  refine List.ext_getElem (by simp [gAt]) fun j h1 h2 => ?_
  simp [gAt, List.getD, h2]
theorem zyu {gs : GI} {born : Nat → Nat} {seen : Array Nat} (h : ∀ j, j < gs.length → seen.contains (born j) = true) : gAt gs born seen = gs.map fun p => (p.1, zd6 p.2) := by
  refine List.ext_getElem (by simp [gAt]) fun j h1 h2 => ?_
  have hj : j < gs.length := by simpa using h2
  have := h j hj
  simp only [gAt, List.getElem_map, List.getElem_range, this, if_true]
  simp [List.getD, hj]
theorem Mid.start {w wr : World} {m base clock : Nat} {gs : GI} {es : Array MapEntry} {blk : Nat → Nat} (hG : Grp (O1 base) wr m gs es clock blk) (hz : ∀ j, j < gs.length → (gs.getD j default).2.length ≤ 536870912)
    (hgr : w.grownBy wr none) (hmb : m < base) (hb : base ≤ wr.heap.size) (hwm : w.heap.size ≤ m) :
    Mid w m base wr.heap.size clock gs (fun j => (es.getD j default).born) #[] (wr.alloc (.mapIter (some m) clock #[] clock)) := by
  refine ⟨⟨es, blk, ?_, fun j hj => rfl, fun j hj => ?_⟩, heap_alloc_new _ _, hgr.trans (World.grownBy_alloc _ _ _), hmb, hb, hwm⟩
  · rw [zyv]
    exact ⟨(heap_alloc_old _ _ (zi hG.heap)).trans hG.heap, hG.st, hG.size, hG.key, fun i hi => ((hG.val i hi).O2 (hz i hi)).kept (heap_alloc_old _ _ (hG.val i hi).lt.2), hG.apart⟩
  · have := (hG.val j hj).lt
    exact ⟨by omega, by simp; omega⟩
end Go.Ab
namespace Go.Ab
open Go Go.Proofs Go.MapKept Go.RowKit Go.WideMaps Go.Maps
section
variable {P : Program} (w : World) {ops : Array Oper} {rest : List Oper} {o : Oper} {a : Act} {Q : Exit → Act → World → Prop}
end
theorem zxE : (Tryz.prog.info? 3).map (fun i => (i.zero, i.size, i.bytes)) = some (some (.int .i64 0), 1, 8) := by kernel_rfl
variable {T : Nat → Obj → Prop}
theorem zzD {cell rank : List Int} (hl : cell.length ≤ 536870912) : ∀ j, j < (zG cell rank cell.length).length → ((zG cell rank cell.length).getD j default).2 ≠ [] ∧ ((zG cell rank cell.length).getD j default).2.length ≤ 536870912 := by
  intro j hj
  have hm : (zG cell rank cell.length).getD j default ∈ zG cell rank cell.length := by simp [List.getD, hj]
  obtain ⟨c, hc, e⟩ := List.mem_map.1 hm
  rw [← e]
  refine ⟨fun h => ?_, Nat.le_trans zty hl⟩
  rw [List.take_length] at hc
  obtain ⟨i, hi, h2⟩ := zfv.1 (zki.1 hc)
  have : at0 rank i ∈ inC rank cell cell.length c := List.mem_map.2 ⟨i, List.mem_filter.2 ⟨List.mem_range.2 hi, by simpa using h2⟩, rfl⟩
  rw [show inC rank cell cell.length c = [] from h] at this
  cases this
theorem zyw {cell rank : List Int} : ∀ i j, i < (zG cell rank cell.length).length → j < (zG cell rank cell.length).length → ((zG cell rank cell.length).getD i default).1 = ((zG cell rank cell.length).getD j default).1 → i = j := by
  intro i j hi hj e
  have hn : ((zG cell rank cell.length).map Prod.fst).Nodup := by rw [zpV]; exact zma
  have hi' : i < ((zG cell rank cell.length).map Prod.fst).length := by simpa using hi
  have hj' : j < ((zG cell rank cell.length).map Prod.fst).length := by simpa using hj
  refine (List.getElem_inj (h₀ := hi') (h₁ := hj') hn).1 ?_
  simpa [List.getD, hi, hj] using e
set_option maxHeartbeats 4000000 in
set_option maxRecDepth 100000 in
theorem zoU (b1 o1 cap1 b2 o2 cap2 n2 : Nat) (cell rank : List Int) (w : World) (hn : 0 < cell.length) (hn2 : cell.length ≤ n2) (hl : cell.length ≤ 536870912)
    (hT : ∀ b o, T b o → w.heap[b]? = some o) (hb1 : b1 < w.heap.size) (hb2 : b2 < w.heap.size)
    (hc1 : ∀ j, j < cell.length → w.cell? ⟨b1, o1 + j, none⟩ = some (.int .i64 (at0 cell j))) (hc2 : ∀ j, j < cell.length → w.cell? ⟨b2, o2 + j, none⟩ = some (.int .i64 (at0 rank j))) :
    Calls Tryz.prog 70 #[.slice (some ⟨b1, o1, none⟩) cell.length cap1, .slice (some ⟨b2, o2, none⟩) n2 cap2] w fun e w' => e = .returned (.map (some w.heap.size)) ∧ w.grownBy w' none ∧ ∃ es clock blk, Grp (O2 (w.heap.size + 1)) w' w.heap.size ((zG cell rank cell.length).map fun p => (p.1, zd6 p.2)) es clock blk := by
  have hmm := @run_makeMap Tryz.prog
  obtain ⟨i0, hi, hz0, hz1, hz2⟩ := info_parts zxE
  go_enter Tryz.func70, Tryz.ntmps70
  go_wp2
  go_loopw [13] (fun i wr => ∃ k : Nat, k ≤ cell.length ∧ i = .int .i64 k ∧ ∃ es clock blk, Grp (O1 (w.heap.size + 1)) wr w.heap.size (zG cell rank k) es clock blk ∧ w.grownBy wr none ∧ w.heap.size + 1 ≤ wr.heap.size)
    (fun i _ => cell.length - (RowKit.intOf i).toNat)
  case atStart =>
    refine ⟨0, Nat.zero_le _, rfl, #[], 0, fun _ => 0, ?_, World.grownBy_alloc _ _ _, by simp⟩
    exact ⟨heap_alloc_new _ _, ⟨fun i j hi => by simp at hi, fun i hi => by simp at hi⟩, rfl, fun i hi => by simp [zG, zA] at hi, fun i hi => by simp [zG, zA] at hi, fun i j hi => by simp [zG, zA] at hi⟩
  case round =>
    obtain ⟨k, hk, rfl, es, clock, blk, hG, hgr, hsz⟩ := hrel
    have hcx1 : k < cell.length → wr.cell? ⟨b1, o1 + k, none⟩ = some (.int .i64 (at0 cell k)) := fun hlt => (zc6 (hgr.block b1 hb1 (by simp))).trans (hc1 k hlt)
    have hcx2 : k < cell.length → wr.cell? ⟨b2, o2 + k, none⟩ = some (.int .i64 (at0 rank k)) := fun hlt => (zc6 (hgr.block b2 hb2 (by simp))).trans (hc2 k hlt)
    obtain ⟨v, zs, tgt, hvm, hlook, hown, hcase, hback⟩ := hG.look1 (Nat.lt_succ_self _) (at0 cell k)
    have hmw : w.heap.size < wr.heap.size := by omega
    have hzl : zs.length ≤ k := by
      rcases hcase with ⟨i, hi1, -, rfl, -⟩ | ⟨-, rfl, -⟩
      · have : (zG cell rank k).getD i default ∈ zG cell rank k := by simp [List.getD, hi1]
        obtain ⟨c, -, hc⟩ := List.mem_map.1 this
        rw [← hc]; exact zty
      · simp
    have hvb : ∀ b, b < w.heap.size → some b ≠ v.ownBlock := fun b hb e => by have := (hown.lt b e.symm).1; omega
    have hik0 : (0 : Int) ≤ (k : Int) := Int.natCast_nonneg _
    have hik1 : k < cell.length → (k : Int) < (n2 : Int) := fun h => by omega
    have hbk : k < cell.length → ∀ w1 gg cap o, (wr.drew.alloc o).grownBy w1 v.ownBlock → w1.ownsRow (w.heap.size + 1) 3 1 (.slice (some ⟨gg, 0, none⟩) (zs.length + 1) cap) (zs.length + 1) (zs.map (Value.int .i64) ++ [.int .i64 (at0 rank k)]) → (v.ownBlock = some gg ∨ gg = wr.heap.size + 1) →
        ∃ w2 es' clock' blk', (Instr.mapUpdate 90 (.map (some w.heap.size)) (.int .i64 (at0 cell k)) (.slice (some ⟨gg, 0, none⟩) (zs.length + 1) cap)).run Tryz.prog w1 = .ok () w2 ∧ Grp (O1 (w.heap.size + 1)) w2 w.heap.size (zG cell rank (k + 1)) es' clock' blk' ∧ w.grownBy w2 none ∧ w.heap.size + 1 ≤ w2.heap.size := by
      intro hlt w1 gg cap o hgrow hown1 hat
      have h1 : wr.drew.grownBy w1 v.ownBlock := (World.grownBy_alloc wr.drew _ _).trans hgrow
      obtain ⟨w2, es', clock', blk', q1, q2, q3⟩ := hback w1 _ _ ⟨h1.os, h1.tape, h1.output, h1.size, h1.block⟩ hown1 (hat.elim (fun h => .inl h.symm) (fun h => .inr (.inr ⟨gg, rfl, by omega⟩)))
      have hs1 : wr.heap.size ≤ w1.heap.size := h1.size
      have hs2 := q3.size
      refine ⟨w2, es', clock', blk', q1, ?_, ⟨q3.os.trans (h1.os.trans hgr.os), q3.tape.trans (h1.tape.trans hgr.tape), q3.output.trans (h1.output.trans hgr.output), by omega, fun b hb _ => ?_⟩, by omega⟩
      · rcases hcase with ⟨i, hi1, hi2, rfl, rfl⟩ | ⟨hn1, rfl, rfl⟩
        · rw [zze hlt hi1 hi2]; exact q2
        · rw [zzd hlt hn1]; exact q2
      · exact (q3.block b (by omega) (by simp; omega)).trans ((h1.block b (show b < wr.heap.size by omega) (hvb b hb)).trans (hgr.block b hb (by simp)))
    have hrange := run_range_map (P := Tryz.prog) wr 90 3 28 w.heap.size es clock Tryz.underlying90 hG.heap
    go_wp2_with fail
    · clear hrange
      have hlt : k < cell.length := by assumption
      have hik1 := hik1 hlt
      have hl0 : (Instr.lookup 90 (.map (some w.heap.size)) (.int .i64 (at0 cell k)) false).run Tryz.prog wr.drew = .ok v wr.drew := hlook _ rfl
      have hl1 : ∀ o, (Instr.lookup 90 (.map (some w.heap.size)) (.int .i64 (at0 cell k)) false).run Tryz.prog (wr.drew.alloc o) = .ok v (wr.drew.alloc o) := fun o => hlook _ (heap_alloc_old _ _ hmw)
      have hb2r : b2 < wr.heap.size := by omega
      have hl2 : ∀ o, (Instr.lookup 90 (.map (some w.heap.size)) (.int .i64 (at0 cell k)) false).run Tryz.prog (wr.alloc o).drew = .ok v (wr.alloc o).drew := fun o => hlook _ (heap_alloc_old _ _ hmw)
      have hc2k := hcx2 hlt
      go_region_law
        ((refine step_append_lies _ (by rfl) _ _ _ (by rfl) (w.heap.size + 1) 3 i0 _ 1 8 Tryz.underlying28 hi hz0 hz1 hz2 rfl (by omega) v zs.length (zs.map (Value.int .i64)) (by rfl) (hown.drew.alloc _)
            ⟨wr.heap.size, 0, none⟩ 1 1 [.int .i64 (at0 rank k)] (by rfl) (by rfl) (World.news_of_block (cs := #[.int .i64 (at0 rank k)]) (t := 3) (fr := (0, 0)) (heap_alloc_new _ _)) (by simp [Value.oneCell'])
            (by omega) (by unfold maxLen; omega) (by omega) (by simp; omega) (wr.heap.size + 1) (by simp) ?_; intro gg cap w1 hown1 hgrow hat hlt1; obtain ⟨w2, es', clock', blk', hup, hG2, hgr2, hsz2⟩ := hbk hlt w1 gg cap _ hgrow hown1 hat))
      all_goals
        clear hup hl0 hl1 hl2
        go_wp2
        go_roundw
        case rel =>
          exact ⟨k + 1, by omega, by go_num, es', clock', blk', hG2, hgr2, hsz2⟩
        case measure => simp [RowKit.intOf]; omega
    · have hke : k = cell.length := by omega
      subst hke
      have hz : ∀ j, j < (zG cell rank cell.length).length → ((zG cell rank cell.length).getD j default).2 ≠ [] ∧ ((zG cell rank cell.length).getD j default).2.length ≤ 536870912 := zzD hl
      have hk : ∀ i j, i < (zG cell rank cell.length).length → j < (zG cell rank cell.length).length → ((zG cell rank cell.length).getD i default).1 = ((zG cell rank cell.length).getD j default).1 → i = j := zyw
      have hM := Mid.start hG (fun j hj => (hz j hj).2) hgr (Nat.lt_succ_self _) hsz (Nat.le_refl _)
      generalize hborn : (fun j => (es.getD j default).born) = born at hM
      generalize hrr : wr.heap.size = r at hM
      clear hback hbk hlook hcase hrange hG
      rw [show decide (cell.length < cell.length) = false by simp]
      go_loopw [8] (fun _ wr2 => ∃ seen, Mid w w.heap.size (w.heap.size + 1) r clock (zG cell rank cell.length) born seen wr2) (fun _ wr2 => zxf r (zG cell rank cell.length).length born wr2)
      case atStart => exact ⟨#[], hM⟩
      case round =>
        obtain ⟨seen, hM2⟩ := hrel
        rcases hM2.round (T := T) 0 hT hk hz with ⟨hnext, hall⟩ | ⟨c, v, wn, hnext, hentry, hcalls⟩
        · go_wp2
          go_ret
          refine ⟨rfl, hM2.grown, ?_⟩
          obtain ⟨es2, blk2, h1, -⟩ := hM2.ex
          rw [zyu hall] at h1
          exact ⟨es2, _, blk2, h1⟩
        · go_wp2_with (first
            | (go_at_call 110; refine hcalls.mono ?_; rintro e w' ⟨rfl, hcomp⟩)
            | (go_at_call 111; refine hcomp.mono ?_; rintro e w'' ⟨v', rfl, wz, seen', hup, hMz, hlt⟩))
          go_roundw
          case rel => exact ⟨seen', hMz⟩
          case measure => rw [hMz.mu, hM2.mu]; exact hlt
end Go.Ab
namespace Go.Ab
open Go Go.Proofs Go.MapKept
section
variable {α : Type} [Inhabited α] [DecidableEq α]
theorem zfV {d : Array α} {x : α} : ∀ {n : Nat}, x ∈ ddA d n ↔ ∃ i, i < n ∧ d[i]! = x
  | 0 => by simp [ddA]
  | n + 1 => by
    rw [ddA]
    constructor
    · intro h
      split at h
      · obtain ⟨i, h1, h2⟩ := zfV.1 h
        exact ⟨i, by omega, h2⟩
      · rcases List.mem_append.1 h with h | h
        · obtain ⟨i, h1, h2⟩ := zfV.1 h
          exact ⟨i, by omega, h2⟩
        · exact ⟨n, by omega, by simp at h; exact h.symm⟩
    · rintro ⟨i, h1, h2⟩
      split
      · rename_i hc
        by_cases e : i = n
        · subst e
          exact zfV.2 ⟨i - 1, by omega, by rw [← hc.2]; exact h2⟩
        · exact zfV.2 ⟨i, by omega, h2⟩
      · by_cases e : i = n
        · subst e; exact List.mem_append.2 (.inr (by simp [h2]))
        · exact List.mem_append.2 (.inl (zfV.2 ⟨i, by omega, h2⟩))
theorem zmC {lt : α → α → Bool} {d : Array α} (hs : ∀ i j, i < j → j < d.size → lt d[j]! d[i]! = false) (tri : ∀ x y, lt x y = false → lt y x = false → x = y) : ∀ {n : Nat}, n ≤ d.size → (ddA d n).Pairwise fun x y => lt x y = true
  | 0, _ => List.Pairwise.nil
  | n + 1, h => by
    rw [ddA]
    split
    · exact zmC hs tri (by omega)
    · rename_i hc
      refine List.pairwise_append.2 ⟨zmC hs tri (by omega), List.pairwise_singleton _ _, fun x hx y hy => ?_⟩
      obtain ⟨i, hi, rfl⟩ := zfV.1 hx
      have hy : y = d[n]! := by simpa using hy
      subst hy
      cases hb : lt d[i]! d[n]! with
      | true => rfl
      | false =>
        have e1 := tri _ _ hb (hs i n hi (by omega))
        refine absurd ⟨by omega, ?_⟩ hc
        by_cases e : i = n - 1
        · rw [← e]; exact e1.symm
        · refine (tri _ _ ?_ ?_)
          · exact hs (n - 1) n (by omega) (by omega)
          · rw [← e1]; exact hs i (n - 1) (by omega) (by omega)
theorem zsj {R : α → α → Prop} (irr : ∀ x, ¬R x x) (tr : ∀ x y z, R x y → R y z → R x z) : ∀ {l l' : List α}, l.Pairwise R → l'.Pairwise R → (∀ x, x ∈ l ↔ x ∈ l') → l = l'
  | [], [], _, _, _ => rfl
  | [], y :: l', _, _, h => by have := (h y).2 (by simp); cases this
  | x :: l, [], _, _, h => by have := (h x).1 (by simp); cases this
  | x :: l, y :: l', h1, h2, h => by
    obtain ⟨a1, a2⟩ := List.pairwise_cons.1 h1
    obtain ⟨b1, b2⟩ := List.pairwise_cons.1 h2
    have hxy : x = y := by
      rcases List.mem_cons.1 ((h x).1 (by simp)) with e | hx
      · exact e
      · rcases List.mem_cons.1 ((h y).2 (by simp)) with e | hy
        · exact e.symm
        · exact absurd (tr _ _ _ (a1 y hy) (b1 x hx)) (irr x)
    subst hxy
    rw [zsj irr tr a2 b2 fun z => ?_]
    constructor
    · intro hz
      rcases List.mem_cons.1 ((h z).1 (List.mem_cons_of_mem _ hz)) with rfl | h3
      · exact absurd (a1 z hz) (irr z)
      · exact h3
    · intro hz
      rcases List.mem_cons.1 ((h z).2 (List.mem_cons_of_mem _ hz)) with rfl | h3
      · exact absurd (b1 z hz) (irr z)
      · exact h3
end
theorem zsC {α : Type} [Inhabited α] {lt : α → α → Bool} (hS : Sort.SWO lt) (d : Array α) : (Sort.sort lt d).toList.Perm d.toList := by
  obtain ⟨⟨h1, -, h2⟩, -⟩ := Sort.sort_sorts lt hS d
  have e1 : (Sort.sort lt d).extract 0 d.size = Sort.sort lt d := by rw [← h1]; simp
  have e2 : d.extract 0 d.size = d := by simp
  rwa [e1, e2] at h2
theorem ztC {α : Type} [Inhabited α] {d : Array α} {x : α} : x ∈ d.toList ↔ ∃ i, i < d.size ∧ d[i]! = x := by
  constructor
  · intro h
    obtain ⟨i, hi, rfl⟩ := List.getElem_of_mem h
    rw [Array.length_toList] at hi
    exact ⟨i, hi, by simp [hi]⟩
  · rintro ⟨i, hi, rfl⟩
    rw [show d[i]! = d.toList[i]'(by simpa using hi) by simp [hi]]
    exact List.getElem_mem _
theorem ztu (zs : List Int) : zd6 zs = zky zs := by
  have hS := Sort.swo_ltInt
  obtain ⟨⟨h1, -, -⟩, h3⟩ := Sort.sort_sorts Sort.ltInt hS zs.toArray
  refine zsj (R := (· < ·)) (fun x => Int.lt_irrefl x) (fun x y z => Int.lt_trans) ?_ ze7 fun x => ?_
  · have := zmC (lt := Sort.ltInt) (d := Sort.sort Sort.ltInt zs.toArray) (fun i j hij hj => h3 i j (Nat.zero_le _) hij (by rw [← h1]; exact hj)) (fun x y a b => by simp only [Sort.ltInt, decide_eq_false_iff_not] at a b; omega) (Nat.le_refl _)
    exact this.imp fun h => by simpa [Sort.ltInt] using h
  · rw [zl7, zd6, zfV, ← ztC, (zsC hS zs.toArray).mem_iff]
end Go.Ab
namespace Go.Ab
open Go Go.Proofs Go.MapKept Go.RowKit Go.WideMaps Go.Maps
variable {T : Nat → Obj → Prop}
set_option maxRecDepth 100000 in
theorem zoT (a : Option Addr) (cap : Nat) (vb : Value) (w : World) :
    Calls Tryz.prog 70 #[.slice a 0 cap, vb] w fun e w' => e = .returned (.map (some w.heap.size)) ∧ w.grownBy w' none ∧ w'.heap[w.heap.size]? = some (.map #[] 0) := by
  have hmm := @run_makeMap Tryz.prog
  have hrange := run_range_map (P := Tryz.prog) (w.alloc (.map #[] 0)) 90 3 28 w.heap.size #[] 0 Tryz.underlying90 (heap_alloc_new _ _)
  have hnext : (Instr.next (.pointer (some ⟨w.heap.size + 1, 0, none⟩)) false 0).run Tryz.prog ((w.alloc (.map #[] 0)).alloc (.mapIter (some w.heap.size) 0 #[] 0)) = .ok (.tuple #[.bool false]) ((w.alloc (.map #[] 0)).alloc (.mapIter (some w.heap.size) 0 #[] 0)) := by
    rcases run_next_at (P := Tryz.prog) ((w.alloc (.map #[] 0)).alloc (.mapIter (some w.heap.size) 0 #[] 0)) 0 (w.heap.size + 1) w.heap.size 0 0 #[] #[] 0 (by have := heap_alloc_new (w.alloc (.map #[] 0)) (.mapIter (some w.heap.size) 0 #[] 0); simpa using this)
      ((heap_alloc_old _ _ (by simp)).trans (heap_alloc_new _ _)) (by simp) (Nat.le_refl _) with ⟨-, h⟩ | ⟨e, he, -⟩
    · exact h
    · simp [leftOf] at he
  simp only [show (w.alloc (.map #[] 0)).heap.size = w.heap.size + 1 by simp] at hrange
  go_enter Tryz.func70, Tryz.ntmps70
  go_wp2
  refine wp_loop_rounds 1 ?_
  rw [rounds_succ]
  go_wp2
  refine wp_loop_rounds 1 ?_
  rw [rounds_succ]
  go_wp2
  go_ret
  exact ⟨rfl, (World.grownBy_alloc _ _ _).trans (World.grownBy_alloc _ _ _), (heap_alloc_old _ _ (by simp)).trans (heap_alloc_new _ _)⟩
theorem zn3 : zcN T := by
  intro cell rank hle h64
  refine zh7 ⟨_, Tryz.func70, by decide, rfl⟩ fun B σ a w args hT hS hsz hargs => ?_
  have ha : args = #[args.getD 0 undef, args.getD 1 undef] := by
    apply Array.ext
    · simpa using hsz
    · intro i h1 h2
      match i, h2 with
      | 0, _ => simp [Array.getD, show 0 < args.size by omega]
      | 1, _ => simp [Array.getD, show 1 < args.size by omega]
  have h0 := hargs 0 (by simp)
  have h1 := hargs 1 (by simp)
  have fin : ∀ (e : Ending) (w' : World) (es : Array MapEntry) (clock : Nat) (blk : Nat → Nat), e = .returned (.map (some w.heap.size)) → w.grownBy w' none → Grp (O2 (w.heap.size + 1)) w' w.heap.size ((zG cell rank cell.length).map fun p => (p.1, zd6 p.2)) es clock blk →
      ∃ v' σ', e = .returned v' ∧ Sim B (fun _ => .undef) (zp []) (fun i => ([] : List (Option Ob)).length ≤ i) σ' a w' ∧ VSim σ' (zp []) (fun i => ([] : List (Option Ob)).length ≤ i) (B.X σ' (zp [])) w' (.d (.map (zge cell rank))) v' ∧
        ∀ i ob, ([] : List Ob)[i]? = some ob → zp [] i = none ∨ (σ' i = σ i ∧ ∃ ob', zp [] i = some ob' ∧ zbg ob ob') := by
    intro e w' es clock blk he hg hG
    have hX : ∀ b, w.heap.size ≤ b → ¬B.X σ (zp []) b := by
      rintro b hb (h | ⟨id, h, -⟩)
      · have := hS.olt b h; omega
      · exact h (by simp [zp])
    have hgl : ((zG cell rank cell.length).map fun p => (p.1, zd6 p.2)).length = (zA cell).length := by simp [zG]
    have hgd : ∀ i, i < (zA cell).length → ((zG cell rank cell.length).map fun p => (p.1, zd6 p.2)).getD i default = ((zA cell).getD i 0, z7 cell rank ((zA cell).getD i 0)) := by
      intro i hi
      simp only [zG, List.take_length, List.map_map, List.getD, List.getElem?_map, List.getElem?_eq_getElem hi, Option.map_some, Option.getD_some, Function.comp, ztu]
      rfl
    refine ⟨_, σ, he, ⟨fun t => .undef _, fun id ob h => by simp [zp] at h, fun i j b h => absurd (by simp [zp]) h, fun id b h => absurd (by simp [zp]) h, fun _ _ => by simp [zp], ?_, hS.nt, fun b hb => Nat.lt_of_lt_of_le (hS.olt b hb) hg.size, fun b o hp => (hg.block b (zi (hS.pins b o hp)) (by simp)).trans (hS.pins b o hp), fun id l h => by simp [zp] at h⟩, .d _ _ ?_, fun i ob h => by simp at h⟩
    · refine ⟨hg.os.trans hS.kept.os, hg.tape.trans hS.kept.tape, hg.output.trans hS.kept.output, Nat.le_trans hS.kept.size hg.size, fun b hb hR => (hg.block b (Nat.lt_of_lt_of_le hb hS.kept.size) (by simp)).trans (hS.kept.block b hb hR), fun b c e h => ?_⟩
      obtain ⟨c', h1, h2⟩ := hS.kept.cells b c e h
      exact ⟨c', (hg.block b (zi h1) (by simp)).trans h1, h2⟩
    · refine .map _ _ es clock (hX _ (Nat.le_refl _)) (zi hG.heap) hG.heap (by rw [hG.size, hgl]; simp) hG.st (fun i hi => ?_) (fun i hi => ?_)
      · rw [List.length_map] at hi
        rw [hG.key i (by rw [hgl]; exact hi), hgd i hi, show ((zA cell).map fun c => (D.int .i64 c, dI (z7 cell rank c))).getD i (.nil, .nil) = (D.int .i64 ((zA cell).getD i 0), dI (z7 cell rank ((zA cell).getD i 0))) by simp [List.getD, hi]]
        exact .int .i64 _ (by simp)
      · rw [List.length_map] at hi
        have hv := hG.val i (by rw [hgl]; exact hi)
        rw [hgd i hi] at hv
        rw [show ((zA cell).map fun c => (D.int .i64 c, dI (z7 cell rank c))).getD i (.nil, .nil) = (D.int .i64 ((zA cell).getD i 0), dI (z7 cell rank ((zA cell).getD i 0))) by simp [List.getD, hi]]
        simp only
        generalize z7 cell rank ((zA cell).getD i 0) = zs at hv
        replace hv : O2 (w.heap.size + 1) w' (es.getD i default).val (blk i) zs := hv
        obtain ⟨cap, c, e, q1, q2, q3, q4, q5, q6, q7⟩ := hv
        rw [q1]
        have hl : (zs.map (D.int .i64)).length = zs.length := List.length_map _
        rw [← hl]
        refine .arr 1 (zs.map (D.int .i64)) (blk i) 0 cap (fun j => c.getD j undef) (hX _ (by omega)) (zi q3) (fun x hx => ?_) (by omega) (by omega) (fun j hj => ?_) (fun j k hj hk => ?_)
        · obtain ⟨y, -, rfl⟩ := List.mem_map.1 hx; rfl
        · have hjc : j < c.size := by omega
          simp [World.cell?, q3, Array.getD_eq_getD_getElem?, hjc]
        · have : k = 0 := by omega
          subst this
          rw [hl] at hj
          rw [Nat.mul_one, Nat.add_zero]
          rw [q7 j hj, show (zs.map (D.int .i64)).getD j .nil = .int .i64 (zs.getD j 0) by simp [List.getD, hj]]
          exact .int .i64 _ (by simp)
  have read : ∀ (xs : List Int) (v : Value), xs ≠ [] → zk (B.X σ (zp [])) w (dI xs) v → ∃ b off cap, v = .slice (some ⟨b, off, none⟩) xs.length cap ∧ b < w.heap.size ∧ ∀ j, j < xs.length → w.cell? ⟨b, off + j, none⟩ = some (.int .i64 (at0 xs j)) := by
    intro xs v hne hd
    unfold dI at hd
    have hl : (xs.map (D.int .i64)).length = xs.length := List.length_map _
    generalize hys : xs.map (D.int .i64) = ys at hd hl
    cases hd with
    | arr0 s a cap => exact absurd (List.eq_nil_of_length_eq_zero (by simpa using hl.symm)) hne
    | arr s _ b off cap cv g1 g2 g3 g4 g5 g6 g7 =>
      refine ⟨b, off, cap, by rw [hl], g2, fun j hj => ?_⟩
      have h6 := g6 j (by omega)
      have h7 := g7 j 0 (by omega) (by omega)
      rw [Nat.mul_one, Nat.add_zero, ← hys, show (xs.map (D.int .i64)).getD j .nil = .int .i64 (at0 xs j) by simp [List.getD, at0, hj]] at h7
      rw [h6]
      generalize cv j = z at h7
      cases h7; rfl
  rw [ha]
  have e0 : ([V.d (dI cell), V.d (dI rank)].getD 0 .undef) = .d (dI cell) := rfl
  have e1 : ([V.d (dI cell), V.d (dI rank)].getD 1 .undef) = .d (dI rank) := rfl
  rw [e0] at h0
  rw [e1] at h1
  generalize args.getD 0 undef = va at h0
  generalize args.getD 1 undef = vb at h1
  cases h0 with
  | d _ _ hd0 =>
  cases h1 with
  | d _ _ hd1 =>
  by_cases hc : cell = []
  · subst hc
    have hv : ∃ a' cap, va = .slice a' 0 cap := by
      unfold dI at hd0
      cases hd0 with
      | arr0 s a' cap => exact ⟨a', cap, rfl⟩
      | arr s _ b off cap cv => exact ⟨_, cap, rfl⟩
    obtain ⟨a', cap, rfl⟩ := hv
    refine (zoT a' cap vb w).mono ?_
    rintro e w' ⟨he, hg, hh⟩
    exact fin e w' #[] 0 (fun _ => 0) he hg ⟨hh, ⟨fun i j hi => by simp at hi, fun i hi => by simp at hi⟩, rfl, fun i hi => by simp [zG, zA] at hi, fun i hi => by simp [zG, zA] at hi, fun i j hi => by simp [zG, zA] at hi⟩
  · have hpos : 0 < cell.length := List.length_pos_iff.2 hc
    obtain ⟨b1, o1, cap1, rfl, l1, c1⟩ := read cell va hc hd0
    obtain ⟨b2, o2, cap2, rfl, l2, c2⟩ := read rank vb (fun e => by rw [e] at hle; simp at hle; exact hc (List.eq_nil_of_length_eq_zero (by simp [hle]))) hd1
    refine (zoU (T := T) b1 o1 cap1 b2 o2 cap2 rank.length cell rank w hpos hle (by omega) (fun b o ht => hS.pins b o (hT b o ht)) l1 l2 c1 (fun j hj => c2 j (by omega))).mono ?_
    rintro e w' ⟨he, hg, es, clock, blk, hG⟩
    exact fin e w' es clock blk he hg hG
end Go.Ab
namespace Go.Ab
open Go Go.Proofs
theorem zoN {α:Type} [DecidableEq α] : ∀ {l l':List α},l.Nodup→(∀ x∈l,x∈l')→l.length≤l'.length
 | [],_,_,_=>Nat.zero_le _
 | x::t,l',h,hs=>by
  obtain ⟨h1,h2⟩:=List.nodup_cons.1 h
  have hx:=hs x (by simp)
  have:=zoN (l:=t) (l':=l'.erase x) h2 fun y hy=>(List.mem_erase_of_ne (fun e=>h1 (by rw [← e];exact hy))).2 (hs y (List.mem_cons_of_mem _ hy))
  rw [List.length_erase_of_mem hx] at this
  have hp:=List.length_pos_of_mem hx
  simp only [List.length_cons];omega
theorem zcP {zs:List (BitVec 64)} {x:BitVec 64} : x∈zeV zs↔x∈zs:=by
 rw [zeV,zfV,← ztC,(zsC ztO zs.toArray).mem_iff]
theorem zhO (zs:List (BitVec 64)):(zeV zs).Nodup:=by
 obtain ⟨⟨h1,-,-⟩,h3⟩:=Sort.sort_sorts ltU ztO zs.toArray
 have:=zmC (lt:=ltU) (d:=Sort.sort ltU zs.toArray) (fun i j hij hj=>h3 i j (Nat.zero_le _) hij (by rw [← h1];exact hj)) (fun x y a b=>by
  simp only [ltU,decide_eq_false_iff_not] at a b
  exact BitVec.eq_of_toNat_eq (by omega)) (Nat.le_refl _)
 exact this.imp fun h e=>by subst e;simp [ltU] at h
def rk (r:List (BitVec 64)) (w:Nat):Nat:=(zeV (zQ r w r.length)).length
theorem zeq {r:List (BitVec 64)} {w n:Nat} {x:BitVec 64} : x∈zQ r w n ↔ ∃ v,v < n∧rb r w v=true∧rb r v w=false∧uAt r v=x:=by
 unfold zQ
 rw [List.mem_map]
 constructor
 ·rintro ⟨v,h,rfl⟩
  rw [List.mem_filter,List.mem_range] at h
  simp only [Bool.and_eq_true,Bool.not_eq_true'] at h
  exact ⟨v,h.1,h.2.1,h.2.2,rfl⟩
 ·rintro ⟨v,h1,h2,h3,rfl⟩
  exact ⟨v,List.mem_filter.2 ⟨List.mem_range.2 h1,by simp [h2,h3]⟩,rfl⟩
theorem zzJ {r:List (BitVec 64)} {w v:Nat} (h : ∀ x,x∈zQ r w r.length→x∈zQ r v r.length):rk r w≤rk r v :=
 zoN (zhO _) fun x hx=>zcP.2 (h x (zcP.1 hx))
theorem zzn {r:List (BitVec 64)} {w v:Nat} {y:BitVec 64} (h : ∀ x,x∈zQ r w r.length→x∈zQ r v r.length) (h1:y∈zQ r v r.length) (h2:y ∉ zQ r w r.length):rk r w < rk r v:=by
 have:=zoN (l:=y::zeV (zQ r w r.length)) (l':=zeV (zQ r v r.length)) (List.nodup_cons.2 ⟨fun h=>h2 (zcP.1 h),zhO _⟩) fun x hx=>by
  rcases List.mem_cons.1 hx with rfl|hx
  ·exact zcP.2 h1
  ·exact zcP.2 (h x (zcP.1 hx))
 exact this
theorem zyJ {r:List (BitVec 64)} {w v:Nat} {y:BitVec 64} (h : ∀ x,x∈zQ r w r.length→x=y∨x∈zQ r v r.length):rk r w≤rk r v+1:=by
 have:=zoN (l:=zeV (zQ r w r.length)) (l':=y::zeV (zQ r v r.length)) (zhO _) fun x hx=>by
  rcases h x (zcP.1 hx) with rfl|h
  ·simp
  ·exact List.mem_cons_of_mem _ (zcP.2 h)
 simpa [rk] using this
theorem zzh {α:Type} (f:α→Nat) : ∀ {l:List α},l≠[] → ∃ x∈l,∀ y∈l,f y≤f x
 | [],h=>absurd rfl h
 | [x],_=>⟨x,by simp,by simp⟩
 | x::y::t,_=>by
  obtain ⟨z,h1,h2⟩:=zzh f (l:=y::t) (by simp)
  by_cases hz:f x≤f z
  ·refine ⟨z,List.mem_cons_of_mem _ h1,fun u hu=>?_⟩
   rcases List.mem_cons.1 hu with rfl|hu
   ·exact hz
   ·exact h2 u hu
  ·refine ⟨x,by simp,fun u hu=>?_⟩
   rcases List.mem_cons.1 hu with rfl|hu
   ·exact Nat.le_refl _
   ·have:=h2 u hu;omega
def cmp (r:List (BitVec 64)) (w v:Nat):Bool:=rb r w v||rb r v w
structure zd2 (r:List (BitVec 64)):Prop where
 len:r.length≤64
 ins : ∀ w v,rb r w v=true→v < r.length
 refl : ∀ w,w < r.length→rb r w w=true
 tr : ∀ w u v,rb r w u=true→rb r u v=true→rb r w v=true
 conn : ∀ w v i,cmp r w v=true→cmp r w i=true→cmp r v i=true
theorem zkn {r:List (BitVec 64)} {w v:Nat} (h:rb r w v=true):w < r.length:=by
 apply Classical.byContradiction
 intro hn
 rw [zgf (by omega)] at h;cases h
theorem zrm {r:List (BitVec 64)} {w v:Nat} : cmp r w v=cmp r v w:=by unfold cmp;exact Bool.or_comm _ _
theorem zfB {r:List (BitVec 64)} {w i:Nat} : (uAt r w).getLsbD i=rb r w i:=rfl
theorem zzp {r:List (BitVec 64)} {w v:Nat} (h : ∀ i,rb r w i=rb r v i):uAt r w=uAt r v:=by
 apply BitVec.eq_of_getLsbD_eq
 intro i _
 exact h i
namespace zd2
variable {r:List (BitVec 64)} (h:zd2 r)
include h
theorem cmp_refl {w:Nat} (hw:w < r.length):cmp r w w=true:=by simp [cmp,h.refl w hw]
theorem cmp_tr {w v i:Nat} (h1:cmp r w v=true) (h2:cmp r v i=true):cmp r w i=true:=h.conn v w i (by rw [zrm];exact h1) h2
theorem eq_rows {w v:Nat} (h1:rb r w v=true) (h2:rb r v w=true):uAt r w=uAt r v:=zzp fun i=>by
 rw [Bool.eq_iff_iff];exact ⟨h.tr _ _ _ h2,h.tr _ _ _ h1⟩
theorem below_sub {w v:Nat} (h1:rb r w v=true) : ∀ x,x∈zQ r v r.length→x∈zQ r w r.length:=by
 intro x hx
 obtain ⟨u,h2,h3,h4,rfl⟩:=zeq.1 hx
 refine zeq.2 ⟨u,h2,h.tr _ _ _ h1 h3,?_,rfl⟩
 cases hb:rb r u w with
 | false=>rfl
 | true=>rw [h.tr _ _ _ hb h1] at h4;cases h4
theorem rk_mono {w v:Nat} (h1:rb r w v=true):rk r v≤rk r w:=zzJ (h.below_sub h1)
theorem rk_strict {w v:Nat} (h1:rb r w v=true) (h2:rb r v w=false):rk r v < rk r w:=by
 refine zzn (y:=uAt r v) (h.below_sub h1) (zeq.2 ⟨v,h.ins _ _ h1,h1,h2,rfl⟩) fun hm=>?_
 obtain ⟨u,h3,h4,h5,h6⟩:=zeq.1 hm
 have h7:rb r u v=true:=by rw [← zfB,h6,zfB];exact h.refl v (h.ins _ _ h1)
 rw [h7] at h5;cases h5
theorem rk_iff {w v:Nat} (hc:cmp r w v=true):rk r v≤rk r w↔rb r w v=true:=by
 constructor
 ·intro hk
  cases hb:rb r w v with
  | true=>rfl
  | false =>
   simp only [cmp,hb,Bool.false_or] at hc
   have:=h.rk_strict hc hb
   omega
 ·exact h.rk_mono
end zd2
end Go.Ab
namespace Go.Ab
open Go Go.Proofs
theorem zgO {r:List (BitVec 64)} (hl:r.length≤64) (hi:zcK r) (w v:Nat):zfq r (zR r) w v=cmp r w v:=by
 unfold zfq cmp
 rw [zkr hl]
 cases hb:rb r v w with
 | false=>simp
 | true=>simp [zkn hb,hi v w hb]
theorem zvO {r:List (BitVec 64)} (hr:zq r=0) (hc:zbZ r (zR r)=true):zd2 r:=by
 obtain ⟨h1,h2⟩:=zF.1 hr
 obtain ⟨h3,h4,h5⟩:=zfU.1 hc
 have g3 : ∀ w,w < r.length→rb r w w=true:=by
  rcases h3.2 with h|h|h|h|h
  ·exact absurd h.1 (by decide)
  ·exact h.2
  ·exact absurd h.1 (by decide)
  ·exact absurd h.1 (by decide)
  ·exact absurd h.1 (by decide)
 have g4 : ∀ w u v,rb r w u=true→rb r u v=true→rb r w v=true:=by
  rcases h4.2 with h|h|h|h|h
  ·exact absurd h.1 (by decide)
  ·exact absurd h.1 (by decide)
  ·exact absurd h.1 (by decide)
  ·exact h.2
  ·exact absurd h.1 (by decide)
 refine ⟨h1,h2,g3,g4,fun w v i ha hb=>?_⟩
 have hw:w < r.length∧v < r.length:=by
  simp only [cmp,Bool.or_eq_true] at ha
  rcases ha with ha|ha
  ·exact ⟨zkn ha,h2 _ _ ha⟩
  ·exact ⟨h2 _ _ ha,zkn ha⟩
 have:=h5 w hw.1 v hw.2 (by rw [zgO h1 h2];exact ha) i (by rw [zgO h1 h2];exact hb)
 rwa [zgO h1 h2] at this
theorem zym {r:List (BitVec 64)} (h:zd2 r):zbZ r (zR r)=true:=by
 have hr:=zF.2 ⟨h.len,h.ins⟩
 refine zfU.2 ⟨⟨hr,.inr (.inl ⟨rfl,h.refl⟩)⟩,⟨hr,.inr (.inr (.inr (.inl ⟨rfl,h.tr⟩)))⟩,fun w hw v hv ha i hb=>?_⟩
 rw [zgO h.len h.ins] at ha hb ⊢
 exact h.conn w v i ha hb
def zzO (r:List (BitVec 64)) (w:Nat):Nat:=Lib.ctz 64 (uAt r w|||uAt (zR r) w).toNat
namespace zd2
variable {r:List (BitVec 64)} (h:zd2 r)
include h
end zd2
theorem zxW {p:PM} {a:Nat} : (zak p a).length=p.W.toNat:=by simp [zak]
theorem zyI {p:PM} {a:Nat} (hW:p.W≤64) {w v:Nat} : rb (zak p a) w v=(decide (w < p.W.toNat)&&decide (v < p.W.toNat)&&(at0 (za p.cell a) v==at0 (za p.cell a) w)&&decide (at0 (za p.rank a) v≤at0 (za p.rank a) w)):=by
 by_cases hw:w < p.W.toNat
 ·have:(zak p a)[w]? = some (zaK (za p.cell a) (za p.rank a) w p.W.toNat):=by simp [zak,hw]
  rw [zO this,zaK,zes]
  by_cases hv:v < p.W.toNat
  ·simp [hw,hv,show v < 64 by omega]
  ·simp [hv]
 ·rw [zgf (by rw [zxW];omega)];simp [hw]
theorem ztb {p:PM} {a:Nat} (hW:p.W≤64) {w v:Nat} : rb (zak p a) w v=true↔w < p.W.toNat∧v < p.W.toNat∧at0 (za p.cell a) v=at0 (za p.cell a) w∧at0 (za p.rank a) v≤at0 (za p.rank a) w:=by
 rw [zyI hW]
 simp only [Bool.and_eq_true,decide_eq_true_eq,beq_iff_eq,and_assoc]
theorem zxy {n:Int} {r:List (BitVec 64)} : zdL n r=0↔0≤n∧n≤64∧(r.length:Int)=n∧zcK r:=by
 constructor
 ·intro h
  obtain ⟨h1,h2⟩:=zpt h
  obtain ⟨h3,h4⟩:=zF.1 h2
  exact ⟨by omega,by omega,h1,h4⟩
 ·rintro ⟨h1,h2,h3,h4⟩
  have:=zF.2 ⟨by omega,h4⟩
  unfold zq at this
  rw [if_neg (by omega)] at this
  unfold zdL
  rw [if_neg (by omega),if_neg (by omega),← h3]
  exact this
theorem zuB {α:Type} {l:List α} {f:Nat→α} {z:α} (h : ∀ a,a < l.length→f a=l.getD a z):(List.range l.length).map f=l:=by
 refine List.ext_getElem (by simp) fun i h1 h2=>?_
 have:=h i h2
 simp only [List.getElem_map,List.getElem_range,this,List.getD,List.getElem?_eq_getElem h2,Option.getD_some]
end Go.Ab
namespace Go.Ab
open Go
theorem zux {x:BitVec 64} {k i:Nat} (hk:k < 64):(x|||1#64 <<< k).getLsbD i=true↔x.getLsbD i=true∨i=k:=by
 rw [BitVec.getLsbD_or,Bool.or_eq_true,zpa]
 constructor
 ·rintro (h|h)
  ·exact .inl h
  ·simp at h;exact .inr h.2
 ·rintro (h|rfl)
  ·exact .inl h
  ·exact .inr (by simp [hk])
theorem zc5 {q:Nat→Nat} {s:BitVec 64} {b:Nat} : ∀ k,(∀ w,w < k→q w < 64)→((zL q s k).getLsbD b=true ↔ ∃ w,w < k∧s.getLsbD w=true∧q w=b)
 | 0,_=>by simp [zL]
 | k+1,h=>by
  have ih:=zc5 (q:=q) (s:=s) (b:=b) k fun w hw=>h w (by omega)
  rw [zbY]
  split
  ·rename_i hs
   rw [zux (h k (by omega)),ih]
   constructor
   ·rintro (⟨w,h1,h2⟩|rfl)
    ·exact ⟨w,by omega,h2⟩
    ·exact ⟨k,by omega,hs,rfl⟩
   ·rintro ⟨w,h1,h2,h3⟩
    by_cases e:w=k
    ·subst e;exact .inr h3.symm
    ·exact .inl ⟨w,by omega,h2,h3⟩
  ·rename_i hs
   rw [ih]
   constructor
   ·rintro ⟨w,h1,h2⟩;exact ⟨w,by omega,h2⟩
   ·rintro ⟨w,h1,h2,h3⟩
    by_cases e:w=k
    ·subst e;exact absurd h2 hs
    ·exact ⟨w,by omega,h2,h3⟩
def zaG (l:List (BitVec 64)) (w:Nat):Nat→Nat
 | 0=>0
 | k+1=>zaG l w k+if (l.getD k 0#64).getLsbD w=true then 2 ^ k else 0
theorem zjR (l:List (BitVec 64)) (w:Nat) : ∀ k,zaG l w k < 2 ^ k
 | 0=>by simp [zaG]
 | k+1=>by
  have:=zjR l w k
  have h2:=Nat.two_pow_pos k
  rw [zaG,Nat.pow_succ]
  split<;>omega
theorem zf8 (l:List (BitVec 64)) (w:Nat) {i:Nat} : ∀ k,(zaG l w k).testBit i=true↔i < k∧(l.getD i 0#64).getLsbD w=true
 | 0=>by simp [zaG]
 | k+1=>by
  have hlt:=zjR l w k
  have ih:=zf8 l w (i:=i) k
  have e:zaG l w (k+1)=2 ^ k * (if (l.getD k 0#64).getLsbD w=true then 1 else 0)+zaG l w k:=by
   rw [zaG];split<;>omega
  rw [e,Nat.testBit_two_pow_mul_add _ hlt]
  by_cases h:i < k
  ·rw [if_pos h,ih]
   exact ⟨fun ⟨a,b⟩=>⟨by omega,b⟩,fun ⟨a,b⟩=>⟨h,b⟩⟩
  ·rw [if_neg h]
   by_cases h2:i=k
   ·subst h2
    rw [Nat.sub_self]
    split
    ·rename_i hb;exact ⟨fun _=>⟨by omega,hb⟩,fun _=>by decide⟩
    ·rename_i hb;exact ⟨fun h=>by simp at h,fun h=>absurd h.2 hb⟩
   ·constructor
    ·intro h3
     exfalso
     obtain ⟨m,hm⟩ : ∃ m,i - k=m+1:=⟨i - k - 1,by omega⟩
     rw [hm,Nat.testBit_succ] at h3
     split at h3<;>simp at h3
    ·rintro ⟨a,-⟩;omega
def zcX (p:PM) (w:Nat):Nat:=zaG p.val w p.val.length
theorem zwS {p:PM} {v w:Nat} : zcX p v=zcX p w ↔ ∀ i,(p.val.getD i 0#64).getLsbD v=true↔(p.val.getD i 0#64).getLsbD w=true:=by
 constructor
 ·intro h i
  by_cases hi:i < p.val.length
  ·have a:=zf8 p.val v (i:=i) p.val.length
   have b:=zf8 p.val w (i:=i) p.val.length
   rw [show zaG p.val v p.val.length=zaG p.val w p.val.length from h] at a
   exact ⟨fun hv=>(b.1 (a.2 ⟨hi,hv⟩)).2,fun hw=>(a.1 (b.2 ⟨hi,hw⟩)).2⟩
  ·have:p.val.getD i 0#64=0#64:=by rw [List.getD,List.getElem?_eq_none (by omega)];rfl
   rw [this];simp
 ·intro h
  refine Nat.eq_of_testBit_eq fun i=>?_
  rw [Bool.eq_iff_iff]
  unfold zcX
  rw [zf8,zf8,h i]
def zjS (p:PM):Nat→Nat:=zK (zdJ (zcX p))
def wkB (p:PM) (a w:Nat):BitVec 64:=uAt (zak p a) w
def zbb (p:PM):List (Nat→BitVec 64):=(List.range p.cell.length).flatMap fun (a:Nat)=>[fun (w:Nat)=>zbw p (a:Int) (w:Int),fun w=>wkB p a w]
def zaO (p:PM) (k:Nat):Nat→Nat:=za3 p.W.toNat (zbb p) (zjS p) k
theorem zcg (p:PM) (n:Nat):zbQ n (zjS p):=znU (znS _) n
theorem zo5 {p:PM} (hc0:zy p=0) {a w i:Nat} (hw:w < p.W.toNat):(wkB p a w).getLsbD i=true↔InC p a w i∧rkA p a i≤rkA p a w:=by
 have h2:=(zW hc0).w2
 show rb (zak p a) w i=true↔_
 rw [ztb h2]
 exact ⟨fun ⟨_,a,b,c⟩=>⟨⟨a,b⟩,c⟩,fun ⟨⟨a,b⟩,c⟩=>⟨hw,a,b,c⟩⟩
theorem zr5 {p:PM} {r:Nat→BitVec 64} : r∈zbb p ↔ ∃ a:Nat,a < p.cell.length∧(r=(fun (w:Nat)=>zbw p (a:Int) (w:Int))∨r=fun w=>wkB p a w):=by
 unfold zbb
 rw [List.mem_flatMap]
 constructor
 ·rintro ⟨a,ha,h⟩
  simp only [List.mem_cons,List.not_mem_nil,or_false] at h
  exact ⟨a,List.mem_range.1 ha,h⟩
 ·rintro ⟨a,ha,h⟩
  exact ⟨a,List.mem_range.2 ha,by simpa using h⟩
structure zh3 (p:PM) (q:Nat→Nat):Prop where
 canon:zbQ p.W.toNat q
 fact : ∀ {v w},v < p.W.toNat→w < p.W.toNat→q v=q w→zcX p v=zcX p w
 rel : ∀ {v w},v < p.W.toNat→w < p.W.toNat→q v=q w → ∀ r∈zbb p,zL q (r v) p.W.toNat=zL q (r w) p.W.toNat
theorem zo0 (p:PM) : ∀ (k:Nat) {v w:Nat},v < p.W.toNat→w < p.W.toNat→zaO p k v=zaO p k w→zcX p v=zcX p w
 | 0,v,w,hv,hw,h=>by
  have:=(zoM (znS (zcX p))).1 h
  simpa [zdJ] using this
 | k+1,v,w,hv,hw,h=>by
  have h1:=zgW (rels:=zbb p) (zfO (rels:=zbb p) (zcg p p.W.toNat) k) hv
  have h2:=zgW (rels:=zbb p) (zfO (rels:=zbb p) (zcg p p.W.toNat) k) hw
  refine zo0 p k hv hw ?_
  show za3 _ _ _ k v=za3 _ _ _ k w
  rw [← h1,← h2]
  exact congrArg _ h
theorem zku (p:PM) (k:Nat):zbQ p.W.toNat (zaO p k):=zfO (zcg p _) k
theorem zss {p:PM} (hc0:zy p=0) {j:Nat} (hj:p.W.toNat≤j) {w:Nat} (hw:w < p.W.toNat):zaO p j w=zaO p p.W.toNat w :=
 zpY (zcg p _) (by omega) hj hw
theorem zsD {p:PM} (hc0:zy p=0) {j:Nat} (hj:p.W.toNat≤j):zh3 p (zaO p j) where
 canon:=zku p j
 fact:=fun hv hw h=>zo0 p j hv hw h
 rel:=fun {v w} hv hw h r hr=>by
  have hs : ∀ {w},w < p.W.toNat→zab p.W.toNat (zbb p) (zaO p j) w=zaO p j w:=fun {w} hw=>by
   have h1:zaO p (j+1) w=zaO p p.W.toNat w:=zss hc0 (by omega) hw
   have h2:=zss hc0 hj hw
   rw [h2,← h1];rfl
  rw [← hs hv,← hs hw] at h
  have h1:=(zoM (zgh p.W.toNat (zbb p) (zaO p j))).1 h
  simp only [zaq,Bool.and_eq_true,decide_eq_true_eq,List.all_eq_true] at h1
  exact h1.2 r hr
section
variable {p:PM} (hc0:zy p=0) {q:Nat→Nat} (S:zh3 p q)
include hc0 S
theorem zh3.q64 {w:Nat} (hw:w < p.W.toNat):q w < 64:=by
 have:=S.canon.le w hw
 have:=W64 hc0
 omega
theorem zh3.cell {a v w u:Nat} (ha:a < p.cell.length) (hv:v < p.W.toNat) (hw:w < p.W.toNat) (h:q v=q w) (hu:InC p a v u) : ∃ u',InC p a w u'∧q u'=q u:=by
 have hr:=S.rel hv hw h _ (zr5.2 ⟨a,ha,.inl rfl⟩)
 have h1:=(zc5 (s:=zbw p (a:Int) (v:Int)) (b:=q u) p.W.toNat fun w hw=>S.q64 hc0 hw).2 ⟨u,hu.1,(zrj hc0 ha hv).2 hu,rfl⟩
 rw [hr] at h1
 obtain ⟨u',h2,h3,h4⟩:=(zc5 p.W.toNat fun w hw=>S.q64 hc0 hw).1 h1
 exact ⟨u',(zrj hc0 ha hw).1 h3,h4⟩
theorem zh3.weak {a v w u:Nat} (ha:a < p.cell.length) (hv:v < p.W.toNat) (hw:w < p.W.toNat) (h:q v=q w) (hu:InC p a v u) (hr':rkA p a u≤rkA p a v) : ∃ u',InC p a w u'∧rkA p a u'≤rkA p a w∧q u'=q u:=by
 have hr:=S.rel hv hw h _ (zr5.2 ⟨a,ha,.inr rfl⟩)
 have h1:=(zc5 (s:=wkB p a v) (b:=q u) p.W.toNat fun w hw=>S.q64 hc0 hw).2 ⟨u,hu.1,(zo5 hc0 hv).2 ⟨hu,hr'⟩,rfl⟩
 rw [hr] at h1
 obtain ⟨u',h2,h3,h4⟩:=(zc5 p.W.toNat fun w hw=>S.q64 hc0 hw).1 h1
 obtain ⟨h5,h6⟩:=(zo5 hc0 hw).1 h3
 exact ⟨u',h5,h6,h4⟩
end
def zB (n:Nat) (q:Nat→Nat):List Nat:=(List.range n).filter fun w=>decide (q w=w)
theorem zhY (n:Nat) (q:Nat→Nat):(zB n q).length=zc7 n q:=rfl
def z8 (q:Nat→Nat) (w:Nat):Nat:=zc7 (q w) q
theorem zsr {q:Nat→Nat} {u:Nat} (hu:q u=u) : ∀ n,u < n→(zB n q)[zc7 u q]? = some u
 | 0,h=>by omega
 | n+1,h=>by
  unfold zB
  rw [List.range_succ,List.filter_append]
  by_cases e:u=n
  ·subst e
   rw [List.getElem?_append_right (by show _≤zc7 u q;exact Nat.le_refl _)]
   show (List.filter _ [u])[zc7 u q - zc7 u q]? = _
   rw [Nat.sub_self]
   simp [hu]
  ·have ih:=zsr hu n (by omega)
   have hlt:=(List.getElem?_eq_some_iff.1 ih).1
   rw [List.getElem?_append_left (by exact hlt)]
   exact ih
section
variable {n:Nat} {q:Nat→Nat} (hq:zbQ n q)
include hq
theorem zgc {w:Nat} (hw:w < n):(zB n q)[z8 q w]? = some (q w) :=
 zsr (hq.idem w hw) n (by have:=hq.le w hw;omega)
theorem zmb {w:Nat} (hw:w < n):z8 q w < (zB n q).length:=(List.getElem?_eq_some_iff.1 (zgc hq hw)).1
theorem zi6 {v w:Nat} (hv:v < n) (hw:w < n):z8 q v=z8 q w↔q v=q w:=by
 constructor
 ·intro h
  have h1:=zgc hq hv
  rw [h,zgc hq hw] at h1
  exact (Option.some.inj h1).symm
 ·intro h;unfold z8;rw [h]
omit hq in
theorem zxA {u:Nat} : u∈zB n q↔u < n∧q u=u:=by
 unfold zB;rw [List.mem_filter,List.mem_range];simp
theorem zgT {i u:Nat} (h:(zB n q)[i]? = some u):u < n∧q u=u∧z8 q u=i:=by
 obtain ⟨h1,h2⟩:=zxA.1 (List.mem_of_getElem? h)
 refine ⟨h1,h2,?_⟩
 have h3:=zgc hq h1
 rw [h2] at h3
 have hnd:(zB n q).Pairwise (· ≠ ·):=List.Pairwise.filter _ List.nodup_range
 obtain ⟨hi,ei⟩:=List.getElem?_eq_some_iff.1 h
 obtain ⟨hj,ej⟩:=List.getElem?_eq_some_iff.1 h3
 rw [List.pairwise_iff_getElem] at hnd
 rcases Nat.lt_trichotomy (z8 q u) i with hl|hl|hl
 ·exact absurd (ej.trans ei.symm) (hnd _ _ hj hi hl)
 ·exact hl
 ·exact absurd (ei.trans ej.symm) (hnd _ _ hi hj hl)
end
def zba (p:PM) (q:Nat→Nat) (a:Nat):List (BitVec 64):=(zB p.W.toNat q).map fun u=>zL (z8 q) (wkB p a u) p.W.toNat
def zcz (p:PM) (q:Nat→Nat):List (BitVec 64):=p.val.map fun s=>zL (z8 q) s p.W.toNat
noncomputable def zsq (p:PM) (q:Nat→Nat):PM×Int:=zea ((zB p.W.toNat q).length:Int) (zcz p q) ((List.range p.cell.length).map (zba p q))
section
variable {p:PM} (hc0:zy p=0) {q:Nat→Nat} (S:zh3 p q)
include hc0 S
theorem zh3.num64 {w:Nat} (hw:w < p.W.toNat):z8 q w < 64:=by
 have h1:=zmb S.canon hw
 have h2:=zbF p.W.toNat q
 have:=W64 hc0
 rw [zhY] at h1
 omega
theorem zfy {a b c:Nat} : rb (zba p q a) b c=true ↔ ∃ u w,(zB p.W.toNat q)[b]? = some u∧w < p.W.toNat∧InC p a u w∧rkA p a w≤rkA p a u∧z8 q w=c:=by
 unfold rb zba
 rw [List.getD,List.getElem?_map]
 cases hb:(zB p.W.toNat q)[b]? with
 | none=>simp
 | some u =>
  have hu:=(zgT S.canon hb).1
  show (zL (z8 q) (wkB p a u) p.W.toNat).getLsbD c=true↔_
  rw [zc5 p.W.toNat fun w hw=>S.num64 hc0 hw]
  constructor
  ·rintro ⟨w,h1,h2,h3⟩
   obtain ⟨h4,h5⟩:=(zo5 hc0 hu).1 h2
   exact ⟨u,w,rfl,h1,h4,h5,h3⟩
  ·rintro ⟨u',w,h0,h1,h2,h3,h4⟩
   cases h0
   exact ⟨w,h1,(zo5 hc0 hu).2 ⟨h2,h3⟩,h4⟩
theorem zps {a b c:Nat} (ha:a < p.cell.length):cmp (zba p q a) b c=true ↔ ∃ u w,(zB p.W.toNat q)[b]? = some u∧w < p.W.toNat∧InC p a u w∧z8 q w=c:=by
 unfold cmp
 rw [Bool.or_eq_true,zfy hc0 S,zfy hc0 S]
 constructor
 ·rintro (⟨u,w,h1,h2,h3,h4,h5⟩|⟨u,w,h1,h2,h3,h4,h5⟩)
  ·exact ⟨u,w,h1,h2,h3,h5⟩
  ·
   obtain ⟨hu,hqu,hnu⟩:=zgT S.canon h1
   have hbw:=zgc S.canon h2
   rw [h5] at hbw
   have hqw:=S.canon.le w h2
   have hsym:InC p a w u:=⟨hu,h3.2.symm⟩
   obtain ⟨u',h6,h7⟩:=S.cell hc0 ha h2 (show q w < p.W.toNat by omega) (S.canon.idem w h2).symm hsym
   exact ⟨q w,u',hbw,h6.1,h6,by rw [(zi6 S.canon h6.1 hu).2 h7,hnu]⟩
 ·rintro ⟨u,w,h1,h2,h3,h5⟩
  obtain ⟨hu,hqu,hnu⟩:=zgT S.canon h1
  rcases Int.le_total (rkA p a w) (rkA p a u) with hle|hle
  ·exact .inl ⟨u,w,h1,h2,h3,hle,h5⟩
  ·have hcw:=zgc S.canon h2
   rw [h5] at hcw
   have hqw:=S.canon.le w h2
   have hsym:InC p a w u:=⟨hu,h3.2.symm⟩
   obtain ⟨u',h6,h7,h8⟩:=S.weak hc0 ha h2 (show q w < p.W.toNat by omega) (S.canon.idem w h2).symm hsym hle
   exact .inr ⟨q w,u',hcw,h6.1,h6,h7,by rw [(zi6 S.canon h6.1 hu).2 h8,hnu]⟩
theorem zyG {a:Nat} (ha:a < p.cell.length):zd2 (zba p q a):=by
 have hlen:(zba p q a).length=(zB p.W.toNat q).length:=by simp [zba]
 have h64:=W64 hc0
 have hcnt:=zbF p.W.toNat q
 have hrep : ∀ b,b < (zba p q a).length → ∃ u,(zB p.W.toNat q)[b]? = some u:=fun b hb=>⟨_,List.getElem?_eq_getElem (by omega)⟩
 refine ⟨by rw [hlen,zhY];omega,fun b c h=>?_,fun b hb=>?_,fun b c d h1 h2=>?_,fun b c d h1 h2=>?_⟩
 ·obtain ⟨u,w,h1,h2,h3,h4,h5⟩:=(zfy hc0 S).1 h
  rw [hlen,← h5];exact zmb S.canon h2
 ·obtain ⟨u,hu⟩:=hrep b hb
  obtain ⟨h1,h2,h3⟩:=zgT S.canon hu
  exact (zfy hc0 S).2 ⟨u,u,hu,h1,⟨h1,rfl⟩,Int.le_refl _,h3⟩
 ·obtain ⟨u,w,a1,a2,a3,a4,a5⟩:=(zfy hc0 S).1 h1
  obtain ⟨x,y,b1,b2,b3,b4,b5⟩:=(zfy hc0 S).1 h2
  obtain ⟨hx,hqx,hnx⟩:=zgT S.canon b1
  have hqw:q x=q w:=(zi6 S.canon hx a2).1 (by rw [hnx,a5])
  obtain ⟨z,c1,c2,c3⟩:=S.weak hc0 ha hx a2 hqw b3 b4
  refine (zfy hc0 S).2 ⟨u,z,a1,c1.1,⟨c1.1,by have:=c1.2;have:=a3.2;omega⟩,by omega,?_⟩
  rw [(zi6 S.canon c1.1 b2).2 c3,b5]
 ·obtain ⟨u,w,a1,a2,a3,a5⟩:=(zps hc0 S ha).1 h1
  obtain ⟨u',y,b1,b2,b3,b5⟩:=(zps hc0 S ha).1 h2
  rw [a1] at b1;cases b1
  have hcw:=zgc S.canon a2
  rw [a5] at hcw
  have hqw:=S.canon.le w a2
  have hwy:InC p a w y:=⟨b2,by have:=b3.2;have:=a3.2;omega⟩
  obtain ⟨z,c1,c2⟩:=S.cell hc0 ha a2 (show q w < p.W.toNat by omega) (S.canon.idem w a2).symm hwy
  exact (zps hc0 S ha).2 ⟨q w,z,hcw,c1.1,c1,by rw [(zi6 S.canon c1.1 b2).2 c2,b5]⟩
theorem zxB:0 < (zB p.W.toNat q).length:=by
 have h1:=(zW hc0).w1
 exact Nat.lt_of_le_of_lt (Nat.zero_le _) (zmb S.canon (w:=0) (by omega))
theorem zvQ : ∃ s:PM,zsq p q=(s,0)∧s=⟨((zB p.W.toNat q).length:Int),zcz p q,((List.range p.cell.length).map (zba p q)).map zjL,((List.range p.cell.length).map (zba p q)).map zkm⟩:=by
 have hg:=zW hc0
 have h64:=W64 hc0
 have hcnt:=zbF p.W.toNat q
 have hpos:=zxB hc0 S
 have n4:=hg.n4
 have v8:=hg.v8
 refine ⟨_,?_,rfl⟩
 unfold zsq zea
 have hs:z1 ((zB p.W.toNat q).length:Int) ((List.range p.cell.length).map (zba p q)).length (zcz p q)=0:=by
  unfold z1
  have hl:(zB p.W.toNat q).length≤64:=by rw [zhY];omega
  rw [if_neg (by omega),if_neg (by simp [zcz];omega),if_neg]
  rw [List.any_eq_true]
  rintro ⟨s,hs,hb⟩
  obtain ⟨t,-,rfl⟩:=List.mem_map.1 hs
  have hb : ¬(zL (z8 q) t p.W.toNat &&& ~~~(zc2 ((zB p.W.toNat q).length:Int))=0):=by simpa [bad] using hb
  refine hb (zyV.2 fun i hi=>?_)
  obtain ⟨w,h1,h2,h3⟩:=(zc5 p.W.toNat fun w hw=>S.num64 hc0 hw).1 hi
  rw [znE (by omega) (BitVec.lt_of_getLsbD hi),decide_eq_true_eq]
  have:=zmb S.canon h1
  omega
 have hpre : ∀ r∈(List.range p.cell.length).map (zba p q),(r.length:Int)=((zB p.W.toNat q).length:Int)∧zd2 r:=by
  intro r hr
  obtain ⟨a,ha,rfl⟩:=List.mem_map.1 hr
  exact ⟨by simp [zba],zyG hc0 S (List.mem_range.1 ha)⟩
 rw [if_neg (not_not_intro hs),if_neg,if_neg]
 ·rw [List.any_eq_true]
  rintro ⟨r,hr,h⟩
  simp [zym (hpre r hr).2] at h
 ·rw [List.any_eq_true]
  rintro ⟨r,hr,h⟩
  have:=hpre r hr
  rw [decide_eq_true_eq] at h
  exact h (zxy.2 ⟨by omega,by rw [zhY];omega,this.1,this.2.ins⟩)
end
end Go.Ab
namespace Go.Ab
open Go Go.Proofs
set_option maxRecDepth 10000
set_option maxHeartbeats 4000000
variable {T:Nat→Obj→Prop}
def zeU (p:PM):List Int:=ptL p.W.toNat (zcX p)
theorem zyE {x k:Nat} (h:x < 2 ^ k):x|||2 ^ k=x+2 ^ k:=by
 have:=Nat.two_pow_add_eq_or_of_lt (i:=k) h 1
 rw [Nat.or_comm,show 2 ^ k=2 ^ k * 1 by omega,← this];omega
theorem zwR {l:List (BitVec 64)} {w k:Nat} {s:BitVec 64} (hs:l[k]? = some s) (hk:k < 8) :
  zcF .i64 (fun p q=>p|||q) (zaG l w k:Int) ((((s >>> w&&&1#64).toNat:Int)) * 2 ^ (min k IntKind.i64.bits))=(zaG l w (k+1):Int):=by
 have h1:=zjR l w k
 have hp:2 ^ k≤2 ^ 7:=Nat.pow_le_pow_right (by decide) (by omega)
 have hb:min k IntKind.i64.bits=k:=by show min k 64=k;omega
 rw [hb,zaG,show l.getD k 0#64=s by rw [List.getD,hs];rfl]
 by_cases h:s.getLsbD w=true
 ·have e:s >>> w&&&1#64=1#64:=(zdp s w).2 h
  rw [e,if_pos h]
  have:=zto (a:=zaG l w k) (b:=2 ^ k) (by omega) (by omega)
  rw [show ((1#64).toNat:Int) * 2 ^ k=((2 ^ k:Nat):Int) by simp,this,zyE h1]
 ·have e:s >>> w&&&1#64=0#64:=(zfo s w).2 (by simpa using h)
  rw [e,if_neg h]
  have:=zto (a:=zaG l w k) (b:=0) (by omega) (by omega)
  rw [show ((0#64).toNat:Int) * 2 ^ k=((0:Nat):Int) by simp,this];simp
theorem zuZ (s:BitVec 64) (w:Nat):(s >>> w&&&1#64).toNat≤1:=by
 cases h:s.getLsbD w with
 | true=>rw [(zdp s w).2 h];decide
 | false=>rw [(zfo s w).2 h];decide
theorem zv8 {x k:Nat} (hx:x≤1) (hk:k < 8):0≤(x:Int) * 2 ^ (min (k:Int).toNat IntKind.i64.bits)∧(x:Int) * 2 ^ (min (k:Int).toNat IntKind.i64.bits)≤9223372036854775807:=by
 have hp:2 ^ k≤2 ^ 7:=Nat.pow_le_pow_right (by decide) (by omega)
 have hb:min (k:Int).toNat IntKind.i64.bits=k:=by show min k 64=k;omega
 rw [hb]
 match x,hx with
 | 0,_=>simp
 | 1,_ =>
  rw [show ((1:Nat):Int) * 2 ^ k=((2 ^ k:Nat):Int) by simp]
  have h7:(2:Nat) ^ 7=128:=rfl
  exact ⟨Int.natCast_nonneg _,Int.ofNat_le.2 (show 2 ^ k≤9223372036854775807 by omega)⟩
theorem zvl (p:PM) (hc0:zy p=0):Fn Tryz.prog T zf0 [.d (dPM p)] [] (.d (dI (zeU p))) []:=by
 have hg:=zW hc0
 have w1:=hg.w1
 have w2:=hg.w2
 have v8:=hg.v8
 refine zd zw zlV (by show 1≤39;decide) ?_
 (repeat' ((conv=>whnf);first|refine vA ?_|refine vJ fun hg=>?_|refine vT ?_|(refine vP ?_ ?_;·omega)|fail));all_goals try conv=>whnf
 refine zg (fun ((i,zs):Nat×List D)=>[(3,.own 0),(11,.d (dU p.val)),(12,.d (.int .i64 ((p.val.map D.u64).length:Int))),(13,.d (.int .i64 ((i:Int))))]) (fun ((i,zs):Nat×List D)=>[(0,some (.row 1 zs))]) 1 (fun ((i,zs):Nat×List D)=>i≤p.val.length∧zs=(List.range p.W.toNat).map fun w=>D.int .i64 (zaG p.val w i:Int)) (fun ((i,zs):Nat×List D)=>p.val.length - i) ((0,List.replicate p.W.toNat (D.int .i64 0))) [(0,1)] [] (⟨by simp,by simp only [zaG];exact zY _ _⟩) (by (refine ⟨rfl,rfl,rfl,?_,?_⟩;repeat' first|exact trivial|exact rfl|refine And.intro ?_ ?_|refine ⟨_,rfl,?_⟩|decide)) ?_
 rintro ⟨i,zs⟩ ⟨hi,rfl⟩
 by_cases hil:i < p.val.length
 ·obtain ⟨s,hs⟩ : ∃ s,p.val[i]? = some s:=⟨_,List.getElem?_eq_getElem hil⟩
  (repeat' ((conv=>whnf);first|refine vA ?_|(refine vF ?_ ?_<;>intro hc<;>try simp only [vL] at hc)|refine vJ fun hg=>?_|refine vT ?_|refine vN ‹_› ?_));all_goals try conv=>whnf
  ·refine zg (fun ((w,zs):Nat×List D)=>[(3,.own 0),(4,.d (.int .i64 ((i:Int)))),(5,.d (.u64 (s))),(11,.d (dU p.val)),(12,.d (.int .i64 ((p.val.map D.u64).length:Int))),(13,.d (.int .i64 ((i:Int)))),(19,.d (.int .i64 (((List.range p.W.toNat).map fun w=>D.int .i64 (zaG p.val w i:Int)).length:Int))),(20,.d (.int .i64 ((w:Int))))]) (fun ((w,zs):Nat×List D)=>[(0,some (.row 1 zs))]) 1 (fun ((w,zs):Nat×List D)=>w≤p.W.toNat∧zs=(List.range p.W.toNat).map fun u=>D.int .i64 (if u < w then (zaG p.val u (i+1):Int) else (zaG p.val u i:Int))) (fun ((w,zs):Nat×List D)=>p.W.toNat - w) ((0,_)) [(0,0)] [] (⟨by simp,by simp only [Nat.not_lt_zero,if_false]⟩) (by (refine ⟨rfl,rfl,rfl,?_,?_⟩;repeat' first|exact trivial|exact rfl|refine And.intro ?_ ?_|refine ⟨_,rfl,?_⟩|decide)) ?_
   rintro ⟨w,zs⟩ ⟨hw,rfl⟩
   by_cases hwl:w < p.W.toNat
   ·have er:(List.range p.W.toNat)[w]? = some w:=List.getElem?_range hwl
    have bs:(s >>> (w:Int).toNat&&&(1:BitVec 64)).toNat≤1:=zuZ s _
    have hor:=zwR (w:=w) hs (by omega)
    have hsh:0≤(((s >>> (w:Int).toNat&&&(1:BitVec 64)).toNat:Int)) * 2 ^ (min (i:Int).toNat IntKind.i64.bits)∧(((s >>> (w:Int).toNat&&&(1:BitVec 64)).toNat:Int)) * 2 ^ (min (i:Int).toNat IntKind.i64.bits)≤9223372036854775807:=zv8 bs (by omega)
    have e1 : ¬ w < w:=by omega
    (repeat' ((conv=>whnf);first|refine vA ?_|(refine vF ?_ ?_<;>intro hc<;>try simp only [vL] at hc)|refine vT ?_|refine vN ‹_› ?_|((first|refine vO ?_ ?_|refine vP ?_ ?_);·first|omega|(simp only [vM] at *;omega))|(refine vU ?_ ?_;·kernel_rfl)|fail));all_goals try conv=>whnf
    ·refine ⟨(w+1,_),[(0,0)],[],?_,?_,by (refine ⟨rfl,rfl,rfl,?_,?_⟩;repeat' first|exact trivial|exact rfl|refine And.intro ?_ ?_|refine ⟨_,rfl,?_⟩|decide)⟩
     ·refine ⟨by (omega),(zal _).trans (zj fun u hu=>?_)⟩
      show (if u=w then _ else _)=_
      by_cases e:u=w
      ·subst e
       rw [if_pos rfl,if_pos (show u < u+1 by omega),if_neg e1]
       exact congrArg (D.int .i64) hor
      ·rw [if_neg e]
       by_cases e2:u < w
       ·rw [if_pos e2,if_pos (show u < w+1 by omega)]
       ·rw [if_neg e2,if_neg (show ¬ u < w+1 by omega)]
     ·((simp only [vM] at *;omega))
    ·omega
   ·(repeat' ((conv=>whnf);first|refine vA ?_|(refine vF ?_ ?_<;>intro hc<;>try simp only [vL] at hc)|refine vT ?_|(refine vQ ?_ fun x hx=>?_;·omega)|((first|refine vO ?_ ?_|refine vP ?_ ?_);·omega)|(refine vU ?_ ?_;·kernel_rfl)|fail));all_goals try conv=>whnf
    ·omega
    ·have e0:w=p.W.toNat:=by omega
     subst e0
     refine ⟨(i+1,_),[(0,0)],[],?_,?_,by (refine ⟨rfl,rfl,rfl,?_,?_⟩;repeat' first|exact trivial|exact rfl|refine And.intro ?_ ?_|refine ⟨_,rfl,?_⟩|decide)⟩
     ·exact ⟨by (omega),zj fun u hu=>by rw [if_pos hu]⟩
     ·((simp only [vM] at *;omega))
  all_goals omega
 ·(repeat' ((conv=>whnf);first|refine vA ?_|(refine vF ?_ ?_<;>intro hc<;>try simp only [vL] at hc)|refine vJ fun hg=>?_|refine vT ?_|(refine vQ ?_ fun x hx=>?_;·omega)|fail));all_goals try conv=>whnf
  ·omega
  ·have e0:i=p.val.length:=by omega
   subst e0
   refine congrArg (fun l=>some (D.arr 1 l)) ?_
   unfold zeU ptL
   rw [List.map_map];rfl
end Go.Ab
namespace Go.Ab
open Go Go.Proofs
set_option maxRecDepth 10000
set_option maxHeartbeats 4000000
variable {T:Nat→Obj→Prop}
def ze2 (a:Nat) (b:Bool) (rows:List (BitVec 64)):List D:=[.agg [.int .i64 (a:Int),.bool b,dU rows]]
def zbv (p:PM) (a:Nat):List (BitVec 64):=(List.range p.W.toNat).map fun (w:Nat)=>zbw p (a:Int) (w:Int)
def zaB (p:PM) (a:Nat):List (List D):=((List.range p.cell.length).drop a).flatMap fun a=>[ze2 a false (zbv p a),ze2 a true (zak p a)]
theorem znp {p:PM} {a:Nat} (ha:a < p.cell.length):zaB p a=ze2 a false (zbv p a)::ze2 a true (zak p a)::zaB p (a+1):=by
 unfold zaB
 rw [List.drop_eq_getElem_cons (by simpa using ha),List.flatMap_cons]
 simp
theorem zoL {p:PM} {a:Nat} (ha:p.cell.length≤a):zaB p a=[]:=by
 unfold zaB
 rw [List.drop_eq_nil_of_le (by simpa using ha)];rfl
theorem znP (hR:zcN T) (p:PM) (hp:zav p.rank) (hc0:zy p=0):It Tryz.prog T zay [.ptr 0 0] [zaj p] (zaB p 0):=by
 have hg:=zW hc0
 have w1:=hg.w1
 have w2:=hg.w2
 have n4:=hg.n4
 refine zpX zw zj3 rfl (by show 2≤51;decide) fun l=>?_
 (repeat' ((conv=>whnf);first|refine vJ fun hg=>?_|refine vT ?_));all_goals try conv=>whnf
 refine zg (fun (a:Nat)=>[(0,.yld l),(1,.ptr 0 0),(10,.d (.int .i64 ((p.cell.map dI).length:Int))),(11,.d (.int .i64 ((a:Int))))]) (fun (a:Nat)=>[(0,some (zaj p)),(1,some (.todo (some (zaB p a))))]) 2 (fun (a:Nat)=>a≤p.cell.length) (fun (a:Nat)=>p.cell.length - a) (0) [(0,0),(1,1)] [] (by simp) (by (refine ⟨rfl,rfl,rfl,?_,?_⟩;repeat' first|exact trivial|exact rfl|refine And.intro ?_ ?_|refine ⟨_,rfl,?_⟩|decide)) ?_
 rintro a ha
 by_cases hal:a < p.cell.length
 ·have hd:=znp hal
  have cw:=zvb (T:=T) hR p hp (a:Int)
  rw [show za8 p (a:Int)=(zak p a,0) by rw [za8,if_neg (not_not_intro hc0),if_neg (by omega)];rfl] at cw
  (repeat' ((conv=>whnf);first|refine vA ?_|(refine vF ?_ ?_<;>intro hc<;>try simp only [vL] at hc)|refine vK fun hg=>?_|refine vT ?_|(refine vP ?_ ?_;·omega)|fail));all_goals try conv=>whnf
  ·refine zg (fun ((w,zs):Nat×List D)=>[(0,.yld l),(1,.ptr 0 0),(3,.d (.int .i64 ((a:Int)))),(4,.own 2),(10,.d (.int .i64 ((p.cell.map dI).length:Int))),(11,.d (.int .i64 ((a:Int)))),(18,.d (.int .i64 ((List.replicate p.W.toNat (D.u64 (0:BitVec 64))).length:Int))),(19,.d (.int .i64 ((w:Int))))]) (fun ((w,zs):Nat×List D)=>[(0,some (zaj p)),(1,some (.todo (some (zaB p a)))),(2,some (.row 1 zs))]) 3 (fun ((w,zs):Nat×List D)=>w≤p.W.toNat∧zs=(List.range p.W.toNat).map fun (u:Nat)=>D.u64 (if u < w then zbw p (a:Int) (u:Int) else 0)) (fun ((w,zs):Nat×List D)=>p.W.toNat - w) ((0,List.replicate p.W.toNat (D.u64 0))) [(0,0),(1,1),(2,2)] [] (⟨by simp,by simp only [Nat.not_lt_zero,if_false];exact zY _ _⟩) (by (refine ⟨rfl,rfl,rfl,?_,?_⟩;repeat' first|exact trivial|exact rfl|refine And.intro ?_ ?_|refine ⟨_,rfl,?_⟩|decide)) ?_
   rintro ⟨w,zs⟩ ⟨hw,hz⟩
   have hzl:zs.length=p.W.toNat:=by rw [hz];simp
   by_cases hwl:w < p.W.toNat
   ·(repeat' ((conv=>whnf);first|refine vA ?_|(refine vF ?_ ?_<;>intro hc<;>try simp only [vL] at hc)|refine vT ?_|((first|refine vO ?_ ?_|refine vP ?_ ?_);·omega)|refine yD (zyp hR p hp (a:Int) (w:Int)) ⟨⟨rfl,rfl⟩,⟨rfl,rfl⟩,⟨rfl,rfl⟩,rfl⟩ rfl ?_));all_goals try conv=>whnf
    ·refine ⟨(w+1,_),[(0,0),(1,1),(2,2)],[],?_,?_,by (refine ⟨rfl,rfl,rfl,?_,?_⟩;repeat' first|exact trivial|exact rfl|refine And.intro ?_ ?_|refine ⟨_,rfl,?_⟩|decide)⟩
     ·refine ⟨by (omega),?_⟩
      rw [hz]
      refine (zal _).trans (zj fun u hu=>?_)
      show (if u=w then _ else _)=_
      by_cases e:u=w
      ·subst e
       rw [if_pos rfl,if_pos (show u < u+1 by omega)]
      ·rw [if_neg e]
       by_cases e2:u < w
       ·rw [if_pos e2,if_pos (show u < w+1 by omega)]
       ·rw [if_neg e2,if_neg (show ¬ u < w+1 by omega)]
     ·((simp only [vM] at *;omega))
    all_goals omega
   ·have e0:w=p.W.toNat:=by omega
    obtain rfl:zs=(zbv p a).map D.u64:=by
     rw [hz];unfold zbv;rw [List.map_map]
     exact zj fun u hu=>by rw [if_pos (by omega)];rfl
    (repeat' ((conv=>whnf);first|refine vA ?_|(refine vF ?_ ?_<;>intro hc<;>try simp only [vL] at hc)|refine vT ?_|refine yN cw ⟨⟨rfl,rfl⟩,⟨rfl,rfl⟩,rfl⟩ ?_));all_goals try conv=>whnf
    ·omega
    ·refine ⟨rfl,ze2 a false (zbv p a),ze2 a true (zak p a)::zaB p (a+1),congrArg (fun l=>some (Ob.todo (some l))) hd,rfl,rfl,rfl,?_,?_⟩
     ·(repeat' ((conv=>whnf);first|refine vE ?_|refine vG ?_|refine vT ?_));all_goals try conv=>whnf
      refine ⟨rfl,ze2 a true (zak p a),zaB p (a+1),rfl,rfl,rfl,rfl,?_,?_⟩
      ·(repeat' ((conv=>whnf);first|refine vE ?_|refine vG ?_|refine vT ?_|(refine vO ?_ ?_;·omega)|fail));all_goals try conv=>whnf
       exact ⟨a+1,[(0,0),(1,1)],[],by (omega),by (omega),by (refine ⟨rfl,rfl,rfl,?_,?_⟩;repeat' first|exact trivial|exact rfl|refine And.intro ?_ ?_|refine ⟨_,rfl,?_⟩|decide)⟩
      ·(repeat' ((conv=>whnf);first|refine vE ?_|refine vH ?_|refine vT ?_));all_goals try conv=>whnf
       right;rfl
     ·(repeat' ((conv=>whnf);first|refine vE ?_|refine vH ?_|refine vT ?_));all_goals try conv=>whnf
      right;rfl
  ·omega
 ·(repeat' ((conv=>whnf);first|refine vA ?_|(refine vF ?_ ?_<;>intro hc<;>try simp only [vL] at hc)|refine vK fun hg=>?_|refine vT ?_|(refine vP ?_ ?_;·omega)|fail));all_goals try conv=>whnf
  ·omega
  ·left;exact congrArg (fun l=>some (Ob.todo (some l))) (zoL (by omega))
theorem zpQ (p:PM):Fn Tryz.prog T zdc [.d (dPM p)] [] (.fn zay [.ptr 0 0]) [some (zaj p)]:=by
 refine zaQ zw zlX (by show 1≤4;decide) _ (fun e env mem n h=>h) ?_
 (repeat' ((conv=>whnf);refine vT ?_));all_goals try conv=>whnf
 exact ⟨trivial,_,[(0,0)],[],rfl,.inl (by (repeat' first|exact rfl|refine And.intro ?_ ?_|refine ⟨_,rfl,?_⟩)),⟨rfl,rfl,rfl,trivial,by (repeat' first|exact trivial|exact rfl|refine And.intro ?_ ?_|refine ⟨_,rfl,?_⟩|exact of_decide_eq_true rfl)⟩,trivial⟩
def zbz:Nat→List (BitVec 64)→List (D×D)
 | _,[]=>[]
 | i,x::r=>(.u64 x,.int .i64 (i:Int))::zbz (i+1) r
def zg1 (dl:List (BitVec 64)) (x:BitVec 64):List (BitVec 64):=if x∈dl then dl else dl++[x]
theorem znY : ∀ (dl:List (BitVec 64)) (i:Nat),(zbz i dl).length=dl.length
 | [],_=>rfl
 | x::r,i=>by simp [zbz,znY r (i+1)]
theorem znr (x:BitVec 64) : ∀ (dl:List (BitVec 64)) (i:Nat),zbz i (dl++[x])=zbz i dl++[(.u64 x,.int .i64 ((i+dl.length:Nat):Int))]
 | [],i=>by simp [zbz]
 | y::r,i=>by
  rw [List.cons_append,zbz,zbz,znr x r (i+1),List.cons_append,List.length_cons,show i+1+r.length=i+(r.length+1) by omega]
theorem zp9 (x:BitVec 64) : ∀ (dl:List (BitVec 64)) (i:Nat),zU (zbz i dl) (.u64 x)=some (if x∈dl then some (.int .i64 ((i+dl.idxOf x:Nat):Int)) else none)
 | [],i=>by simp [zbz,zU]
 | y::r,i=>by
  have ih:=zp9 x r (i+1)
  show (match D.eqk (.u64 x) (.u64 y) with
   | some true=>some (some (D.int .i64 (i:Int)))
   | some false=>zU (zbz (i+1) r) (.u64 x)
   | none=>none)=_
  show (match some (decide (x=y)) with
   | some true=>some (some (D.int .i64 (i:Int)))
   | some false=>zU (zbz (i+1) r) (.u64 x)
   | none=>none)=_
  by_cases e:x=y
  ·subst e;simp
  ·rw [decide_eq_false e]
   show zU (zbz (i+1) r) (.u64 x)=_
   rw [ih,List.idxOf_cons]
   have:(y==x)=false:=by simp [Ne.symm e]
   rw [this]
   by_cases hm:x∈r
   ·rw [if_pos hm,if_pos (List.mem_cons_of_mem _ hm)]
    show some (some (D.int .i64 _))=some (some (D.int .i64 _))
    congr 4
    simp only [cond_false]
    omega
   ·rw [if_neg hm,if_neg (by simp [e,hm])]
theorem zyk (s:BitVec 64) (k m:Nat):(s >>> k&&&(1:BitVec 64)) <<< m=if s.getLsbD k=true then 1#64 <<< m else 0#64:=by
 by_cases h:s.getLsbD k=true
 ·rw [if_pos h,show s >>> k&&&(1:BitVec 64)=1#64 from (zdp s k).2 h]
 ·rw [if_neg h,show s >>> k&&&(1:BitVec 64)=0#64 from (zfo s k).2 (by simpa using h)];simp
theorem zrc {q:Nat→Nat} {s:BitVec 64} {k:Nat} : zL q s k|||(s >>> k&&&(1:BitVec 64)) <<< q k=zL q s (k+1):=by
 rw [zyk,zbY]
 split<;>simp
theorem zzb {n:Nat} {q:Nat→Nat} (hq:zbQ n q) (hn:n≤64) (s:BitVec 64) (dl:List (BitVec 64)) (hdl:dl.length≤64):Fn Tryz.prog T zbx [.d (.u64 s),.ptr 0 0,.ptr 1 0] [.box [.d (dI (ptL n q))],.box [.map 2],.map (zbz 0 dl)]
  (.d (.int .i64 (((zg1 dl (zL q s n)).idxOf (zL q s n):Nat):Int))) [some (.box [.d (dI (ptL n q))]),some (.box [.map 2]),some (.map (zbz 0 (zg1 dl (zL q s n))))]:=by
 refine zaQ zw zj2 (by show 3≤41;decide) _ (fun e env mem n h=>h) ?_
 (repeat' ((conv=>whnf);first|refine vA ?_|refine vJ fun hg=>?_|refine vT ?_));all_goals try conv=>whnf
 refine zg (fun ((k,o):Nat×BitVec 64)=>[(0,.d (.u64 (s))),(1,.ptr 0 0),(2,.ptr 1 0),(5,.d (.u64 (o))),(10,.d (dI (ptL n q))),(11,.d (.int .i64 (((ptL n q).map (D.int .i64)).length:Int))),(12,.d (.int .i64 ((k:Int)))),(1000000,.ptr 0 0),(1000001,.ptr 1 0),(1000002,.map 2)]) (fun ((k,o):Nat×BitVec 64)=>[(0,some (.box [.d (dI (ptL n q))])),(1,some (.box [.map 2])),(2,some (.map (zbz 0 dl)))]) 3 (fun ((k,o):Nat×BitVec 64)=>k≤n∧o=zL q s k) (fun ((k,o):Nat×BitVec 64)=>n - k) ((0,0#64)) [(0,0),(1,1),(2,2)] [] (⟨by simp,rfl⟩) (by (refine ⟨rfl,rfl,rfl,?_,?_⟩;repeat' first|exact trivial|exact rfl|refine And.intro ?_ ?_|refine ⟨_,rfl,?_⟩|decide)) ?_
 rintro ⟨k,o⟩ ⟨hk,hI⟩
 have hpl:=zaz (n:=n) (q:=q)
 by_cases hkl:k < n
 ·have e1:(ptL n q)[k]? = some ((q k:Nat):Int):=zag hkl
  have b1:=hq.le k hkl
  (repeat' ((conv=>whnf);first|refine vA ?_|(refine vF ?_ ?_<;>intro hc<;>try simp only [vL] at hc)|refine vT ?_|refine vN ‹_› ?_|((first|refine vO ?_ ?_|refine vP ?_ ?_);·omega)|fail));all_goals try conv=>whnf
  ·refine ⟨(k+1,_),[(0,0),(1,1),(2,2)],[],?_,?_,by (refine ⟨rfl,rfl,rfl,?_,?_⟩;repeat' first|exact trivial|exact rfl|refine And.intro ?_ ?_|refine ⟨_,rfl,?_⟩|decide)⟩
   ·refine ⟨by (omega),?_⟩
    rw [hI];exact zrc
   ·((simp only [vM] at *;omega))
  ·omega
 ·have e0:k=n:=by omega
  subst e0
  subst hI
  have hfd:=zp9 (zL q s k) dl 0
  by_cases hm:zL q s k∈dl
  ·rw [if_pos hm,Nat.zero_add] at hfd
   have ea:zg1 dl (zL q s k)=dl:=if_pos hm
   rw [ea]
   (repeat' ((conv=>whnf);first|refine vA ?_|refine vE ?_|refine vG ?_|(refine vF ?_ ?_<;>intro hc<;>try simp only [vL] at hc)|refine vT ?_|(refine vQ ?_ fun x hx=>?_;·omega)|((first|refine vO ?_ ?_|refine vP ?_ ?_);·omega)|refine zmx.mk _ ‹_› ?_));all_goals try conv=>whnf
   ·omega
   ·refine ⟨trivial,_,[(0,0),(1,1),(2,2)],[],rfl,.inl (by (repeat' exact rfl)),⟨by rfl,by rfl,by rfl,trivial,by (repeat' first|exact trivial|exact rfl|refine And.intro ?_ ?_|refine ⟨_,rfl,?_⟩|exact of_decide_eq_true rfl)⟩,by (repeat' first|exact trivial|exact rfl|refine And.intro ?_ ?_|refine ⟨_,rfl,?_⟩)⟩
  ·rw [if_neg hm] at hfd
   have ea:zg1 dl (zL q s k)=dl++[zL q s k]:=if_neg hm
   have eb:zbz 0 (dl++[zL q s k])=zbz 0 dl++[(.u64 (zL q s k),.int .i64 ((zbz 0 dl).length:Int))]:=by rw [znr,znY,Nat.zero_add]
   have ec:(dl++[zL q s k]).idxOf (zL q s k)=(zbz 0 dl).length:=by rw [znY,List.idxOf_append,if_neg hm];simp
   have hfn:zU (zbz 0 dl++[(.u64 (zL q s k),.int .i64 ((zbz 0 dl).length:Int))]) (.u64 (zL q s k))=some (some (.int .i64 ((zbz 0 dl).length:Int))):=by rw [zeW _ _ _ hfd];simp [zU,D.eqk,D.same]
   rw [ea,eb,ec]
   (repeat' ((conv=>whnf);first|refine vA ?_|(refine vF ?_ ?_<;>intro hc<;>try simp only [vL] at hc)|refine vT ?_|(refine vQ ?_ fun x hx=>?_;·omega)|((first|refine vO ?_ ?_|refine vP ?_ ?_);·omega)|refine zmx.mk _ ‹_› ?_));all_goals try conv=>whnf
   ·omega
   ·refine ⟨trivial,_,[(0,0),(1,1),(2,2)],[],rfl,.inl (by (repeat' exact rfl)),⟨by rfl,by rfl,by rfl,trivial,by (repeat' first|exact trivial|exact rfl|refine And.intro ?_ ?_|refine ⟨_,rfl,?_⟩|exact of_decide_eq_true rfl)⟩,by (repeat' first|exact trivial|exact rfl|refine And.intro ?_ ?_|refine ⟨_,rfl,?_⟩)⟩
end Go.Ab
namespace Go.Ab
open Go Go.Proofs
set_option maxRecDepth 10000
set_option maxHeartbeats 4000000
variable {T:Nat→Obj→Prop}
def ze4 (bl:Nat→BitVec 64) (k:Nat):List (BitVec 64):=(List.range k).foldl (fun l w=>zg1 l (bl w)) []
theorem zgb (bl:Nat→BitVec 64) (k:Nat):ze4 bl (k+1)=zg1 (ze4 bl k) (bl k):=by
 unfold ze4;rw [List.range_succ,List.foldl_append];rfl
theorem znC (l:List (BitVec 64)) (x:BitVec 64):(∃ t,zg1 l x=l++t)∧x∈zg1 l x∧(zg1 l x).length≤l.length+1:=by
 unfold zg1
 split
 ·rename_i h;exact ⟨⟨[],by simp⟩,h,by omega⟩
 ·exact ⟨⟨[x],rfl⟩,by simp,by simp⟩
theorem zsd (bl:Nat→BitVec 64) : ∀ k,(ze4 bl k).length≤k
 | 0=>by simp [ze4]
 | k+1=>by
  rw [zgb]
  have:=(znC (ze4 bl k) (bl k)).2.2
  have:=zsd bl k
  omega
theorem zse (bl:Nat→BitVec 64) {k:Nat} : ∀ m,k≤m → ∃ t,ze4 bl m=ze4 bl k++t
 | 0,h=>⟨[],by have:k=0:=Nat.le_zero.1 h;subst this;simp⟩
 | m+1,h=>by
  by_cases e:k=m+1
  ·exact ⟨[],by rw [e];simp⟩
  ·obtain ⟨t,ht⟩:=zse bl (k:=k) m (by omega)
   obtain ⟨⟨t',ht'⟩,-⟩:=znC (ze4 bl m) (bl m)
   exact ⟨t++t',by rw [zgb,ht',ht];simp⟩
def zd8 (bl:Nat→BitVec 64) (w:Nat):Nat:=(ze4 bl (w+1)).idxOf (bl w)
theorem ztA (bl:Nat→BitVec 64) {w m:Nat} (h:w < m):zd8 bl w=(ze4 bl m).idxOf (bl w)∧bl w∈ze4 bl m:=by
 obtain ⟨t,ht⟩:=zse bl (k:=w+1) m (by omega)
 have hm:bl w∈ze4 bl (w+1):=by rw [zgb];exact (znC _ _).2.1
 rw [ht]
 exact ⟨by rw [List.idxOf_append,if_pos hm];rfl,List.mem_append_left _ hm⟩
theorem zxa (bl:Nat→BitVec 64) {v w n:Nat} (hv:v < n) (hw:w < n):zd8 bl v=zd8 bl w↔bl v=bl w:=by
 obtain ⟨h1,m1⟩:=ztA bl hv
 obtain ⟨h2,m2⟩:=ztA bl hw
 rw [h1,h2]
 constructor
 ·intro h
  have g1:=List.getElem_idxOf (List.idxOf_lt_length_of_mem m1)
  have g2:=List.getElem_idxOf (List.idxOf_lt_length_of_mem m2)
  rw [← g1,← g2]
  congr 1
 ·intro h;rw [h]
theorem zv4 (n:Nat) (q:Nat→Nat):zaq n [] q=zdJ q:=by
 funext v w;simp [zaq,zdJ]
theorem zv6 {n i:Nat} {rels:List (Nat→BitVec 64)} {q:Nat→Nat} {r:Nat→BitVec 64} (hr:rels[i]? = some r) {w:Nat} (hw:w < n) :
  zK (zbj (ptL n (zK (zaq n (rels.take i) q))) (ptL n (zd8 fun w=>zL q (r w) n))) w=zK (zaq n (rels.take (i+1)) q) w:=by
 refine zhm fun v hv=>?_
 have h1:at0 (ptL n (zK (zaq n (rels.take i) q))) v=((zK (zaq n (rels.take i) q) v:Nat):Int):=zu (zag (by omega))
 have h2:at0 (ptL n (zK (zaq n (rels.take i) q))) w=((zK (zaq n (rels.take i) q) w:Nat):Int):=zu (zag hw)
 have h3:at0 (ptL n (zd8 fun w=>zL q (r w) n)) v=((zd8 (fun w=>zL q (r w) n) v:Nat):Int):=zu (zag (by omega))
 have h4:at0 (ptL n (zd8 fun w=>zL q (r w) n)) w=((zd8 (fun w=>zL q (r w) n) w:Nat):Int):=zu (zag hw)
 unfold zbj
 rw [h1,h2,h3,h4]
 have e1:=zoM (zgh n (rels.take i) q) (v:=v) (w:=w)
 have e2:=zxa (fun w=>zL q (r w) n) (v:=v) (w:=w) (n:=n) (by omega) hw
 rw [Bool.eq_iff_iff,decide_eq_true_eq]
 rw [show (((zK (zaq n (rels.take i) q) v:Nat):Int)=((zK (zaq n (rels.take i) q) w:Nat):Int))↔zaq n (rels.take i) q v w=true from by rw [← e1];omega]
 rw [show (((zd8 (fun w=>zL q (r w) n) v:Nat):Int)=((zd8 (fun w=>zL q (r w) n) w:Nat):Int))↔zL q (r v) n=zL q (r w) n from by rw [← e2];omega]
 unfold zaq
 rw [List.take_add_one,hr]
 simp [and_assoc]
theorem zkA (p:PM) (a:Nat):zak p a=(List.range p.W.toNat).map (wkB p a):=by
 have e : ∀ w,w < p.W.toNat→wkB p a w=zaK (za p.cell a) (za p.rank a) w p.W.toNat:=fun w hw=>by
  unfold wkB uAt zak
  rw [List.getD,List.getElem?_map,List.getElem?_range hw];rfl
 exact (zj e).symm
def zko (p:PM) (a:Nat):List (Nat→BitVec 64):=((List.range p.cell.length).drop a).flatMap fun (a:Nat)=>[fun (w:Nat)=>zbw p (a:Int) (w:Int),fun w=>wkB p a w]
theorem zuD {p:PM} {a:Nat} (ha:a < p.cell.length):zko p a=(fun (w:Nat)=>zbw p (a:Int) (w:Int))::(fun w=>wkB p a w)::zko p (a+1):=by
 unfold zko
 rw [List.drop_eq_getElem_cons (by simpa using ha),List.flatMap_cons]
 simp
theorem zvV {p:PM} {a:Nat} (ha:p.cell.length≤a):zko p a=[]:=by
 unfold zko
 rw [List.drop_eq_nil_of_le (by simpa using ha)];rfl
theorem znT {p:PM} : ∀ (k a:Nat),p.cell.length - a=k→(zaB p a).length=(zko p a).length ∧ ∀ {i:Nat} {x:List D},(zaB p a)[i]? = some x → ∃ (ag:Nat) (b:Bool) (r:Nat→BitVec 64),x=ze2 ag b ((List.range p.W.toNat).map r)∧(zko p a)[i]? = some r
 | 0,a,h=>by
  rw [zoL (p:=p) (a:=a) (by omega),zvV (p:=p) (a:=a) (by omega)]
  exact ⟨rfl,fun {i x} h=>by simp at h⟩
 | k+1,a,h=>by
  obtain ⟨h1,h2⟩:=znT (p:=p) k (a+1) (by omega)
  rw [znp (p:=p) (a:=a) (by omega),zuD (p:=p) (a:=a) (by omega)]
  refine ⟨by simp [h1],fun {i x} hx=>?_⟩
  match i,hx with
  | 0,hx=>exact ⟨a,false,_,(Option.some.inj hx).symm,rfl⟩
  | 1,hx=>exact ⟨a,true,_,by rw [← zkA];exact (Option.some.inj hx).symm,rfl⟩
  | i+2,hx=>exact h2 hx
theorem zyy {p:PM} {i:Nat} {x:List D} (h:(zaB p 0)[i]? = some x) : ∃ (a:Nat) (b:Bool) (r:Nat→BitVec 64),x=ze2 a b ((List.range p.W.toNat).map r)∧(zbb p)[i]? = some r:=(znT (p:=p) p.cell.length 0 (by omega)).2 h
theorem zvz (p:PM):(zaB p 0).length=(zbb p).length:=(znT (p:=p) p.cell.length 0 (by omega)).1
theorem zw1 (hR:zcN T) (p:PM) (hp:zav p.rank) (hc0:zy p=0) {q:Nat→Nat} (hq:zbQ p.W.toNat q):Fn Tryz.prog T zdb [.d (dPM p),.d (dI (ptL p.W.toNat q))] [] (.d (dI (ptL p.W.toNat (zab p.W.toNat (zbb p) q)))) []:=by
 have hg:=zW hc0
 have w1:=hg.w1
 have w2:=hg.w2
 have h64:=W64 hc0
 have hpl:=zaz (n:=p.W.toNat) (q:=q)
 refine zd zw zlW (by show 2≤43;decide) ?_
 (repeat' ((conv=>whnf);first|refine vA ?_|refine vT ?_));all_goals try conv=>whnf
 refine zX.res (zpQ p) (by (repeat refine ⟨⟨rfl,rfl⟩,?_⟩);rfl) ?_
 (repeat' ((conv=>whnf);refine vT ?_));all_goals try conv=>whnf
 refine zgg (znP hR p hp hc0) [3] [] (by first|((repeat refine ⟨⟨rfl,rfl⟩,?_⟩);rfl)|(repeat' first|exact rfl|refine And.intro ?_ ?_|refine ⟨_,rfl,?_⟩)) (by (repeat' first|exact rfl|refine And.intro ?_ ?_|refine ⟨_,rfl,?_⟩)) (by rfl) (by rfl) [(3,.ptr 0 0),(5,.ptr 1 0)] (fun (a:List Int)=>[(0,some (.box [.d (dI (ptL p.W.toNat q))])),(1,some (.box [.d (dI a)]))]) 2 (fun i (a:List Int)=>a=ptL p.W.toNat (zK (zaq p.W.toNat ((zbb p).take i) q))) (ptL p.W.toNat q) [(0,1),(1,2)] [] (zb8 fun w hw=>by rw [List.take_zero,zv4];exact (zri hq hw).symm) (by (refine ⟨rfl,rfl,rfl,?_,?_⟩;repeat' first|exact trivial|exact rfl|refine And.intro ?_ ?_|refine ⟨_,rfl,?_⟩|decide)) ?_ ?_
 ·intro i x a hx ha
  obtain ⟨ag,bo,r,rfl,hr⟩:=zyy hx
  subst ha
  refine ⟨rfl,?_⟩
  obtain ⟨bl,hbl⟩ : ∃ bl:Nat→BitVec 64,bl=fun w=>zL q (r w) p.W.toNat:=⟨_,rfl⟩
  (repeat' ((conv=>whnf);first|refine vA ?_|refine vJ fun hg=>?_|refine vK fun hg=>?_|refine vT ?_|(refine vP ?_ ?_;·(simp only [vM] at *;omega))|fail));all_goals try conv=>whnf
  refine zg (fun ((w,dl,zs):Nat×List (BitVec 64)×List D)=>[(3,.ptr 0 0),(5,.ptr 1 0),(6,.ptr 2 0),(8,.fn zbx [.ptr 0 0,.ptr 4 0]),(9,.own 5),(21,.d (.int .i64 ((List.replicate (((ptL p.W.toNat q).map (D.int .i64)).length:Int).toNat (D.int .i64 0)).length:Int))),(22,.d (.int .i64 ((w:Int)))),(1000003,.ptr 0 0),(1000005,.ptr 1 0)]) (fun ((w,dl,zs):Nat×List (BitVec 64)×List D)=>[(0,some (.box [.d (dI (ptL p.W.toNat q))])),(1,some (.box [.d (dI (ptL p.W.toNat (zK (zaq p.W.toNat ((zbb p).take i) q))))])),(2,some (.box [.d (.int .i64 (ag:Int)),.d (.bool bo),.d (dU ((List.range p.W.toNat).map r))])),(3,some (.map (zbz 0 dl))),(4,some (.box [.map 3])),(5,some (.row 1 zs))]) 6 (fun ((w,dl,zs):Nat×List (BitVec 64)×List D)=>w≤p.W.toNat∧dl=ze4 bl w∧zs=(List.range p.W.toNat).map fun u=>D.int .i64 (if u < w then (zd8 bl u:Int) else 0)) (fun ((w,dl,zs):Nat×List (BitVec 64)×List D)=>p.W.toNat - w) ((0,[],_)) [(0,0),(1,1),(2,2),(3,3),(4,4),(5,5)] [] (⟨by simp,rfl,by simp only [Nat.not_lt_zero,if_false];rw [List.length_map,Int.toNat_natCast,zaz];exact zY _ _⟩) (by (refine ⟨rfl,rfl,rfl,?_,?_⟩;repeat' first|exact trivial|exact rfl|exact .inl rfl|refine And.intro ?_ ?_|refine ⟨_,rfl,?_⟩|decide)) ?_
  rintro ⟨w,dl,zs⟩ ⟨hw,hdl,hz⟩
  have hzl:zs.length=p.W.toNat:=by rw [hz];simp
  by_cases hwl:w < p.W.toNat
  ·have er:((List.range p.W.toNat).map r)[w]? = some (r w):=by rw [List.getElem?_map,List.getElem?_range hwl];rfl
   have hdl64:dl.length≤64:=by rw [hdl];have:=zsd bl w;omega
   (repeat' ((conv=>whnf);first|refine vA ?_|(refine vF ?_ ?_<;>intro hc<;>try simp only [vL] at hc)|refine vT ?_|refine vN ‹_› ?_));all_goals try conv=>whnf
   ·refine zX.objs [0,4,3] (zzb hq h64 (r w) dl hdl64) (by (repeat' first|exact rfl|refine And.intro ?_ ?_|refine ⟨_,rfl,?_⟩)) (by (repeat' first|exact rfl|refine And.intro ?_ ?_|refine ⟨_,rfl,?_⟩)) (by rfl) (by rfl) (by simp) ?_
    (repeat' ((conv=>whnf);first|refine vT ?_|((first|refine vO ?_ ?_|refine vP ?_ ?_);·omega)|fail));all_goals try conv=>whnf
    ·refine ⟨(w+1,zg1 dl (zL q (r w) p.W.toNat),_),[(0,0),(1,1),(2,2),(3,3),(4,4),(5,5)],[],?_,?_,by (refine ⟨rfl,rfl,rfl,?_,?_⟩;repeat' first|exact trivial|exact rfl|exact .inl rfl|refine And.intro ?_ ?_|refine ⟨_,rfl,?_⟩|decide)⟩
     ·refine ⟨by (omega),by rw [zgb,hdl,hbl],?_⟩
      rw [hz]
      refine (zal _).trans (zj fun u hu=>?_)
      show (if u=w then _ else _)=_
      by_cases e:u=w
      ·subst e
       rw [if_pos rfl,if_pos (show u < u+1 by omega),zd8,zgb,hdl,hbl]
      ·rw [if_neg e]
       by_cases e2:u < w
       ·rw [if_pos e2,if_pos (show u < w+1 by omega)]
       ·rw [if_neg e2,if_neg (show ¬ u < w+1 by omega)]
     ·((simp only [vM] at *;omega))
    all_goals omega
   ·omega
  ·have e0:w=p.W.toNat:=by omega
   obtain rfl:zs=(ptL p.W.toNat (zd8 bl)).map (D.int .i64):=by
    rw [hz];unfold ptL;rw [List.map_map]
    exact zj fun u hu=>by rw [if_pos (by omega)];rfl
   have cs:=zrK (T:=T) (znU (zgh p.W.toNat ((zbb p).take i) q) p.W.toNat) h64 (ptL p.W.toNat (zd8 bl)) zaz
   (repeat' ((conv=>whnf);first|refine vA ?_|(refine vF ?_ ?_<;>intro hc<;>try simp only [vL] at hc)|refine vT ?_|(refine vQ ?_ fun x hx=>?_;·omega)|refine yN cs ⟨⟨rfl,rfl⟩,⟨rfl,rfl⟩,rfl⟩ ?_));all_goals try conv=>whnf
   ·omega
   ·exact ⟨ptL p.W.toNat (zK (zbj (ptL p.W.toNat (zK (zaq p.W.toNat ((zbb p).take i) q))) (ptL p.W.toNat (zd8 bl)))),[(0,0),(1,1)],[],zb8 fun u hu=>by rw [hbl];exact zv6 hr hu,by (refine ⟨rfl,rfl,rfl,?_,?_⟩;repeat' first|exact trivial|exact rfl|refine And.intro ?_ ?_|refine ⟨_,rfl,?_⟩|decide)⟩
 ·intro a ha
  (repeat' ((conv=>whnf);refine vT ?_));all_goals try conv=>whnf
  rw [zvz,List.take_length] at ha
  subst ha;rfl
end Go.Ab
namespace Go.Ab
open Go Go.Proofs
set_option maxRecDepth 10000
set_option maxHeartbeats 4000000
variable {T:Nat→Obj→Prop}
theorem zqw (n:Nat):zbQ n (fun _=>0):=⟨fun w _=>Nat.zero_le w,fun w _=>rfl⟩
theorem zoy (p:PM) {w:Nat} (hw:w < p.W.toNat):zK (zbj (ptL p.W.toNat fun _=>0) (zeU p)) w=zjS p w:=by
 refine zhm fun v hv=>?_
 have h1:at0 (ptL p.W.toNat fun _=>0) v=0:=zu (zag (q:=fun _=>0) (by omega))
 have h2:at0 (ptL p.W.toNat fun _=>0) w=0:=zu (zag (q:=fun _=>0) hw)
 have h3:at0 (zeU p) v=((zcX p v:Nat):Int):=zu (zag (by omega))
 have h4:at0 (zeU p) w=((zcX p w:Nat):Int):=zu (zag hw)
 unfold zbj zdJ
 rw [h1,h2,h3,h4]
 rw [Bool.eq_iff_iff,decide_eq_true_eq,decide_eq_true_eq]
 omega
def zdY (p:PM) (j:Nat):Prop:=ptL p.W.toNat (zaO p (j+1))=ptL p.W.toNat (zaO p j)
instance (p:PM) (j:Nat):Decidable (zdY p j):=inferInstanceAs (Decidable (_=_))
def zcc (p:PM):Nat:=zK (fun v _=>decide (zdY p v)) 65
theorem zxU {p:PM} {j:Nat} (hj:j < 65) (h:zdY p j) (hn : ∀ i,i < j → ¬zdY p i):zcc p=j:=by
 have h1:=zgS (fun v _=>decide (zdY p v)) 65
 rcases Nat.lt_trichotomy (zcc p) j with hl|hl|hl
 ·exfalso
  rcases h1.1 with ⟨h2,h3⟩|h2
  ·exact hn _ hl (of_decide_eq_true h3)
  ·unfold zcc at hl;omega
 ·exact hl
 ·have:=h1.2 j hl
  simp [h] at this
theorem ztN {p:PM} (hc0:zy p=0) {j:Nat} (hn : ∀ i,i < j → ¬zdY p i):j≤64:=by
 have h64:=W64 hc0
 have h1:=zjZ (rels:=zbb p) (zcg p p.W.toNat) (k:=j) (fun i hi=>by
  refine Classical.byContradiction fun hne=>hn i hi (zb8 fun w hw=>?_)
  exact Classical.byContradiction fun hw'=>hne ⟨w,hw,hw'⟩) j (Nat.le_refl _)
 have h2:=zbF p.W.toNat (za3 p.W.toNat (zbb p) (zjS p) j)
 omega
def zfA (p:PM):List (List Int):=(List.range (zcc p+1)).map fun i=>ptL p.W.toNat (zaO p i)
theorem zuj (hR:zcN T) (p:PM) (hp:zav p.rank) (hc0:zy p=0):Fn Tryz.prog T zff [.d (dPM p)] [] (.d (dII (zfA p))) []:=by
 have hg:=zW hc0
 have w1:=hg.w1
 have w2:=hg.w2
 have h64:=W64 hc0
 have cs:=zrK (T:=T) (zqw p.W.toNat) h64 (zeU p) zaz
 rw [show dI (ptL p.W.toNat fun _=>0)=D.arr 1 (List.replicate p.W.toNat (D.int .i64 0)) by show D.arr 1 ((ptL p.W.toNat fun _=>0).map (D.int .i64))=_;unfold ptL;rw [List.map_map];exact congrArg _ (zY _ _).symm,zb8 fun w hw=>zoy p hw] at cs
 refine zd zw zkX (by show 1≤30;decide) ?_
 (repeat' ((conv=>whnf);first|refine vA ?_|refine vT ?_|(refine vP ?_ ?_;·omega)|(refine vU ?_ ?_;·kernel_rfl)|refine yN (zvl p hc0) ⟨⟨rfl,rfl⟩,rfl⟩ ?_|refine yN cs ⟨⟨rfl,rfl⟩,⟨rfl,rfl⟩,rfl⟩ ?_));all_goals try conv=>whnf
 refine zg (fun ((j,zs):Nat×List D)=>[(1,.ptr 0 0),(3,.d (dI (ptL p.W.toNat (zaO p j)))),(5,.own 1)]) (fun ((j,zs):Nat×List D)=>[(0,some (zaj p)),(1,some (.row 1 zs))]) 2 (fun ((j,zs):Nat×List D)=>(∀ i,i < j → ¬zdY p i)∧zs=(List.range (j+1)).map fun i=>dI (ptL p.W.toNat (zaO p i))) (fun ((j,zs):Nat×List D)=>65 - j) ((0,[dI (ptL p.W.toNat (zaO p 0))])) [(0,0),(1,2)] [] (⟨fun i hi=>by omega,rfl⟩) (by (refine ⟨rfl,rfl,rfl,?_,?_⟩;repeat' first|exact trivial|exact rfl|refine And.intro ?_ ?_|refine ⟨_,rfl,?_⟩|decide)) ?_
 rintro ⟨j,zs⟩ ⟨hn,hz⟩
 have hj:=ztN hc0 hn
 have hzl:zs.length=j+1:=by rw [hz];simp
 have cf:Fn Tryz.prog T zdb [.d (dPM p),.d (dI (ptL p.W.toNat (zaO p j)))] [] (.d (dI (ptL p.W.toNat (zaO p (j+1))))) []:=zw1 hR p hp hc0 (zku p j)
 (repeat' ((conv=>whnf);refine vT ?_));all_goals try conv=>whnf
 refine zX.dataN (cf) (by (repeat refine ⟨⟨rfl,rfl⟩,?_⟩);rfl) ?_
 (repeat' ((conv=>whnf);first|refine vA ?_|(refine vI ?_ ?_<;>intro hc)|refine vT ?_|(refine vP ?_ ?_;·(simp only [vM] at *;omega))|refine yD (zlH _ _) ⟨⟨rfl,rfl⟩,⟨rfl,rfl⟩,rfl⟩ rfl ?_));all_goals try conv=>whnf
 ·have hs:=zxU (p:=p) (by omega) (by simpa [zdY] using hc) hn
  refine congrArg (fun l=>some (D.arr 1 l)) ?_
  rw [hz,zfA,hs,List.map_map];rfl
 ·refine ⟨(j+1,_),[(0,0),(1,3)],[],?_,?_,by (refine ⟨rfl,rfl,rfl,?_,?_⟩;repeat' first|exact trivial|exact rfl|refine And.intro ?_ ?_|refine ⟨_,rfl,?_⟩|decide)⟩
  ·refine ⟨fun i hi=>?_,by rw [hz,List.range_succ (n:=j+1),List.map_append];rfl⟩
   by_cases e:i=j
   ·subst e;simpa [zdY] using hc
   ·exact hn i (by omega)
  ·((simp only [vM] at *;omega))
def zaw (p:PM) (n:Int):List Int×Int:=if zy p≠0 then ([],zy p) else if n < 0 then ([],2) else (ptL p.W.toNat (zaO p n.toNat),0)
abbrev dLI (x:List Int×Int):D := .tup [dI x.1,.int .i64 x.2]
theorem ztM {p:PM} (hc0:zy p=0):zcc p≤64∧zdY p (zcc p):=by
 have h1:=zgS (fun v _=>decide (zdY p v)) 65
 have h2 : ∀ i,i < zcc p → ¬zdY p i:=fun i hi=>by have:=h1.2 i hi;simpa using this
 have h3:=ztN hc0 h2
 refine ⟨h3,?_⟩
 rcases h1.1 with ⟨h4,h5⟩|h4
 ·exact of_decide_eq_true h5
 ·unfold zcc at h3;omega
theorem zv1 {p:PM} (hc0:zy p=0) {n:Nat} : (zfA p)[min n (zcc p)]? = some (ptL p.W.toNat (zaO p n)):=by
 obtain ⟨h1,h2⟩:=ztM hc0
 unfold zfA
 rw [List.getElem?_map,List.getElem?_range (by omega)]
 show some (ptL p.W.toNat (zaO p (min n (zcc p))))=_
 congr 1
 by_cases h:n≤zcc p
 ·rw [show min n (zcc p)=n by omega]
 ·rw [show min n (zcc p)=zcc p by omega]
  exact (zb8 fun w hw=>zj0 (rels:=zbb p) (zcg p p.W.toNat) (k:=zcc p) (fun w hw=>zyH h2 hw) n (by omega) w hw).symm
theorem zuh (hR:zcN T) (p:PM) (hp:zav p.rank) (n:Int):Fn Tryz.prog T zfe [.d (dPM p),.d (.int .i64 n)] [] (.d (dLI (zaw p n))) []:=by
 refine zd zw zkW (by show 2≤25;decide) ?_
 by_cases hc0:zy p=0
 ·have hlen:(zfA p).length=zcc p+1:=by simp [zfA]
  have hst:=(ztM hc0).1
  have hat:=zv1 hc0 (n:=n.toNat)
  (repeat' ((conv=>whnf);first|refine vA ?_|((first|refine vD ?_ ?_|refine vF ?_ ?_)<;>intro hc<;>try simp only [vL] at hc)|refine vJ fun hg=>?_|refine vT ?_|((first|refine vO ?_ ?_|refine vS ?_ fun x hx=>?_);·(simp only [vM] at *;omega))|refine yD (zdr hR p hp) ⟨⟨rfl,rfl⟩,rfl⟩ rfl ?_|refine yN (zuj hR p hp hc0) ⟨⟨rfl,rfl⟩,rfl⟩ ?_));all_goals try conv=>whnf
  ·exact absurd hc0 hc
  ·rw [zaw,if_neg (by omega),if_pos hc];rfl
  ·have hi:(min n (↑(List.map dI (zfA p)).length - 1)).toNat=min n.toNat (zcc p):=by rw [List.length_map,hlen];omega
   rw [hi,hat] at hx
   injection hx with hx
   subst hx
   rw [zaw,if_neg (by omega),if_neg (by omega)];rfl
  all_goals skip
 ·(repeat' ((conv=>whnf);first|refine vA ?_|((first|refine vD ?_ ?_|refine vF ?_ ?_)<;>intro hc<;>try simp only [vL] at hc)|refine vT ?_|refine yD (zdr hR p hp) ⟨⟨rfl,rfl⟩,rfl⟩ rfl ?_));all_goals try conv=>whnf
  ·rw [zaw,if_pos hc];rfl
  ·exact absurd ‹zy p=0› hc0
  ·exact absurd ‹zy p=0› hc0
theorem zrN (hR:zcN T) (p:PM) (hp:zav p.rank):Fn Tryz.prog T zee [.d (dPM p)] [] (.d (dLI (zaw p 64))) []:=by
 refine zd zw ziS (by show 1≤8;decide) ?_
 (repeat' ((conv=>whnf);first|refine vT ?_|refine yN (zuh hR p hp 64) ⟨⟨rfl,rfl⟩,⟨rfl,rfl⟩,rfl⟩ ?_));all_goals try conv=>whnf
 ·rfl
end Go.Ab
namespace Go.Ab
open Go Go.Proofs
set_option maxRecDepth 10000
set_option maxHeartbeats 4000000
variable {T:Nat→Obj→Prop}
abbrev zaR (n:Nat) (q:Nat→Nat):List D:=(ptL n (z8 q)).map (D.int .i64)
theorem zvf {n:Nat} {q:Nat→Nat} (hn:n≤64) (hb : ∀ w,w < n→z8 q w < 64) (s:BitVec 64):Fn Tryz.prog T zah [.d (.u64 s),.ptr 0 0] [.box [.own 1],.row 1 (zaR n q)]
  (.d (.u64 (zL (z8 q) s n))) [some (.box [.own 1]),some (.row 1 (zaR n q))]:=by
 refine zaQ zw zhD (by show 2≤24;decide) _ (fun e env mem n h=>h) ?_
 have hpl:(zaR n q).length=n:=by simp [zaR,ptL]
 (repeat' ((conv=>whnf);first|refine vA ?_|refine vJ fun hg=>?_|refine vT ?_));all_goals try conv=>whnf
 refine zg (fun ((k,o):Nat×BitVec 64)=>[(0,.d (.u64 (s))),(4,.d (.u64 (o))),(7,.own 1),(8,.d (.int .i64 (((zaR n q).length:Int)))),(9,.d (.int .i64 ((k:Int)))),(1000000,.ptr 0 0),(1000001,.own 1)]) (fun ((k,o):Nat×BitVec 64)=>[(0,some (.box [.own 1])),(1,some (.row 1 (zaR n q)))]) 2 (fun ((k,o):Nat×BitVec 64)=>k≤n∧o=zL (z8 q) s k) (fun ((k,o):Nat×BitVec 64)=>n - k) ((0,0#64)) [(0,0),(1,1)] [] (⟨by simp,rfl⟩) (by (refine ⟨rfl,rfl,rfl,?_,?_⟩;repeat' first|exact trivial|exact rfl|refine And.intro ?_ ?_|refine ⟨_,rfl,?_⟩|decide)) ?_
 rintro ⟨k,o⟩ ⟨hk,hI⟩
 by_cases hkl:k < n
 ·have e1:(ptL n (z8 q))[(k:Int).toNat]? = some ((z8 q k:Nat):Int):=zag hkl
  have b1:=hb k hkl
  (repeat' ((conv=>whnf);first|refine vA ?_|(refine vF ?_ ?_<;>intro hc<;>try simp only [vL] at hc)|refine vT ?_|refine vN ‹_› ?_|((first|refine vO ?_ ?_|refine vP ?_ ?_);·omega)|fail));all_goals try conv=>whnf
  ·refine ⟨(k+1,_),[(0,0),(1,1)],[],?_,?_,by (refine ⟨rfl,rfl,rfl,?_,?_⟩;repeat' first|exact trivial|exact rfl|refine And.intro ?_ ?_|refine ⟨_,rfl,?_⟩|decide)⟩
   ·refine ⟨by (omega),?_⟩
    rw [hI];exact zrc
   ·((simp only [vM] at *;omega))
  ·have:=zaz (n:=n) (q:=z8 q);omega
 ·(repeat' ((conv=>whnf);first|refine vA ?_|(refine vF ?_ ?_<;>intro hc<;>try simp only [vL] at hc)|refine vT ?_|(refine vQ ?_ fun x hx=>?_;·omega)|((first|refine vO ?_ ?_|refine vP ?_ ?_);·first|omega|(simp only [vM] at *;omega))|fail));all_goals try conv=>whnf
  ·have:=zaz (n:=n) (q:=z8 q);omega
  ·have e0:k=n:=by omega
   subst e0
   subst hI
   refine ⟨trivial,_,[(0,0),(1,1)],[],rfl,.inl (by (repeat' exact rfl)),⟨by rfl,by rfl,by rfl,trivial,by (repeat' first|exact trivial|exact rfl|refine And.intro ?_ ?_|refine ⟨_,rfl,?_⟩|exact of_decide_eq_true rfl)⟩,by (repeat' first|exact trivial|exact rfl|refine And.intro ?_ ?_|refine ⟨_,rfl,?_⟩)⟩
theorem zhW {α:Type} (f g:Nat→α) : ∀ n:Nat,((List.range n).flatMap fun a=>[f a,g a]).length=2 * n
 | 0=>rfl
 | n+1=>by rw [List.range_succ,List.flatMap_append,List.length_append,zhW f g n];simp;omega
theorem zsk {α:Type} (f g:Nat→α) : ∀ (n i:Nat),i < 2 * n→((List.range n).flatMap fun a=>[f a,g a])[i]? = some (if i % 2=0 then f (i / 2) else g (i / 2))
 | 0,i,h=>by omega
 | n+1,i,h=>by
  have hl:=zhW f g n
  rw [List.range_succ,List.flatMap_append]
  by_cases hi:i < 2 * n
  ·rw [List.getElem?_append_left (by omega)];exact zsk f g n i hi
  ·rw [List.getElem?_append_right (by omega),hl]
   have:i=2 * n∨i=2 * n+1:=by omega
   rcases this with rfl|rfl
   ·rw [if_pos (by omega),show 2 * n / 2=n by omega];simp
   ·rw [if_neg (by omega),show (2 * n+1) / 2=n by omega,show 2 * n+1 - 2 * n=1 by omega];simp
theorem zvy {p:PM} {i:Nat} {x:List D} (h:(zaB p 0)[i]? = some x):i < 2 * p.cell.length∧x=if i % 2=0 then ze2 (i / 2) false (zbv p (i / 2)) else ze2 (i / 2) true (zak p (i / 2)):=by
 have hl:(zaB p 0).length=2 * p.cell.length:=by unfold zaB;rw [List.drop_zero];exact zhW _ _ _
 have hi:i < (zaB p 0).length:=(List.getElem?_eq_some_iff.1 h).1
 refine ⟨by omega,?_⟩
 unfold zaB at h
 rw [List.drop_zero,zsk _ _ _ _ (by omega)] at h
 exact (Option.some.inj h).symm
noncomputable def zo8 (p:PM):PM×List Int×Int:=if zy p≠0 then (⟨0,[],[],[]⟩,[],zy p) else ((zsq p (zaO p 64)).1,ptL p.W.toNat (z8 (zaO p 64)),0)
abbrev zy7 (x:PM×List Int×Int):D := .tup [dPM x.1,dI x.2.1,.int .i64 x.2.2]
theorem zgJ (n:Nat) (q:Nat→Nat):zB (n+1) q=zB n q++if q n=n then [n] else []:=by
 unfold zB
 rw [List.range_succ,List.filter_append]
 congr 1
 by_cases h:q n=n
 ·rw [if_pos h];simp [h]
 ·rw [if_neg h];simp [h]
theorem zsc {q:Nat→Nat} {w:Nat} (h:q w=w):z8 q w=(zB w q).length:=by unfold z8;rw [h];rfl
theorem zvH {n:Nat} {q:Nat→Nat} (hq:zbQ n q) {w:Nat} (hw:w < n):z8 q (q w)=z8 q w:=by unfold z8;rw [hq.idem w hw]
def z2 (n:Nat) (q:Nat→Nat):List Int:=(zB n q).map fun (u:Nat)=>(u:Int)
theorem zsY (hT:zd3 T) (p:PM) (hp:zav p.rank) (h12:p.W≤12):Fn Tryz.prog T zef [.d (dPM p)] [] (.d (zy7 (zo8 p))) []:=by
 have hR:=zn3 (T:=T)
 have cc:=zrN hR p hp
 refine zd zw ziT (by show 1≤116;decide) ?_
 by_cases hc0:zy p=0
 ·obtain ⟨q,hq⟩ : ∃ q,q=zaO p 64:=⟨_,rfl⟩
  have hg:=zW hc0
  have w1:=hg.w1
  have w2:=hg.w2
  have v8:=hg.v8
  have n4:=hg.n4
  have S:zh3 p q:=by rw [hq];exact zsD hc0 (by omega)
  have hcan:=S.canon
  have hpl:=zaz (n:=p.W.toNat) (q:=q)
  have h64:=W64 hc0
  rw [show zaw p 64=(ptL p.W.toNat q,0) by rw [zaw,if_neg (by omega),if_neg (by omega),hq];rfl] at cc
  (repeat' ((conv=>whnf);first|refine vA ?_|refine vH ?_|refine vJ fun hg=>?_|refine vT ?_|(refine vP ?_ ?_;·(simp only [vM] at *;omega))|refine yN cc ⟨⟨rfl,rfl⟩,rfl⟩ ?_));all_goals try conv=>whnf
  refine zg (fun ((k,zs,ys):Nat×List D×List D)=>[(1,.ptr 0 0),(2,.ptr 1 0),(7,.ptr 2 0),(8,.ptr 3 0),(33,.d (dI (ptL p.W.toNat q))),(34,.d (.int .i64 ((((ptL p.W.toNat q).map (D.int .i64)).length:Int)))),(35,.d (.int .i64 ((k:Int))))]) (fun ((k,zs,ys):Nat×List D×List D)=>[(0,some (zaj p)),(1,some zeA),(2,some (.box [.own 4])),(3,some (.box [.own 5])),(4,some (.row 1 zs)),(5,some (.row 1 ys))]) 6 (fun ((k,zs,ys):Nat×List D×List D)=>k≤p.W.toNat∧zs=(List.range p.W.toNat).map (fun u=>D.int .i64 (if u < k then (z8 q u:Int) else 0))∧ys=(zB k q).map fun (u:Nat)=>D.int .i64 (u:Int)) (fun ((k,zs,ys):Nat×List D×List D)=>p.W.toNat - k) ((0,_,[])) [(0,0),(1,1),(2,3),(3,4),(4,2)]   [5] (⟨by simp,by simp only [Nat.not_lt_zero,if_false];rw [List.length_map,Int.toNat_natCast,zaz];exact zY _ _,rfl⟩) (by (refine ⟨rfl,rfl,rfl,?_,?_⟩;repeat' first|exact trivial|exact rfl|exact ⟨_,rfl⟩|refine And.intro ?_ ?_|refine ⟨_,rfl,?_⟩|decide)) ?_
  rintro ⟨k,zs,ys⟩ ⟨hk,hz,hy⟩
  have hzl:zs.length=p.W.toNat:=by rw [hz];simp
  have hyl:ys.length≤k:=by rw [hy,List.length_map];exact zbF k q
  by_cases hkl:k < p.W.toNat
  ·have e1:(ptL p.W.toNat q)[k]? = some ((q k:Nat):Int):=zag hkl
   have b1:=hcan.le k hkl
   have e2:zs[((q k:Nat):Int).toNat]? = some (D.int .i64 (if q k < k then (z8 q (q k):Int) else 0)):=by rw [hz,List.getElem?_map,Int.toNat_natCast,List.getElem?_range (by omega)];rfl
   (repeat' ((conv=>whnf);first|refine vA ?_|(refine vF ?_ ?_<;>intro hc<;>try simp only [vL] at hc)|refine vJ fun hg=>?_|refine vK fun hg=>?_|refine vT ?_|refine vN ‹_› ?_|((first|refine vO ?_ ?_|refine vP ?_ ?_);·first|omega|(simp only [vM] at *;omega))|fail));all_goals try conv=>whnf
   ·have hqk:q k=k:=by omega
    refine ⟨(k+1,_,_),[(0,0),(1,1),(2,2),(3,3),(4,4),(5,7)],[],?_,?_,by (refine ⟨rfl,rfl,rfl,?_,?_⟩;repeat' first|exact trivial|exact rfl|refine And.intro ?_ ?_|refine ⟨_,rfl,?_⟩|decide)⟩
    ·refine ⟨by (omega),?_,?_⟩
     ·rw [hz]
      refine (zal _).trans (zj fun u hu=>?_)
      show (if u=k then _ else _)=_
      by_cases e:u=k
      ·subst e
       rw [if_pos rfl,if_pos (show u < u+1 by omega),zsc hqk,hy,List.length_map]
      ·rw [if_neg e]
       by_cases e2:u < k
       ·rw [if_pos e2,if_pos (show u < k+1 by omega)]
       ·rw [if_neg e2,if_neg (show ¬ u < k+1 by omega)]
     ·rw [zgJ,if_pos hqk,List.map_append,← hy];rfl
    ·((simp only [vM] at *;omega))
   ·have hqk:q k≠k:=by omega
    refine zbW.mk _ ⟨by omega,e2⟩ ?_
    (repeat' ((conv=>whnf);first|refine vT ?_|((first|refine vO ?_ ?_|refine vP ?_ ?_);·omega)|(refine vU ?_ ?_;·kernel_rfl)|fail));all_goals try conv=>whnf
    refine ⟨(k+1,_,_),[(0,0),(1,1),(2,2),(3,3),(4,4),(5,5)],[],?_,?_,by (refine ⟨rfl,rfl,rfl,?_,?_⟩;repeat' first|exact trivial|exact rfl|refine And.intro ?_ ?_|refine ⟨_,rfl,?_⟩|decide)⟩
    ·refine ⟨by (omega),?_,?_⟩
     ·rw [hz]
      refine (zal _).trans (zj fun u hu=>?_)
      show (if u=k then _ else _)=_
      by_cases e:u=k
      ·subst e
       rw [if_pos rfl,if_pos (show u < u+1 by omega),if_pos (show q u < u by omega),zvH hcan hkl]
      ·rw [if_neg e]
       by_cases e2:u < k
       ·rw [if_pos e2,if_pos (show u < k+1 by omega)]
       ·rw [if_neg e2,if_neg (show ¬ u < k+1 by omega)]
     ·rw [zgJ,if_neg hqk,List.append_nil,← hy]
    ·((simp only [vM] at *;omega))
   ·omega
  ·have e0:k=p.W.toNat:=by omega
   subst e0
   obtain rfl:zs=zaR p.W.toNat q:=by
    rw [hz,zaR,ptL,List.map_map]
    exact zj fun u hu=>by rw [if_pos (by omega)];rfl
   obtain rfl:ys=(z2 p.W.toNat q).map (D.int .i64):=by rw [hy,z2,List.map_map];rfl
   have hrl:(z2 p.W.toNat q).length=(zB p.W.toNat q).length:=by simp [z2]
   clear hz hzl hy hyl
   have hcnt:=zbF p.W.toNat q
   (repeat' ((conv=>whnf);first|refine vA ?_|(refine vF ?_ ?_<;>intro hc<;>try simp only [vL] at hc)|refine vJ fun hg=>?_|refine vT ?_|(refine vQ ?_ fun x hx=>?_;·omega)|((first|refine vO ?_ ?_|refine vP ?_ ?_);·omega)|(refine vU ?_ ?_;·kernel_rfl)|fail));all_goals try conv=>whnf
   ·omega
   ·omega
   ·refine zg (fun ((i,vs):Nat×List D)=>[(1,.ptr 0 0),(2,.ptr 1 0),(7,.ptr 2 0),(8,.ptr 3 0),(11,.ptr 6 0),(12,.own 7),(62,.d (dU p.val)),(63,.d (.int .i64 (((p.val.map D.u64).length:Int)))),(64,.d (.int .i64 ((i:Int))))]) (fun ((i,vs):Nat×List D)=>[(0,some (zaj p)),(1,some zeA),(2,some (.box [.own 4])),(3,some (.box [.own 5])),(4,some (.row 1 (zaR p.W.toNat q))),(5,some (.row 1 ((z2 p.W.toNat q).map (D.int .i64)))),(6,some (.box [.fn zah [.ptr 2 0]])),(7,some (.row 1 vs))]) 8 (fun ((i,vs):Nat×List D)=>i≤p.val.length∧vs=(p.val.take i).map fun s=>D.u64 (zL (z8 q) s p.W.toNat)) (fun ((i,vs):Nat×List D)=>p.val.length - i) ((0,[])) [(0,0),(1,1),(2,2),(3,3),(4,4),(5,5),(6,6)]   [7] (⟨by simp,rfl⟩) (by (refine ⟨rfl,rfl,rfl,?_,?_⟩;repeat' first|exact trivial|exact rfl|exact ⟨_,rfl⟩|refine And.intro ?_ ?_|refine ⟨_,rfl,?_⟩|decide)) ?_
    rintro ⟨i,vs⟩ ⟨hi,hv⟩
    have hvl:vs.length=i:=by rw [hv,List.length_map,List.length_take];omega
    by_cases hil:i < p.val.length
    ·obtain ⟨s,hs⟩ : ∃ s,p.val[i]? = some s:=⟨_,List.getElem?_eq_getElem hil⟩
     (repeat' ((conv=>whnf);first|refine vA ?_|(refine vF ?_ ?_<;>intro hc<;>try simp only [vL] at hc)|refine vT ?_|refine vN ‹_› ?_));all_goals try conv=>whnf
     ·refine zX.objs [2,4] (zvf h64 (fun w hw=>S.num64 hc0 hw) s) (by (repeat' first|exact rfl|refine And.intro ?_ ?_|refine ⟨_,rfl,?_⟩)) (by (repeat' first|exact rfl|refine And.intro ?_ ?_|refine ⟨_,rfl,?_⟩)) (by rfl) (by rfl) (by simp) ?_
      (repeat' ((conv=>whnf);first|refine vT ?_|((first|refine vO ?_ ?_|refine vP ?_ ?_);·first|omega|(simp only [vM] at *;omega))|fail));all_goals try conv=>whnf
      ·refine ⟨(i+1,_),[(0,0),(1,1),(2,2),(3,3),(4,4),(5,5),(6,6),(7,9)],[],?_,?_,by (refine ⟨rfl,rfl,rfl,?_,?_⟩;repeat' first|exact trivial|exact rfl|refine And.intro ?_ ?_|refine ⟨_,rfl,?_⟩|decide)⟩
       ·refine ⟨by (omega),?_⟩
        rw [za9 hs,List.map_append,← hv];rfl
       ·((simp only [vM] at *;omega))
     ·omega
    ·obtain rfl:i=p.val.length:=by omega
     obtain rfl:vs=(zcz p q).map D.u64:=by rw [hv,List.take_length,zcz,List.map_map];rfl
     clear hv
     have hvL:(zcz p q).length=p.val.length:=by simp [zcz]
     (repeat' ((conv=>whnf);first|refine vA ?_|(refine vF ?_ ?_<;>intro hc<;>try simp only [vL] at hc)|refine vT ?_|(refine vQ ?_ fun x hx=>?_;·omega)|fail));all_goals try conv=>whnf
     ·omega
     ·refine zX.res (zpQ p) (by (repeat refine ⟨⟨rfl,rfl⟩,?_⟩);rfl) ?_
      (repeat' ((conv=>whnf);refine vT ?_));all_goals try conv=>whnf
      refine zgg (znP hR p hp hc0) [9] [] (by first|((repeat refine ⟨⟨rfl,rfl⟩,?_⟩);rfl)|(repeat' first|exact rfl|refine And.intro ?_ ?_|refine ⟨_,rfl,?_⟩)) (by (repeat' first|exact rfl|refine And.intro ?_ ?_|refine ⟨_,rfl,?_⟩)) (by rfl) (by rfl) [(2,.ptr 0 0),(7,.ptr 1 0),(8,.ptr 2 0),(11,.ptr 5 0),(12,.own 6),(15,.ptr 7 0)] (fun (os:List D)=>[(0,some zeA),(1,some (.box [.own 3])),(2,some (.box [.own 4])),(3,some (.row 1 (zaR p.W.toNat q))),(4,some (.row 1 ((z2 p.W.toNat q).map (D.int .i64)))),(5,some (.box [.fn zah [.ptr 1 0]])),(6,some (.row 1 ((zcz p q).map D.u64))),(7,some (.box [.own 8])),(8,some (.row 1 os))]) 9 (fun i (os:List D)=>os=((List.range (i / 2)).map (zba p q)).map dU) ([]) [(0,1),(1,2),(2,3),(3,4),(4,5),(5,6),(6,7),(7,8)]   [8] (rfl) (by (refine ⟨rfl,rfl,rfl,?_,?_⟩;repeat' first|exact trivial|exact rfl|exact ⟨_,rfl⟩|refine And.intro ?_ ?_|refine ⟨_,rfl,?_⟩|decide)) ?_ ?_
      ·intro i x os hx ho
       obtain ⟨hi2,rfl⟩:=zvy hx
       subst ho
       by_cases hi:i % 2=0
       ·rw [if_pos hi]
        refine ⟨rfl,?_⟩
        (repeat' ((conv=>whnf);first|refine vA ?_|refine vE ?_|refine vH ?_|refine vT ?_));all_goals try conv=>whnf
        refine ⟨((List.range (i / 2)).map (zba p q)).map dU,[(0,0),(1,1),(2,2),(3,3),(4,4),(5,5),(6,6),(7,7),(8,8)],[],?_,by (refine ⟨rfl,rfl,rfl,?_,?_⟩;repeat' first|exact trivial|exact rfl|refine And.intro ?_ ?_|refine ⟨_,rfl,?_⟩|decide)⟩
        rw [show (i+1) / 2=i / 2 by omega]
       ·rw [if_neg hi]
        refine ⟨rfl,?_⟩
        (repeat' ((conv=>whnf);first|refine vA ?_|refine vE ?_|refine vG ?_|refine vJ fun hg=>?_|refine vT ?_));all_goals try conv=>whnf
        refine zg (fun ((k,rs):Nat×List D)=>[(2,.ptr 0 0),(7,.ptr 1 0),(8,.ptr 2 0),(11,.ptr 5 0),(12,.own 6),(15,.ptr 7 0),(16,.ptr 9 0),(17,.own 10),(81,.own 4),(82,.d (.int .i64 ((((z2 p.W.toNat q).map (D.int .i64)).length:Int)))),(83,.d (.int .i64 ((k:Int)))),(1000002,.ptr 0 0),(1000007,.ptr 1 0),(1000008,.ptr 2 0),(1000011,.ptr 5 0),(1000012,.own 6),(1000015,.ptr 7 0)]) (fun ((k,rs):Nat×List D)=>[(0,some zeA),(1,some (.box [.own 3])),(2,some (.box [.own 4])),(3,some (.row 1 (zaR p.W.toNat q))),(4,some (.row 1 ((z2 p.W.toNat q).map (D.int .i64)))),(5,some (.box [.fn zah [.ptr 1 0]])),(6,some (.row 1 ((zcz p q).map D.u64))),(7,some (.box [.own 8])),(8,some (.row 1 (((List.range (i / 2)).map (zba p q)).map dU))),(9,some (.box [.d (.int .i64 ((i / 2:Nat):Int)),.d (.bool true),.d (dU (zak p (i / 2)))])),(10,some (.row 1 rs))]) 11 (fun ((k,rs):Nat×List D)=>k≤(zB p.W.toNat q).length∧rs=((zB p.W.toNat q).take k).map fun u=>D.u64 (zL (z8 q) (wkB p (i / 2) u) p.W.toNat)) (fun ((k,rs):Nat×List D)=>(zB p.W.toNat q).length - k) ((0,[])) [(0,0),(1,1),(2,2),(3,3),(4,4),(5,5),(6,6),(7,7),(8,8),(9,9)]   [10] (⟨by simp,rfl⟩) (by (refine ⟨rfl,rfl,rfl,?_,?_⟩;repeat' first|exact trivial|exact rfl|exact ⟨_,rfl⟩|exact .inl rfl|refine And.intro ?_ ?_|refine ⟨_,rfl,?_⟩|decide)) ?_
        rintro ⟨k,rs⟩ ⟨hk,hr⟩
        have hcl:(zB p.W.toNat q).length≤p.W.toNat:=zbF _ _
        have hrsl:rs.length=k:=by rw [hr,List.length_map,List.length_take];omega
        by_cases hkl:k < (zB p.W.toNat q).length
        ·obtain ⟨u,hu⟩ : ∃ u,(zB p.W.toNat q)[k]? = some u:=⟨_,List.getElem?_eq_getElem hkl⟩
         have huW:u < p.W.toNat:=by have:=List.mem_of_getElem? hu;unfold zB at this;exact List.mem_range.1 (List.mem_filter.1 this).1
         have e4:(z2 p.W.toNat q)[(k:Int).toNat]? = some (u:Int):=by rw [z2,List.getElem?_map,Int.toNat_natCast,hu];rfl
         have e5:(zak p (i / 2))[u]? = some (wkB p (i / 2) u):=by rw [zkA,List.getElem?_map,List.getElem?_range huW];rfl
         (repeat' ((conv=>whnf);first|refine vA ?_|(refine vF ?_ ?_<;>intro hc<;>try simp only [vL] at hc)|refine vT ?_|refine vN ‹_› ?_|(refine vP ?_ ?_;·first|omega|(simp only [vM] at *;omega))|fail));all_goals try conv=>whnf
         ·refine zX.objs [1,3] (zvf h64 (fun w hw=>S.num64 hc0 hw) (wkB p (i / 2) u)) (by (repeat' first|exact rfl|refine And.intro ?_ ?_|refine ⟨_,rfl,?_⟩)) (by (repeat' first|exact rfl|refine And.intro ?_ ?_|refine ⟨_,rfl,?_⟩)) (by rfl) (by rfl) (by simp) ?_
          (repeat' ((conv=>whnf);first|refine vT ?_|((first|refine vO ?_ ?_|refine vP ?_ ?_);·first|omega|(simp only [vM] at *;omega))|(refine vU ?_ ?_;·kernel_rfl)|fail));all_goals try conv=>whnf
          ·refine ⟨(k+1,_),[(0,0),(1,1),(2,2),(3,3),(4,4),(5,5),(6,6),(7,7),(8,8),(9,9),(10,12)],[],?_,?_,by (refine ⟨rfl,rfl,rfl,?_,?_⟩;repeat' first|exact trivial|exact rfl|exact .inl rfl|refine And.intro ?_ ?_|refine ⟨_,rfl,?_⟩|decide)⟩
           ·refine ⟨by (omega),?_⟩
            rw [za9 hu,List.map_append,← hr];rfl
           ·((simp only [vM] at *;omega))
         ·omega
        ·(repeat' ((conv=>whnf);first|refine vA ?_|(refine vF ?_ ?_<;>intro hc<;>try simp only [vL] at hc)|refine vT ?_|(refine vQ ?_ fun x hx=>?_;·omega)|((first|refine vS ?_ fun x hx=>?_|refine vP ?_ ?_);·first|omega|(simp only [vM] at *;omega))|fail));all_goals try conv=>whnf
         ·omega
         ·obtain rfl:k=(zB p.W.toNat q).length:=by omega
          rw [List.take_length] at hr
          obtain rfl:rs=(zba p q (i / 2)).map D.u64:=by rw [hr,zba,List.map_map];rfl
          refine ⟨((List.range (i / 2)).map (zba p q)).map dU++[dU (zba p q (i / 2))],[(0,0),(1,1),(2,2),(3,3),(4,4),(5,5),(6,6),(7,7),(8,12)],[],?_,by (refine ⟨rfl,rfl,rfl,?_,?_⟩;repeat' first|exact trivial|exact rfl|refine And.intro ?_ ?_|refine ⟨_,rfl,?_⟩|decide)⟩
          rw [show (i+1) / 2=i / 2+1 by omega,List.range_succ,List.map_append,List.map_append];rfl
      ·intro os ho
       obtain ⟨s,hs,-⟩:=zvQ hc0 S
       have cn:=zza hT ((zB p.W.toNat q).length:Int) (by have:=zbF p.W.toNat q;have:(zB p.W.toNat q).length≤p.W.toNat:=this;omega) (zcz p q) ((List.range p.cell.length).map (zba p q))
       rw [show zea ((zB p.W.toNat q).length:Int) (zcz p q) ((List.range p.cell.length).map (zba p q))=(s,0) from hs] at cn
       obtain rfl:os=((List.range p.cell.length).map (zba p q)).map dU:=by rw [ho,show (zaB p 0).length=2 * p.cell.length by unfold zaB;rw [List.drop_zero];exact zhW _ _ _,show 2 * p.cell.length / 2=p.cell.length by omega]
       rw [← hrl,show ((z2 p.W.toNat q).length:Int)=(((z2 p.W.toNat q).map (D.int .i64)).length:Int) by rw [List.length_map]] at cn
       (repeat' ((conv=>whnf);first|refine vA ?_|refine vH ?_|refine vJ fun hg=>?_|refine vT ?_|(refine vU ?_ ?_;·kernel_rfl)|refine yN cn ⟨⟨rfl,rfl⟩,⟨rfl,rfl⟩,⟨rfl,rfl⟩,rfl⟩ ?_));all_goals try conv=>whnf
       rw [zo8,if_neg (by omega),← hq,show (zsq p q).1=s by rw [hs]];rfl
 ·rw [show zaw p 64=([],zy p) by rw [zaw,if_pos hc0]] at cc
  (repeat' ((conv=>whnf);first|refine vA ?_|(refine vD ?_ ?_<;>intro hc<;>try simp only [vL] at hc)|refine vJ fun hg=>?_|refine vT ?_|(refine vP ?_ ?_;·omega)|refine yN cc ⟨⟨rfl,rfl⟩,rfl⟩ ?_));all_goals try conv=>whnf
  ·rw [zo8,if_pos hc0];rfl
  ·exact absurd ‹zy p=0› hc0
end Go.Ab
namespace Go.Ab
open Go Go.Proofs
set_option maxRecDepth 10000
set_option maxHeartbeats 4000000
variable {T:Nat→Obj→Prop}
theorem zim (s:BitVec 64) (n:Nat):(s >>> n) % 2#64=1#64↔s.getLsbD n=true:=by
 rw [← BitVec.toNat_inj,BitVec.toNat_umod,BitVec.toNat_ushiftRight,← BitVec.testBit_toNat,Nat.shiftRight_eq_div_pow,Nat.testBit_eq_decide_div_mod_eq,decide_eq_true_eq]
 rfl
theorem zve (s:BitVec 64) (k:Nat):Fn Tryz.prog T zf5 [.d (.u64 s),.d (.int .i64 (k:Int))] [] (.d (.bool (s.getLsbD k))) []:=by
 refine zd zw zl2 (by show 2≤18;decide) ?_
 (repeat' ((conv=>whnf);first|refine vA ?_|refine vG ?_|(refine vF ?_ ?_<;>intro hc<;>try simp only [vL] at hc)|refine vT ?_|(refine vP ?_ ?_;·omega)|refine vZ ?_|refine vP (show (_:BitVec 64)≠_ by decide) ?_));all_goals try conv=>whnf
 ·show decide (s >>> k % 2#64=1#64)=_
  rw [Bool.eq_iff_iff,decide_eq_true_eq];exact zim s k
 ·rw [BitVec.getLsbD_of_ge _ _ (by omega)]
theorem zwK {x:BitVec 64} {k:Nat} (h:1&&&x.toNat >>> k=0):x.getLsbD k=false:=by
 show (1&&&x.toNat >>> k != 0)=false
 simp [h]
theorem ztZ {x:BitVec 64} {k:Nat} (h : ¬1&&&x.toNat >>> k=0):x.getLsbD k=true:=by
 show (1&&&x.toNat >>> k != 0)=true
 rw [bne_iff_ne];exact h
theorem zwT (n:Int) (h:0≤n):Fn Tryz.prog T zf4 [.d (.int .i64 n)] [] (.d (.u64 (zc2 n))) []:=by
 refine zd zw zl1 (by show 1≤8;decide) ?_
 (repeat' ((conv=>whnf);first|refine vA ?_|(refine vF ?_ ?_<;>intro hc<;>try simp only [vL] at hc)|refine vT ?_|(refine vP ?_ ?_;·omega)|refine vY ?_));all_goals try conv=>whnf
 ·rw [zc2,if_pos (by omega)];rfl
 ·rw [zc2,if_neg (by omega)];rfl
theorem zmG {α:Type} {l:List α} {i:Nat} {x d:α} (h:l[i]? = some x):l.getD i d=x:=by simp [List.getD,h]
def zx2 (rel:List (BitVec 64)) (n:Nat) (c:BitVec 64) (v u:Nat):Prop:=v < n∧(rel.getD v 0#64&&&c).getLsbD u=true
abbrev zyf (rel:List (BitVec 64)) (n:Nat):Prop := ∀ v u,v < n→(rel.getD v 0#64).getLsbD u=true→u < n
theorem zx2.lt {rel:List (BitVec 64)} {n:Nat} {c:BitVec 64} {v u:Nat} (hB:zyf rel n) (h:zx2 rel n c v u):v < n∧u < n:=⟨h.1,hB v u h.1 (by have:=h.2;rw [BitVec.getLsbD_and,Bool.and_eq_true] at this;exact this.1)⟩
end Go.Ab
namespace Go.Ab
open Go Go.Proofs
set_option maxRecDepth 10000
set_option maxHeartbeats 4000000
variable {T:Nat→Obj→Prop}
theorem zpP (l:List (BitVec 64)) (n:Int) (h:0≤n):Fn Tryz.prog T zeg [.d (dU l),.d (.int .i64 n)] [] (.d (.bool (l.any (bad n)))) []:=by
 refine zd zw ziU (by show 2≤20;decide) ?_
 (repeat' ((conv=>whnf);first|refine vA ?_|refine vT ?_));all_goals try conv=>whnf
 refine zS (fun (k:Nat)=>[(0,.d (dU l)),(1,.d (.int .i64 (n))),(5,.d (.int .i64 ((k:Int))))]) (fun (k:Nat)=>k≤l.length∧l.any (bad n)=(l.drop k).any (bad n)) (fun (k:Nat)=>l.length - k) (0) (⟨by simp,rfl⟩) (by (repeat' first|exact trivial|exact rfl|refine And.intro ?_ ?_)) ?_
 rintro k ⟨hk,hI⟩
 (repeat' ((conv=>whnf);first|refine vA ?_|((first|refine vD ?_ ?_|refine vF ?_ ?_)<;>intro hc<;>try simp only [vL] at hc)|refine vJ fun hg=>?_|refine vT ?_|(refine vQ ?_ fun x hx=>?_;·omega)|(refine vO ?_ ?_;·omega)|(refine vU ?_ ?_;·kernel_rfl)|refine vZ ?_|refine yD (zwT n h) ⟨⟨rfl,rfl⟩,rfl⟩ rfl ?_));all_goals try conv=>whnf
 ·rw [hI,zz hx,List.any_cons,show bad n x=true from decide_eq_true ‹_›];rfl
 ·exact ⟨k+1,[],[],⟨by (omega),by rw [hI,zz hx,List.any_cons,show bad n x=false from decide_eq_false (by simpa using ‹x &&& ~~~zc2 n=0#64›)];rfl⟩,by (omega),by (refine ⟨rfl,rfl,rfl,?_,?_⟩;repeat' first|exact trivial|exact rfl|refine And.intro ?_ ?_)⟩
 ·rw [hI,List.drop_eq_nil_of_le (by omega)];rfl
def zdx (m:KM):Int :=
 if m.W < 1∨64 < m.W then 2 else if 4 < m.rel.length∨8 < m.val.length then 8 else if m.rel.any (fun r=>decide ((r.length:Int)≠m.W)) then 3 else if m.val.any (bad m.W) then 2 else if m.rel.any (fun r=>r.any (bad m.W)) then 2 else 0
theorem zvg (m:KM):Fn Tryz.prog T zeL [.d (dKM m)] [] (.d (.int .i64 (zdx m))) []:=by
 refine zd zw zj9 (by show 1≤59;decide) ?_
 (repeat' ((conv=>whnf);first|refine vA ?_|(refine vF ?_ ?_<;>intro hc<;>try simp only [vL] at hc)|refine vJ fun hg=>?_|refine vT ?_|refine vX ?_));all_goals try conv=>whnf
 ·rw [zdx,if_pos (by omega)]
 ·rw [zdx,if_pos (by omega)]
 ·rw [zdx,if_neg (by omega),if_pos (by omega)]
 ·rw [zdx,if_neg (by omega),if_pos (by omega)]
 ·have e0:zdx m=if m.rel.any (fun r=>decide ((r.length:Int)≠m.W)) then 3 else if m.val.any (bad m.W) then 2 else if m.rel.any (fun r=>r.any (bad m.W)) then 2 else 0:=by rw [zdx,if_neg (by omega),if_neg (by omega)]
  refine zg (fun (k:Nat)=>[(1,.ptr 0 0),(3,.d (.int .i64 ((k:Int))))]) (fun (k:Nat)=>[(0,some (zqP m))]) 1 (fun (k:Nat)=>k≤m.rel.length∧m.rel.any (fun r=>decide ((r.length:Int)≠m.W))=(m.rel.drop k).any (fun r=>decide ((r.length:Int)≠m.W))) (fun (k:Nat)=>m.rel.length - k) (0) [(0,0)] [] (⟨by simp,rfl⟩) (by (refine ⟨rfl,rfl,rfl,?_,?_⟩;repeat' first|exact trivial|exact rfl|refine And.intro ?_ ?_|refine ⟨_,rfl,?_⟩|decide)) ?_
  rintro k ⟨hk,hI⟩
  (repeat' ((conv=>whnf);first|refine vA ?_|((first|refine vD ?_ ?_|refine vF ?_ ?_)<;>intro hc<;>try simp only [vL] at hc)|refine vJ fun hg=>?_|refine vT ?_|(refine vQ ?_ fun x hx=>?_;·omega)|(refine vO ?_ ?_;·omega)|(refine vU ?_ ?_;·kernel_rfl)|refine vX ?_));all_goals try conv=>whnf
  ·rw [e0,if_pos (by rw [hI,zz hx,List.any_cons,decide_eq_true (by simpa using ‹_›)];rfl)]
  ·exact ⟨k+1,[(0,0)],[],⟨by (omega),by rw [hI,zz hx,List.any_cons,decide_eq_false (by simpa using ‹_›)];rfl⟩,by (omega),by (refine ⟨rfl,rfl,rfl,?_,?_⟩;repeat' first|exact trivial|exact rfl|refine And.intro ?_ ?_|refine ⟨_,rfl,?_⟩|decide)⟩
  ·have h1:m.rel.any (fun r=>decide ((r.length:Int)≠m.W))=false:=by rw [hI,List.drop_eq_nil_of_le (by omega)];rfl
   rw [h1,if_neg (by decide)] at e0
   (repeat' ((conv=>whnf);first|refine vA ?_|(refine vI ?_ ?_<;>intro hc)|refine vT ?_|refine vX ?_|refine yD (zpP _ m.W (by omega)) ⟨⟨rfl,rfl⟩,⟨rfl,rfl⟩,rfl⟩ rfl ?_));all_goals try conv=>whnf
   ·rw [e0,if_pos ‹_›]
   ·rw [show m.val.any (bad m.W)=false from ‹_›,if_neg (by decide)] at e0
    refine zg (fun (k:Nat)=>[(1,.ptr 0 0),(4,.d (.int .i64 ((k:Int))))]) (fun (k:Nat)=>[(0,some (zqP m))]) 1 (fun (k:Nat)=>k≤m.rel.length∧m.rel.any (fun r=>r.any (bad m.W))=(m.rel.drop k).any (fun r=>r.any (bad m.W))) (fun (k:Nat)=>m.rel.length - k) (0) [(0,0)] [] (⟨by simp,rfl⟩) (by (refine ⟨rfl,rfl,rfl,?_,?_⟩;repeat' first|exact trivial|exact rfl|refine And.intro ?_ ?_|refine ⟨_,rfl,?_⟩|decide)) ?_
    clear hI hk
    rintro k ⟨hk,hI⟩
    (repeat' ((conv=>whnf);first|refine vA ?_|((first|refine vF ?_ ?_|refine vI ?_ ?_)<;>intro hc<;>try simp only [vL] at hc)|refine vJ fun hg=>?_|refine vT ?_|(refine vQ ?_ fun x hx=>?_;·omega)|(refine vO ?_ ?_;·omega)|(refine vU ?_ ?_;·kernel_rfl)|refine vX ?_|refine yD (zpP _ m.W (by omega)) ⟨⟨rfl,rfl⟩,⟨rfl,rfl⟩,rfl⟩ rfl ?_));all_goals try conv=>whnf
    ·rw [e0,if_pos (by rw [hI,zz hx,List.any_cons,show x.any (bad m.W)=true from ‹_›];rfl)]
    ·exact ⟨k+1,[(0,0)],[],⟨by (omega),by rw [hI,zz hx,List.any_cons,show x.any (bad m.W)=false from ‹_›];rfl⟩,by (omega),by (refine ⟨rfl,rfl,rfl,?_,?_⟩;repeat' first|exact trivial|exact rfl|refine And.intro ?_ ?_|refine ⟨_,rfl,?_⟩|decide)⟩
    ·rw [e0,if_neg]
     rw [hI,List.drop_eq_nil_of_le (by omega)];simp
end Go.Ab
namespace Go.Ab
open Go Go.Proofs
set_option maxRecDepth 10000
set_option maxHeartbeats 4000000
variable {T:Nat→Obj→Prop}
theorem zs1 {n:Nat} {q:Nat→Nat} (hq:zbQ n q) (hn:n≤64):Fn Tryz.prog T zeJ [.d (dI (ptL n q))] [] (.d (.int .i64 0)) []:=by
 have hl:(ptL n q).length=n:=zaz
 refine zd zw zj7 (by show 1≤31;decide) ?_
 (repeat' ((conv=>whnf);first|refine vA ?_|(refine vF ?_ ?_<;>intro hc<;>try simp only [vL] at hc)|refine vJ fun hg=>?_|refine vT ?_|refine vX ?_));all_goals try conv=>whnf
 ·omega
 ·refine zS (fun (k:Nat)=>[(0,.d (dI (ptL n q))),(8,.d (dI (ptL n q))),(9,.d (.int .i64 (((ptL n q).map (D.int .i64)).length:Int))),(10,.d (.int .i64 ((k:Int))))]) (fun (k:Nat)=>k≤n) (fun (k:Nat)=>n - k) (0) (by simp) (by (repeat' first|exact trivial|exact rfl|refine And.intro ?_ ?_)) ?_
  rintro k hk
  by_cases hkl:k < n
  ·have e1:(ptL n q)[k]? = some ((q k:Nat):Int):=zag hkl
   have b1:=hq.le k hkl
   have e2:(ptL n q)[q k]? = some ((q k:Nat):Int):=by rw [zag (by omega),hq.idem k hkl]
   (repeat' ((conv=>whnf);first|refine vA ?_|refine vH ?_|((first|refine vD ?_ ?_|refine vF ?_ ?_)<;>intro hc<;>try simp only [vL] at hc)|refine vT ?_|refine vN ‹_› ?_|(refine vO ?_ ?_;·omega)|refine vX ?_));all_goals try conv=>whnf
   all_goals try omega
   exact ⟨k+1,[],[],by (omega),by (omega),by (refine ⟨rfl,rfl,rfl,?_,?_⟩;repeat' first|exact trivial|exact rfl|refine And.intro ?_ ?_)⟩
  ·(repeat' ((conv=>whnf);first|refine vA ?_|((first|refine vD ?_ ?_|refine vF ?_ ?_)<;>intro hc<;>try simp only [vL] at hc)|refine vT ?_|(refine vQ ?_ fun x hx=>?_;·omega)|((first|refine vO ?_ ?_|refine vS ?_ fun x hx=>?_);·omega)|refine vX ?_));all_goals try conv=>whnf
   all_goals omega
theorem zoi {l:List Int} {i:Nat} (h:i < l.length):l[i]? = some (at0 l i):=by
 rw [List.getElem?_eq_getElem h];congr 1
 exact (zu (List.getElem?_eq_getElem h)).symm
def zgp (e:Nat→Nat→Bool) (w k:Nat):Nat:=((List.range' k (w - k)).find? fun v=>e v w).getD w
theorem zr0 (e:Nat→Nat→Bool) (w:Nat):zgp e w (w+1)=w:=by simp [zgp]
theorem zvA (e:Nat→Nat→Bool) (w:Nat):zgp e w w=w:=by simp [zgp]
theorem zp2 (e:Nat→Nat→Bool) (w:Nat):zgp e w 0=zK e w:=by simp [zgp,zK,List.range_eq_range']
theorem zp1 (e:Nat→Nat→Bool) {w k:Nat} (h:k≤w):zgp e w k=if e k w=true then k else zgp e w (k+1):=by
 by_cases hw:k=w
 ·subst hw;rw [zr0];simp [zgp]
 ·unfold zgp
  rw [show w - k=(w - (k+1))+1 by omega,List.range'_succ,List.find?_cons]
  by_cases hk:e k w=true
  ·rw [hk,if_pos rfl];rfl
  ·rw [if_neg hk];simp only [Bool.not_eq_true] at hk;rw [hk]
theorem zn2 {q:Nat→Nat} {k:Nat} : (ptL k q).map (D.int .i64)++[D.int .i64 ((q k:Nat):Int)]=(ptL (k+1) q).map (D.int .i64):=by
 unfold ptL;rw [List.range_succ,List.map_append,List.map_append];rfl
theorem zvm (a b:List Int) (hl:a.length=b.length) (h64:a.length≤64):Fn Tryz.prog T zdh [.d (dI a),.d (dI b)] [] (.d (dI (ptL a.length (zK (zbj a b))))) []:=by
 refine zd zw zhj (by show 2≤47;decide) ?_
 (repeat' ((conv=>whnf);first|refine vA ?_|refine vJ fun hg=>?_|refine vT ?_));all_goals try conv=>whnf
 refine zg (fun ((i,zs):Nat×List D)=>[(0,.d (dI a)),(1,.d (dI b)),(5,.own 0),(10,.d (.int .i64 (((a.map (D.int .i64)).length:Int)))),(11,.d (.int .i64 ((i:Int))))]) (fun ((i,zs):Nat×List D)=>[(0,some (.row 1 zs))]) 1 (fun ((i,zs):Nat×List D)=>i≤a.length∧zs=(ptL i (zK (zbj a b))).map (D.int .i64)) (fun ((i,zs):Nat×List D)=>a.length - i) ((0,[])) []   [0] (⟨by simp,rfl⟩) (by (refine ⟨rfl,rfl,rfl,?_,?_⟩;repeat' first|exact trivial|exact rfl|exact ⟨_,rfl⟩|refine And.intro ?_ ?_|decide)) ?_
 rintro ⟨i,zs⟩ ⟨hi,hz⟩
 have hzl:zs.length=i:=by rw [hz];simp [ptL]
 by_cases hil:i < a.length
 ·have a1:=zoi hil
  have b1:b[i]? = some (at0 b i):=zoi (by omega)
  (repeat' ((conv=>whnf);first|refine vA ?_|(refine vF ?_ ?_<;>intro hc<;>try simp only [vL] at hc)|refine vT ?_));all_goals try conv=>whnf
  ·refine zg (fun ((d,j):Int×Nat)=>[(0,.d (dI a)),(1,.d (dI b)),(5,.own 0),(6,.d (.int .i64 ((i:Int)))),(7,.d (.int .i64 ((j:Int)))),(8,.d (.int .i64 (d))),(10,.d (.int .i64 (((a.map (D.int .i64)).length:Int)))),(11,.d (.int .i64 ((i:Int))))]) (fun ((d,j):Int×Nat)=>[(0,some (.row 1 zs))]) 1 (fun ((d,j):Int×Nat) => -1≤d∧d≤i∧j=zgp (zbj a b) i (d+1).toNat) (fun ((d,j):Int×Nat)=>(d+1).toNat) (((i:Int),i)) [(0,0)] [] (⟨by omega,by omega,by rw [show ((i:Int)+1).toNat=i+1 by omega,zr0]⟩) (by (refine ⟨rfl,rfl,rfl,?_,?_⟩;repeat' first|exact trivial|exact rfl|refine And.intro ?_ ?_|refine ⟨_,rfl,?_⟩|decide)) ?_
   rintro ⟨d,j⟩ ⟨hd1,hd2,hj⟩
   by_cases hd:0≤d
   ·obtain ⟨v,rfl⟩ : ∃ v:Nat,d=(v:Int):=⟨d.toNat,by omega⟩
    have a2:a[v]? = some (at0 a v):=zoi (by omega)
    have b2:b[v]? = some (at0 b v):=zoi (by omega)
    have hs:=zp1 (zbj a b) (w:=i) (k:=v) (by omega)
    rw [show ((v:Int)+1).toNat=v+1 by omega] at hj
    (repeat' ((conv=>whnf);first|refine vA ?_|refine vG ?_|(refine vF ?_ ?_<;>intro hc)|refine vT ?_|refine vN ‹_› ?_|(refine vO ?_ ?_;·omega)|(refine vU ?_ ?_;·kernel_rfl)|fail));all_goals try conv=>whnf
    ·refine ⟨((v:Int) - 1,v),[(0,0)],[],?_,?_,by (refine ⟨rfl,rfl,rfl,?_,?_⟩;repeat' first|exact trivial|exact rfl|refine And.intro ?_ ?_|refine ⟨_,rfl,?_⟩|decide)⟩
     ·refine ⟨by omega,by omega,?_⟩
      rw [show ((v:Int) - 1+1).toNat=v by omega,hs,if_pos (by simp_all [zbj])]
     ·((simp only [vM] at *;omega))
    all_goals try (exact absurd ‹(v:Int) < 0› (by omega))
    all_goals
     refine ⟨((v:Int) - 1,j),[(0,0)],[],?_,?_,by (refine ⟨rfl,rfl,rfl,?_,?_⟩;repeat' first|exact trivial|exact rfl|refine And.intro ?_ ?_|refine ⟨_,rfl,?_⟩|decide)⟩
     ·refine ⟨by omega,by omega,?_⟩
      rw [show ((v:Int) - 1+1).toNat=v by omega,hs,if_neg (by simp_all [zbj]),hj]
     ·((simp only [vM] at *;omega))
   ·(repeat' ((conv=>whnf);first|refine vA ?_|(refine vF ?_ ?_<;>intro hc<;>try simp only [vL] at hc)|refine vT ?_|refine vN ‹_› ?_|((first|refine vO ?_ ?_|refine vS ?_ fun x hx=>?_|refine vP ?_ ?_);·first|omega|(simp only [vM] at *;omega))|(refine vU ?_ ?_;·kernel_rfl)|fail));all_goals try conv=>whnf
    all_goals try omega
    refine ⟨(i+1,_),[(0,2)],[],?_,?_,by (refine ⟨rfl,rfl,rfl,?_,?_⟩;repeat' first|exact trivial|exact rfl|refine And.intro ?_ ?_|refine ⟨_,rfl,?_⟩|decide)⟩
    ·refine ⟨by omega,?_⟩
     rw [← zn2,← hz,hj,show (d+1).toNat=0 by omega,zp2];rfl
    ·((simp only [vM] at *;omega))
  all_goals omega
 ·(repeat' ((conv=>whnf);first|refine vA ?_|(refine vF ?_ ?_<;>intro hc<;>try simp only [vL] at hc)|refine vT ?_));all_goals try conv=>whnf
  ·omega
  ·have e0:i=a.length:=by omega
   subst e0
   rw [hz];rfl
theorem zpR {n:Nat} {q:Nat→Nat} (hq:zbQ n q) (hn:n≤64) (ks:List Int) (hk:ks.length=n):Fn Tryz.prog T zeK [.d (dI (ptL n q)),.d (dI ks)] [] (.d (.tup [dI (ptL n (zK (zbj (ptL n q) ks))),.int .i64 0])) []:=by
 have hl:(ptL n q).length=n:=zaz
 have cc:=zvm (T:=T) (ptL n q) ks (by omega) (by omega)
 rw [hl] at cc
 refine zd zw zj8 (by show 2≤20;decide) ?_
 (repeat' ((conv=>whnf);first|refine vA ?_|refine vH ?_|(refine vD ?_ ?_<;>intro hc<;>try simp only [vL] at hc)|refine vJ fun hg=>?_|refine vT ?_|refine yD (zs1 hq hn) ⟨⟨rfl,rfl⟩,rfl⟩ rfl ?_|refine yN cc ⟨⟨rfl,rfl⟩,⟨rfl,rfl⟩,rfl⟩ ?_));all_goals try conv=>whnf
 ·omega
 ·rfl
theorem zs4 (n:Nat) (hn:n≤64):Fn Tryz.prog T zdQ [.d (.int .i64 (n:Int))] [] (.d (.tup [dI (ptL n fun _=>0),.int .i64 0])) []:=by
 refine zd zw zia (by show 1≤12;decide) ?_
 (repeat' ((conv=>whnf);first|refine vA ?_|refine vH ?_|(refine vF ?_ ?_<;>intro hc<;>try simp only [vL] at hc)|refine vT ?_|(refine vP ?_ ?_;·omega)|fail));all_goals try conv=>whnf
 ·omega
 ·refine congrArg (fun l=>some (D.tup [D.arr 1 l,D.int .i64 0])) ?_
  rw [zY];unfold ptL;rw [List.map_map];rfl
theorem zs2 (p:PM) (hc0:zy p=0) {w:Nat} (hw:w < p.W.toNat):Fn Tryz.prog T zeM [.d (dKM ⟨p.W,p.val,[]⟩),.d (.int .i64 (w:Int))] [] (.d (.int .i64 (zcX p w:Int))) []:=by
 have hg:=zW hc0
 have w1:=hg.w1
 have w2:=hg.w2
 have v8:=hg.v8
 have hk:zdx ⟨p.W,p.val,[]⟩=0:=by
  have h1:p.val.any (bad p.W)=false:=by simp only [List.any_eq_false];intro s hs;simp [hg.val s hs]
  unfold zdx
  simp only [h1,List.length_nil,List.any_nil]
  rw [if_neg (by omega),if_neg (by omega)];rfl
 have hcf:=zvg (T:=T) ⟨p.W,p.val,[]⟩
 rw [hk] at hcf
 refine zd zw zka (by show 2≤39;decide) ?_
 (repeat' ((conv=>whnf);first|refine vA ?_|refine vH ?_|(refine vF ?_ ?_<;>intro hc<;>try simp only [vL] at hc)|refine vT ?_|refine vX ?_|refine yD hcf ⟨⟨rfl,rfl⟩,rfl⟩ rfl ?_));all_goals try conv=>whnf
 ·omega
 ·refine zg (fun ((i,x):Nat×Int)=>[(1,.d (.int .i64 ((w:Int)))),(2,.ptr 0 0),(5,.d (.int .i64 (x))),(6,.d (.int .i64 ((i:Int))))]) (fun ((i,x):Nat×Int)=>[(0,some (zqP ⟨p.W,p.val,[]⟩))]) 1 (fun ((i,x):Nat×Int)=>i≤p.val.length∧x=(zaG p.val w i:Int)) (fun ((i,x):Nat×Int)=>p.val.length - i) ((0,0)) [(0,0)] [] (⟨by simp,rfl⟩) (by (refine ⟨rfl,rfl,rfl,?_,?_⟩;repeat' first|exact trivial|exact rfl|refine And.intro ?_ ?_|refine ⟨_,rfl,?_⟩|decide)) ?_
  rintro ⟨i,x⟩ ⟨hi,hX⟩
  by_cases hil:i < p.val.length
  ·obtain ⟨s,hs⟩ : ∃ s,p.val[i]? = some s:=⟨_,List.getElem?_eq_getElem hil⟩
   obtain ⟨p1,p2⟩:=zvN (i:=(i:Int)) (by omega) (by omega)
   have p2:((2 ^ i:Nat):Int)=(1:Int) * 2 ^ (min (i:Int).toNat IntKind.i64.bits):=p2
   have f1:=zjR p.val w i
   have f2:2 ^ i≤2 ^ 7:=Nat.pow_le_pow_right (by decide) (by omega)
   have f3:zaG p.val w (i+1)=zaG p.val w i+if s.getLsbD w=true then 2 ^ i else 0:=by rw [zaG,show p.val.getD i 0#64=s by rw [List.getD,hs];rfl]
   (repeat' ((conv=>whnf);first|refine vA ?_|refine vE ?_|(refine vF ?_ ?_<;>intro hc<;>try simp only [vL] at hc)|refine vJ fun hg=>?_|refine vT ?_|refine vN ‹_› ?_|((first|refine vO ?_ ?_|refine vP ?_ ?_);·omega)|refine vX ?_|refine yD (zve s w) ⟨⟨rfl,rfl⟩,⟨rfl,rfl⟩,rfl⟩ rfl ?_));all_goals try conv=>whnf
   ·refine ⟨(i+1,x),[(0,0)],[],?_,?_,by (refine ⟨rfl,rfl,rfl,?_,?_⟩;repeat' first|exact trivial|exact rfl|refine And.intro ?_ ?_|refine ⟨_,rfl,?_⟩|decide)⟩
    ·exact ⟨by (omega),by rw [f3,zwK ‹_›,hX];simp⟩
    ·((simp only [vM] at *;omega))
   ·refine ⟨(i+1,_),[(0,0)],[],?_,?_,by (refine ⟨rfl,rfl,rfl,?_,?_⟩;repeat' first|exact trivial|exact rfl|refine And.intro ?_ ?_|refine ⟨_,rfl,?_⟩|decide)⟩
    ·exact ⟨by (omega),by rw [f3,ztZ ‹_›,if_pos rfl,hX,Int.natCast_add,p2]⟩
    ·((simp only [vM] at *;omega))
   all_goals omega
  ·(repeat' ((conv=>whnf);first|refine vA ?_|(refine vF ?_ ?_<;>intro hc<;>try simp only [vL] at hc)|refine vJ fun hg=>?_|refine vT ?_|(refine vQ ?_ fun x hx=>?_;·omega)|refine vX ?_));all_goals try conv=>whnf
   ·omega
   ·rw [hX,show i=p.val.length by omega];rfl
theorem zs3 (p:PM) (hc0:zy p=0):Fn Tryz.prog T zeN [.d (dKM ⟨p.W,p.val,[]⟩)] [] (.d (dI (ptL p.W.toNat (zjS p)))) []:=by
 have hg:=zW hc0
 have w1:=hg.w1
 have w2:=hg.w2
 have cs:=zpR (T:=T) (zqw p.W.toNat) (by omega) (zeU p) zaz
 rw [show ptL p.W.toNat (zK (zbj (ptL p.W.toNat fun _=>0) (zeU p)))=ptL p.W.toNat (zjS p) from zb8 fun w hw=>zoy p hw] at cs
 have ct:=zs4 (T:=T) p.W.toNat (by omega)
 rw [show ((p.W.toNat:Nat):Int)=p.W by omega] at ct
 refine zd zw zkb (by show 1≤34;decide) ?_
 (repeat' ((conv=>whnf);first|refine vA ?_|refine vT ?_));all_goals try conv=>whnf
 refine zg (fun ((k,zs):Nat×List D)=>[(1,.ptr 0 0),(3,.own 1),(4,.d (.int .i64 ((k:Int))))]) (fun ((k,zs):Nat×List D)=>[(0,some (zqP ⟨p.W,p.val,[]⟩)),(1,some (.row 1 zs))]) 2 (fun ((k,zs):Nat×List D)=>k≤p.W.toNat∧zs=(ptL k (zcX p)).map (D.int .i64)) (fun ((k,zs):Nat×List D)=>p.W.toNat - k) ((0,[])) [(0,0)]   [1] (⟨by simp,rfl⟩) (by (refine ⟨rfl,rfl,rfl,?_,?_⟩;repeat' first|exact trivial|exact rfl|exact ⟨_,rfl⟩|refine And.intro ?_ ?_|refine ⟨_,rfl,?_⟩|decide)) ?_
 rintro ⟨k,zs⟩ ⟨hk,hz⟩
 have hzl:zs.length=k:=by rw [hz];simp [ptL]
 by_cases hkl:k < p.W.toNat
 ·(repeat' ((conv=>whnf);first|refine vA ?_|(refine vF ?_ ?_<;>intro hc<;>try simp only [vL] at hc)|refine vT ?_|((first|refine vO ?_ ?_|refine vP ?_ ?_);·first|omega|(simp only [vM] at *;omega))|refine yD (zs2 p hc0 hkl) ⟨⟨rfl,rfl⟩,⟨rfl,rfl⟩,rfl⟩ rfl ?_));all_goals try conv=>whnf
  ·refine ⟨(k+1,_),[(0,0),(1,3)],[],?_,?_,by (refine ⟨rfl,rfl,rfl,?_,?_⟩;repeat' first|exact trivial|exact rfl|refine And.intro ?_ ?_|refine ⟨_,rfl,?_⟩|decide)⟩
   ·exact ⟨by (omega),by rw [← zn2,hz];rfl⟩
   ·((simp only [vM] at *;omega))
  all_goals omega
 ·have e0:k=p.W.toNat:=by omega
  subst e0
  have hz:zs=(zeU p).map (D.int .i64):=hz
  subst hz
  (repeat' ((conv=>whnf);first|refine vA ?_|(refine vF ?_ ?_<;>intro hc<;>try simp only [vL] at hc)|refine vT ?_|refine yN ct ⟨⟨rfl,rfl⟩,rfl⟩ ?_|refine yN cs ⟨⟨rfl,rfl⟩,⟨rfl,rfl⟩,rfl⟩ ?_));all_goals try conv=>whnf
  ·omega
  ·rfl
theorem ztj {x:BitVec 64} {m:Nat} (h:x.getLsbD m=false):x+1#64 <<< m=x|||1#64 <<< m:=by
 refine BitVec.add_eq_or_of_and_eq_zero _ _ (BitVec.eq_of_getLsbD_eq fun i hi=>?_)
 rw [BitVec.getLsbD_and,BitVec.getLsbD_shiftLeft,BitVec.getLsbD_zero]
 by_cases e:i=m
 ·subst e;rw [h];rfl
 ·by_cases e2:i < m
  ·simp [e2]
  ·rw [BitVec.getLsbD_one];simp;omega
theorem zyF {x:BitVec 64} {m:Nat} (h:x.getLsbD m=true):x|||1#64 <<< m=x:=by
 refine BitVec.eq_of_getLsbD_eq fun i hi=>?_
 rw [BitVec.getLsbD_or,BitVec.getLsbD_shiftLeft]
 by_cases e:i=m
 ·subst e;rw [h];rfl
 ·by_cases e2:i < m
  ·simp [e2]
  ·rw [BitVec.getLsbD_one];simp;omega
theorem zum {n:Nat} {q:Nat→Nat} (hq:zbQ n q) (hn:n≤64) (s:BitVec 64):Fn Tryz.prog T zdR [.d (dI (ptL n q)),.d (.u64 s)] [] (.d (.u64 (zL q s n))) []:=by
 have hpl:=zaz (n:=n) (q:=q)
 refine zd zw zib (by show 2≤30;decide) ?_
 (repeat' ((conv=>whnf);first|refine vA ?_|refine vJ fun hg=>?_|refine vT ?_));all_goals try conv=>whnf
 refine zS (fun ((k,o):Nat×BitVec 64)=>[(1,.d (.u64 (s))),(5,.d (.u64 (o))),(8,.d (dI (ptL n q))),(9,.d (.int .i64 ((((ptL n q).map (D.int .i64)).length:Int)))),(10,.d (.int .i64 ((k:Int))))]) (fun ((k,o):Nat×BitVec 64)=>k≤n∧o=zL q s k) (fun ((k,o):Nat×BitVec 64)=>n - k) ((0,0#64)) (⟨by simp,rfl⟩) (by (repeat' first|exact trivial|exact rfl|refine And.intro ?_ ?_)) ?_
 rintro ⟨k,o⟩ ⟨hk,hI⟩
 by_cases hkl:k < n
 ·have e1:(ptL n q)[k]? = some ((q k:Nat):Int):=zag hkl
  have b1:=hq.le k hkl
  (repeat' ((conv=>whnf);first|refine vA ?_|refine vE ?_|(refine vF ?_ ?_<;>intro hc<;>try simp only [vL] at hc)|refine vT ?_|refine vN ‹_› ?_|((first|refine vO ?_ ?_|refine vP ?_ ?_);·omega)|refine vY ?_|refine yD (zve _ _) ⟨⟨rfl,rfl⟩,⟨rfl,rfl⟩,rfl⟩ rfl ?_));all_goals try conv=>whnf
  ·refine ⟨(k+1,o),[],[],?_,?_,by (refine ⟨rfl,rfl,rfl,?_,?_⟩;repeat' first|exact trivial|exact rfl|refine And.intro ?_ ?_)⟩
   ·exact ⟨by (omega),by rw [zbY,if_neg (by rw [zwK ‹_›];decide),hI]⟩
   ·((simp only [vM] at *;omega))
  ·refine ⟨(k+1,_),[],[],?_,?_,by (refine ⟨rfl,rfl,rfl,?_,?_⟩;repeat' first|exact trivial|exact rfl|refine And.intro ?_ ?_)⟩
   ·exact ⟨by (omega),by rw [zbY,if_pos (ztZ ‹_›),← hI,← ztj (zwK ‹_›)];rfl⟩
   ·((simp only [vM] at *;omega))
  ·refine ⟨(k+1,o),[],[],?_,?_,by (refine ⟨rfl,rfl,rfl,?_,?_⟩;repeat' first|exact trivial|exact rfl|refine And.intro ?_ ?_)⟩
   ·exact ⟨by (omega),by rw [zbY,if_pos (ztZ ‹1&&&s.toNat >>> k≠0›),← hI,zyF (ztZ ‹_›)]⟩
   ·((simp only [vM] at *;omega))
  ·omega
 ·(repeat' ((conv=>whnf);first|refine vA ?_|(refine vF ?_ ?_<;>intro hc<;>try simp only [vL] at hc)|refine vT ?_|(refine vQ ?_ fun x hx=>?_;·omega)|refine vY ?_));all_goals try conv=>whnf
  ·omega
  ·rw [hI,show k=n by omega]
def zie (R:List (List (BitVec 64))):List (Nat→BitVec 64):=R.map fun r w=>r.getD w 0#64
def zkv (R:List (List (BitVec 64))) (q:Nat→Nat) (n i v a:Nat):Bool:=decide (q i=q v)&&(R.take a).all fun r=>decide (zL q (r.getD i 0#64) n=zL q (r.getD v 0#64) n)
theorem zuH {R:List (List (BitVec 64))} {q:Nat→Nat} {n i v a:Nat} {r:List (BitVec 64)} (h:R[a]? = some r):zkv R q n i v (a+1)=(zkv R q n i v a&&decide (zL q (r.getD i 0#64) n=zL q (r.getD v 0#64) n)):=by
 unfold zkv
 rw [List.take_add_one,h,Option.toList_some,List.all_append];simp [Bool.and_assoc]
theorem zv5 {R:List (List (BitVec 64))} {q:Nat→Nat} {n i v:Nat} : zkv R q n i v R.length=zaq n (zie R) q v i:=by
 unfold zkv zaq zie
 rw [List.take_length,Bool.eq_iff_iff]
 simp only [Bool.and_eq_true,decide_eq_true_eq,List.all_eq_true,List.mem_map,forall_exists_index,and_imp,forall_apply_eq_imp_iff₂]
 exact ⟨fun ⟨a,b⟩=>⟨a.symm,fun r hr=>(b r hr).symm⟩,fun ⟨a,b⟩=>⟨a.symm,fun r hr=>(b r hr).symm⟩⟩
theorem zuM {n:Nat} {rels:List (Nat→BitVec 64)} {q:Nat→Nat} (hq:zbQ n q) {w:Nat} (hw:w < n):zK (zbj (ptL n q) (ptL n (zab n rels q))) w=zab n rels q w:=by
 rw [← zri (zig n rels q n) hw]
 refine zhm fun v hv=>?_
 have h1:at0 (ptL n q) v=((q v:Nat):Int):=zu (zag (by omega))
 have h2:at0 (ptL n q) w=((q w:Nat):Int):=zu (zag hw)
 have h3:at0 (ptL n (zab n rels q)) v=((zab n rels q v:Nat):Int):=zu (zag (by omega))
 have h4:at0 (ptL n (zab n rels q)) w=((zab n rels q w:Nat):Int):=zu (zag hw)
 have h5:=zgW (rels:=rels) hq hw
 have h6:=zgW (rels:=rels) hq (w:=v) (by omega)
 unfold zbj zdJ
 rw [h1,h2,h3,h4,Bool.eq_iff_iff,decide_eq_true_eq,decide_eq_true_eq]
 constructor
 ·intro h;omega
 ·intro h;rw [h] at h6;omega
theorem zul {n:Nat} {q:Nat→Nat} (hq:zbQ n q) (hn:n≤64) (R:List (List (BitVec 64))) (hR : ∀ r∈R,r.length=n):Fn Tryz.prog T zeh [.d (dI (ptL n q)),.d (dUU R)] [] (.d (dI (ptL n (zab n (zie R) q)))) []:=by
 have hpl:=zaz (n:=n) (q:=q)
 refine zd zw ziV (by show 2≤72;decide) ?_
 (repeat' ((conv=>whnf);first|refine vA ?_|refine vJ fun hg=>?_|refine vT ?_));all_goals try conv=>whnf
 refine zg (fun ((i,zs):Nat×List D)=>[(0,.d (dI (ptL n q))),(1,.d (dUU R)),(5,.own 0),(15,.d (.int .i64 ((((ptL n q).map (D.int .i64)).length:Int)))),(16,.d (.int .i64 ((i:Int))))]) (fun ((i,zs):Nat×List D)=>[(0,some (.row 1 zs))]) 1 (fun ((i,zs):Nat×List D)=>i≤n∧zs=(ptL i (zab n (zie R) q)).map (D.int .i64)) (fun ((i,zs):Nat×List D)=>n - i) ((0,[])) []   [0] (⟨by simp,rfl⟩) (by (refine ⟨rfl,rfl,rfl,?_,?_⟩;repeat' first|exact trivial|exact rfl|exact ⟨_,rfl⟩|refine And.intro ?_ ?_|decide)) ?_
 rintro ⟨i,zs⟩ ⟨hi,hz⟩
 have hzl:zs.length=i:=by rw [hz];simp [ptL]
 by_cases hil:i < n
 ·have a1:(ptL n q)[i]? = some ((q i:Nat):Int):=zag hil
  (repeat' ((conv=>whnf);first|refine vA ?_|(refine vF ?_ ?_<;>intro hc<;>try simp only [vL] at hc)|refine vT ?_|(refine vO ?_ ?_;·omega)|fail));all_goals try conv=>whnf
  ·refine zg (fun ((d,j):Int×Nat)=>[(0,.d (dI (ptL n q))),(1,.d (dUU R)),(5,.own 0),(6,.d (.int .i64 ((i:Int)))),(7,.d (.int .i64 ((j:Int)))),(8,.d (.int .i64 (d))),(15,.d (.int .i64 ((((ptL n q).map (D.int .i64)).length:Int)))),(16,.d (.int .i64 ((i:Int))))]) (fun ((d,j):Int×Nat)=>[(0,some (.row 1 zs))]) 1 (fun ((d,j):Int×Nat) => -1≤d∧d < i∧j=zgp (zaq n (zie R) q) i (d+1).toNat) (fun ((d,j):Int×Nat)=>(d+1).toNat) (((i:Int) - 1,i)) [(0,0)] [] (⟨by omega,by omega,by rw [show ((i:Int) - 1+1).toNat=i by omega,zvA]⟩) (by (refine ⟨rfl,rfl,rfl,?_,?_⟩;repeat' first|exact trivial|exact rfl|refine And.intro ?_ ?_|refine ⟨_,rfl,?_⟩|decide)) ?_
   rintro ⟨d,j⟩ ⟨hd1,hd2,hj⟩
   by_cases hd:0≤d
   ·obtain ⟨v,rfl⟩ : ∃ v:Nat,d=(v:Int):=⟨d.toNat,by omega⟩
    have a2:(ptL n q)[v]? = some ((q v:Nat):Int):=zag (by omega)
    have hs:=zp1 (zaq n (zie R) q) (w:=i) (k:=v) (by omega)
    rw [show ((v:Int)+1).toNat=v+1 by omega] at hj
    (repeat' ((conv=>whnf);first|refine vA ?_|refine vG ?_|refine vJ fun hg=>?_|refine vT ?_|refine vN ‹_› ?_|(refine vU ?_ ?_;·kernel_rfl)|fail));all_goals try conv=>whnf
    ·refine zg (fun ((a,b):Nat×Bool)=>[(0,.d (dI (ptL n q))),(1,.d (dUU R)),(5,.own 0),(6,.d (.int .i64 ((i:Int)))),(7,.d (.int .i64 ((j:Int)))),(8,.d (.int .i64 ((v:Int)))),(9,.d (.bool (b))),(15,.d (.int .i64 ((((ptL n q).map (D.int .i64)).length:Int)))),(16,.d (.int .i64 ((i:Int)))),(35,.d (dUU R)),(36,.d (.int .i64 (((R.map dU).length:Int)))),(37,.d (.int .i64 ((a:Int))))]) (fun ((a,b):Nat×Bool)=>[(0,some (.row 1 zs))]) 1 (fun ((a,b):Nat×Bool)=>a≤R.length∧b=zkv R q n i v a) (fun ((a,b):Nat×Bool)=>R.length - a) ((0,decide (((q i:Nat):Int)=((q v:Nat):Int)))) [(0,0)] [] (⟨by simp,by simp only [zkv,List.take_zero,List.all_nil,Bool.and_true];rw [Bool.eq_iff_iff,decide_eq_true_eq,decide_eq_true_eq];omega⟩) (by (refine ⟨rfl,rfl,rfl,?_,?_⟩;repeat' first|exact trivial|exact rfl|exact .inl rfl|refine And.intro ?_ ?_|refine ⟨_,rfl,?_⟩|decide)) ?_
     rintro ⟨a,b⟩ ⟨ha,hb⟩
     by_cases hal:a < R.length
     ·obtain ⟨r,hr⟩ : ∃ r,R[a]? = some r:=⟨_,List.getElem?_eq_getElem hal⟩
      have hrl:=hR r (List.mem_of_getElem? hr)
      obtain ⟨x,hx0⟩ : ∃ x,r[i]? = some x:=⟨_,List.getElem?_eq_getElem (by omega)⟩
      obtain ⟨y,hy0⟩ : ∃ y,r[v]? = some y:=⟨_,List.getElem?_eq_getElem (by omega)⟩
      have hsu:=zuH (q:=q) (n:=n) (i:=i) (v:=v) hr
      rw [zmG hx0,zmG hy0] at hsu
      (repeat' ((conv=>whnf);first|refine vA ?_|((first|refine vF ?_ ?_|refine vI ?_ ?_)<;>intro hc<;>try simp only [vL] at hc)|refine vT ?_|refine vN ‹_› ?_|(refine vO ?_ ?_;·omega)|(refine vU ?_ ?_;·kernel_rfl)|refine yD (zum hq hn _) ⟨⟨rfl,rfl⟩,⟨rfl,rfl⟩,rfl⟩ rfl ?_));all_goals try conv=>whnf
      ·refine ⟨(a+1,_),[(0,0)],[],?_,?_,by (refine ⟨rfl,rfl,rfl,?_,?_⟩;repeat' first|exact trivial|exact rfl|exact .inl rfl|refine And.intro ?_ ?_|refine ⟨_,rfl,?_⟩|decide)⟩
       ·exact ⟨by (omega),by rw [hsu,← hb,‹b=true›];simp⟩
       ·((simp only [vM] at *;omega))
      ·refine ⟨(a+1,_),[(0,0)],[],?_,?_,by (refine ⟨rfl,rfl,rfl,?_,?_⟩;repeat' first|exact trivial|exact rfl|exact .inr (.inr ⟨rfl,rfl⟩)|refine And.intro ?_ ?_|refine ⟨_,rfl,?_⟩|decide)⟩
       ·exact ⟨by (omega),by rw [hsu,← hb,‹b=false›];simp⟩
       ·((simp only [vM] at *;omega))
      all_goals omega
     ·have ea:a=R.length:=by omega
      subst ea
      rw [zv5] at hb
      rw [← hb] at hs
      (repeat' ((conv=>whnf);first|refine vA ?_|((first|refine vF ?_ ?_|refine vI ?_ ?_)<;>intro hc<;>try simp only [vL] at hc)|refine vT ?_|(refine vQ ?_ fun x hx=>?_;·omega)|(refine vO ?_ ?_;·omega)|(refine vU ?_ ?_;·kernel_rfl)|fail));all_goals try conv=>whnf
      ·omega
      ·omega
      ·refine ⟨((v:Int) - 1,v),[(0,0)],[],?_,?_,by (refine ⟨rfl,rfl,rfl,?_,?_⟩;repeat' first|exact trivial|exact rfl|refine And.intro ?_ ?_|refine ⟨_,rfl,?_⟩|decide)⟩
       ·refine ⟨by omega,by omega,?_⟩
        rw [show ((v:Int) - 1+1).toNat=v by omega,hs,if_pos ‹_›]
       ·((simp only [vM] at *;omega))
      ·refine ⟨((v:Int) - 1,j),[(0,0)],[],?_,?_,by (refine ⟨rfl,rfl,rfl,?_,?_⟩;repeat' first|exact trivial|exact rfl|refine And.intro ?_ ?_|refine ⟨_,rfl,?_⟩|decide)⟩
       ·refine ⟨by omega,by omega,?_⟩
        rw [show ((v:Int) - 1+1).toNat=v by omega,hs,if_neg (by rw [‹b=false›];decide),hj]
       ·((simp only [vM] at *;omega))
    all_goals omega
   ·(repeat' ((conv=>whnf);first|refine vA ?_|(refine vF ?_ ?_<;>intro hc<;>try simp only [vL] at hc)|refine vJ fun hg=>?_|refine vT ?_|refine vN ‹_› ?_|((first|refine vO ?_ ?_|refine vS ?_ fun x hx=>?_|refine vP ?_ ?_);·first|omega|(simp only [vM] at *;omega))|(refine vU ?_ ?_;·kernel_rfl)|fail));all_goals try conv=>whnf
    all_goals try omega
    refine ⟨(i+1,_),[(0,2)],[],?_,?_,by (refine ⟨rfl,rfl,rfl,?_,?_⟩;repeat' first|exact trivial|exact rfl|refine And.intro ?_ ?_|refine ⟨_,rfl,?_⟩|decide)⟩
    ·refine ⟨by omega,?_⟩
     rw [← zn2,← hz,hj,show (d+1).toNat=0 by omega,zp2];rfl
    ·((simp only [vM] at *;omega))
  all_goals omega
 ·have e0:i=n:=by omega
  subst e0
  subst hz
  (repeat' ((conv=>whnf);first|refine vA ?_|(refine vF ?_ ?_<;>intro hc<;>try simp only [vL] at hc)|refine vT ?_|(refine vO ?_ ?_;·omega)|refine yN (zpR hq hn _ zaz) ⟨⟨rfl,rfl⟩,⟨rfl,rfl⟩,rfl⟩ ?_));all_goals try conv=>whnf
  ·omega
  ·rw [zb8 fun w hw=>zuM hq hw];rfl
theorem zvn (p:PM) (hc0:zy p=0):Fn Tryz.prog T zeT [.d (dPM p)] [] (.d (dI (ptL p.W.toNat (zjS p)))) []:=by
 refine zd zw zkh (by show 1≤9;decide) ?_
 (repeat' ((conv=>whnf);first|refine vT ?_|refine yN (zs3 p hc0) ⟨⟨rfl,rfl⟩,rfl⟩ ?_));all_goals try conv=>whnf
 ·rfl
def ze6 (p:PM) (a:Nat):List (List (BitVec 64)):=(List.range a).flatMap fun a=>[zbv p a,zak p a]
theorem zqe (p:PM) (a:Nat):ze6 p (a+1)=ze6 p a++[zbv p a,zak p a]:=by
 unfold ze6;rw [List.range_succ,List.flatMap_append];simp
theorem zxz (p:PM) (a:Nat):(ze6 p a).length=2 * a:=by
 induction a with
 | zero=>rfl
 | succ a ih=>rw [zqe,List.length_append,ih];simp;omega
theorem zqA (p:PM) (hp:zav p.rank) (hc0:zy p=0):Fn Tryz.prog T zdj [.d (dPM p)] [] (.d (dUU (ze6 p p.cell.length))) []:=by
 have hg:=zW hc0
 have w1:=hg.w1
 have w2:=hg.w2
 have n4:=hg.n4
 refine zd zw zhl (by show 1≤41;decide) ?_
 (repeat' ((conv=>whnf);first|refine vA ?_|refine vJ fun hg=>?_|refine vT ?_));all_goals try conv=>whnf
 refine zg (fun ((a,zs):Nat×List D)=>[(1,.ptr 0 0),(3,.own 1),(11,.d (.int .i64 (((p.cell.map dI).length:Int)))),(12,.d (.int .i64 ((a:Int))))]) (fun ((a,zs):Nat×List D)=>[(0,some (zaj p)),(1,some (.row 1 zs))]) 2 (fun ((a,zs):Nat×List D)=>a≤p.cell.length∧zs=(ze6 p a).map dU) (fun ((a,zs):Nat×List D)=>p.cell.length - a) ((0,[])) [(0,0)]   [1] (⟨by simp,rfl⟩) (by (refine ⟨rfl,rfl,rfl,?_,?_⟩;repeat' first|exact trivial|exact rfl|exact ⟨_,rfl⟩|refine And.intro ?_ ?_|refine ⟨_,rfl,?_⟩|decide)) ?_
 rintro ⟨a,zs⟩ ⟨ha,hz⟩
 have hzl:zs.length=2 * a:=by rw [hz,List.length_map,zxz]
 by_cases hal:a < p.cell.length
 ·have cw:=zhR (T:=T) p hp (a:Int)
  rw [show za8 p (a:Int)=(zak p a,0) by rw [za8,if_neg (by omega),if_neg (by omega)];rfl] at cw
  (repeat' ((conv=>whnf);first|refine vA ?_|(refine vF ?_ ?_<;>intro hc<;>try simp only [vL] at hc)|refine vT ?_));all_goals try conv=>whnf
  ·refine zg (fun ((w,ys):Nat×List D)=>[(1,.ptr 0 0),(3,.own 1),(4,.d (.int .i64 ((a:Int)))),(5,.own 2),(6,.d (.int .i64 ((w:Int)))),(11,.d (.int .i64 (((p.cell.map dI).length:Int)))),(12,.d (.int .i64 ((a:Int))))]) (fun ((w,ys):Nat×List D)=>[(0,some (zaj p)),(1,some (.row 1 zs)),(2,some (.row 1 ys))]) 3 (fun ((w,ys):Nat×List D)=>w≤p.W.toNat∧ys=(List.range w).map fun (w:Nat)=>D.u64 (zbw p (a:Int) (w:Int))) (fun ((w,ys):Nat×List D)=>p.W.toNat - w) ((0,[])) [(0,0),(1,1)]   [2] (⟨by simp,rfl⟩) (by (refine ⟨rfl,rfl,rfl,?_,?_⟩;repeat' first|exact trivial|exact rfl|exact ⟨_,rfl⟩|refine And.intro ?_ ?_|refine ⟨_,rfl,?_⟩|decide)) ?_
   rintro ⟨w,ys⟩ ⟨hw,hy⟩
   have hyl:ys.length=w:=by rw [hy];simp
   by_cases hwl:w < p.W.toNat
   ·(repeat' ((conv=>whnf);first|refine vA ?_|(refine vF ?_ ?_<;>intro hc<;>try simp only [vL] at hc)|refine vT ?_|((first|refine vO ?_ ?_|refine vP ?_ ?_);·first|omega|(simp only [vM] at *;omega))|refine yD (zqB p hp _ _) ⟨⟨rfl,rfl⟩,⟨rfl,rfl⟩,⟨rfl,rfl⟩,rfl⟩ rfl ?_));all_goals try conv=>whnf
    ·refine ⟨(w+1,_),[(0,0),(1,1),(2,4)],[],?_,?_,by (refine ⟨rfl,rfl,rfl,?_,?_⟩;repeat' first|exact trivial|exact rfl|refine And.intro ?_ ?_|refine ⟨_,rfl,?_⟩|decide)⟩
     ·exact ⟨by (omega),by rw [List.range_succ,List.map_append,← hy];rfl⟩
     ·((simp only [vM] at *;omega))
    ·omega
   ·have e1:w=p.W.toNat:=by omega
    subst e1
    have hy:ys=(zbv p a).map D.u64:=by rw [hy,zbv,List.map_map];rfl
    subst hy
    (repeat' ((conv=>whnf);first|refine vA ?_|(refine vF ?_ ?_<;>intro hc<;>try simp only [vL] at hc)|refine vT ?_|((first|refine vO ?_ ?_|refine vP ?_ ?_);·first|omega|(simp only [vM] at *;omega))|refine yN cw ⟨⟨rfl,rfl⟩,⟨rfl,rfl⟩,rfl⟩ ?_));all_goals try conv=>whnf
    ·omega
    ·refine ⟨(a+1,_),[(0,0),(1,4)],[],?_,?_,by (refine ⟨rfl,rfl,rfl,?_,?_⟩;repeat' first|exact trivial|exact rfl|refine And.intro ?_ ?_|refine ⟨_,rfl,?_⟩|decide)⟩
     ·refine ⟨by (omega),?_⟩
      rw [zqe,List.map_append,← hz];rfl
     ·((simp only [vM] at *;omega))
  all_goals omega
 ·(repeat' ((conv=>whnf);first|refine vA ?_|(refine vF ?_ ?_<;>intro hc<;>try simp only [vL] at hc)|refine vT ?_));all_goals try conv=>whnf
  ·omega
  ·rw [hz,show a=p.cell.length by omega];rfl
theorem zzl {p:PM} : ∀ a,a≤p.cell.length → ∀ r∈ze6 p a,r.length=p.W.toNat:=by
 intro a ha r hr
 unfold ze6 at hr
 obtain ⟨i,hi,h⟩:=List.mem_flatMap.1 hr
 simp only [List.mem_cons,List.not_mem_nil,or_false] at h
 rcases h with rfl|rfl
 ·simp [zbv]
 ·simp [zak]
theorem zuO {n:Nat} {q:Nat→Nat} {rels rels':List (Nat→BitVec 64)} (hl:rels.length=rels'.length) (h : ∀ (i:Nat) (r r':Nat→BitVec 64),rels[i]? = some r→rels'[i]? = some r' → ∀ w,w < n→r w=r' w) {w:Nat} (hw:w < n):zab n rels q w=zab n rels' q w:=by
 refine zhm fun v hv=>?_
 unfold zaq
 congr 1
 rw [Bool.eq_iff_iff,List.all_eq_true,List.all_eq_true]
 constructor
 ·intro H r' hr'
  obtain ⟨i,hi,rfl⟩:=List.mem_iff_getElem.1 hr'
  have e2:=List.getElem?_eq_getElem hi
  have e1:=List.getElem?_eq_getElem (l:=rels) (i:=i) (by omega)
  rw [← h i _ _ e1 e2 v (by omega),← h i _ _ e1 e2 w hw]
  exact H _ (List.getElem_mem _)
 ·intro H r hr
  obtain ⟨i,hi,rfl⟩:=List.mem_iff_getElem.1 hr
  have e1:=List.getElem?_eq_getElem hi
  have e2:=List.getElem?_eq_getElem (l:=rels') (i:=i) (by omega)
  rw [h i _ _ e1 e2 v (by omega),h i _ _ e1 e2 w hw]
  exact H _ (List.getElem_mem _)
theorem zuN (p:PM) (q:Nat→Nat) {w:Nat} (hw:w < p.W.toNat):zab p.W.toNat (zie (ze6 p p.cell.length)) q w=zab p.W.toNat (zbb p) q w:=by
 have e:zie (ze6 p p.cell.length)=(List.range p.cell.length).flatMap fun (a:Nat)=>[fun w=>(zbv p a).getD w 0#64,fun w=>(zak p a).getD w 0#64]:=by
  unfold zie ze6;rw [List.map_flatMap];rfl
 have hall : ∀ (l:List Nat) (i:Nat) (r r':Nat→BitVec 64),(l.flatMap fun (a:Nat)=>[fun w=>(zbv p a).getD w 0#64,fun w=>(zak p a).getD w 0#64])[i]? = some r→(l.flatMap fun (a:Nat)=>[fun (w:Nat)=>zbw p (a:Int) (w:Int),fun w=>wkB p a w])[i]? = some r' → ∀ w,w < p.W.toNat→r w=r' w:=by
  intro l
  induction l with
  | nil=>intro i r r' h;simp at h
  | cons a l ih =>
   intro i r r' h h' w hw
   rw [List.flatMap_cons] at h h'
   match i with
   | 0 =>
    have h:=Option.some.inj h
    have h':=Option.some.inj h'
    subst h;subst h'
    show (zbv p a).getD w 0#64=_
    rw [zmG (show (zbv p a)[w]? = some (zbw p (a:Int) (w:Int)) by simp [zbv,hw])]
   | 1 =>
    have h:=Option.some.inj h
    have h':=Option.some.inj h'
    subst h;subst h'
    rfl
   | i+2=>exact ih i r r' h h' w hw
 rw [e]
 exact zuO (by simp [zbb]) (hall _) hw
theorem zrQ (p:PM) (hp:zav p.rank) (n:Int):Fn Tryz.prog T zel [.d (dPM p),.d (.int .i64 n)] [] (.d (dLI (zaw p n))) []:=by
 refine zd zw ziZ (by show 2≤36;decide) ?_
 by_cases hc0:zy p=0
 ·have hg:=zW hc0
  have w1:=hg.w1
  have w2:=hg.w2
  (repeat' ((conv=>whnf);first|refine vA ?_|((first|refine vD ?_ ?_|refine vF ?_ ?_)<;>intro hc<;>try simp only [vL] at hc)|refine vT ?_|refine yD (zds p hp) ⟨⟨rfl,rfl⟩,rfl⟩ rfl ?_|refine yN (zvn p hc0) ⟨⟨rfl,rfl⟩,rfl⟩ ?_|refine yN (zqA p hp hc0) ⟨⟨rfl,rfl⟩,rfl⟩ ?_));all_goals try conv=>whnf
  ·exact absurd hc0 hc
  ·rw [zaw,if_neg (by omega),if_pos hc];rfl
  ·refine zg (fun (k:Nat)=>[(1,.d (.int .i64 (n))),(2,.ptr 0 0),(7,.d (dI (ptL p.W.toNat (zaO p k)))),(8,.d (dUU (ze6 p p.cell.length))),(9,.d (.int .i64 ((k:Int))))]) (fun (k:Nat)=>[(0,some (zaj p))]) 1 (fun (k:Nat)=>k≤n.toNat∧k≤p.W.toNat) (fun (k:Nat)=>n.toNat - k) (0) [(0,0)] [] (by simp) (by (refine ⟨rfl,rfl,rfl,?_,?_⟩;repeat' first|exact trivial|exact rfl|refine And.intro ?_ ?_|refine ⟨_,rfl,?_⟩|decide)) ?_
   rintro k ⟨hk1,hk2⟩
   have cr:=zul (T:=T) (zku p k) (by omega) (ze6 p p.cell.length) (zzl _ (Nat.le_refl _))
   rw [show ptL p.W.toNat (zab p.W.toNat (zie (ze6 p p.cell.length)) (zaO p k))=ptL p.W.toNat (zaO p (k+1)) from zb8 fun w hw=>zuN p _ hw] at cr
   (repeat' ((conv=>whnf);first|refine vA ?_|(refine vF ?_ ?_<;>intro hc<;>try simp only [vL] at hc)|refine vT ?_|(refine vO ?_ ?_;·omega)|refine yN cr ⟨⟨rfl,rfl⟩,⟨rfl,rfl⟩,rfl⟩ ?_));all_goals try conv=>whnf
   ·exact ⟨k+1,[(0,0)],[],by (omega),by (omega),by (refine ⟨rfl,rfl,rfl,?_,?_⟩;repeat' first|exact trivial|exact rfl|refine And.intro ?_ ?_|refine ⟨_,rfl,?_⟩|decide)⟩
   ·rw [zaw,if_neg (by omega),if_neg (by omega)]
    have e:ptL p.W.toNat (zaO p n.toNat)=ptL p.W.toNat (zaO p k):=zb8 fun w hw=>by
     rw [show k=p.W.toNat by omega];exact zpY (zcg p _) (by omega) (by omega) hw
    rw [e];rfl
   ·rw [zaw,if_neg (by omega),if_neg (by omega),show n.toNat=k by omega];rfl
 ·(repeat' ((conv=>whnf);first|refine vA ?_|((first|refine vD ?_ ?_|refine vF ?_ ?_)<;>intro hc<;>try simp only [vL] at hc)|refine vT ?_|refine yD (zds p hp) ⟨⟨rfl,rfl⟩,rfl⟩ rfl ?_));all_goals try conv=>whnf
  ·rw [zaw,if_pos hc];rfl
  ·exact absurd ‹zy p=0› hc0
  ·exact absurd ‹zy p=0› hc0
theorem zpj (p:PM) (hp:zav p.rank):Fn Tryz.prog T zdF [.d (dPM p)] [] (.d (dLI (zaw p 64))) []:=by
 refine zd zw zhH (by show 1≤8;decide) ?_
 (repeat' ((conv=>whnf);first|refine vT ?_|refine yN (zrQ p hp 64) ⟨⟨rfl,rfl⟩,⟨rfl,rfl⟩,rfl⟩ ?_));all_goals try conv=>whnf
 ·rfl
end Go.Ab
namespace Go.Ab
open Go Go.Proofs
set_option maxRecDepth 10000
set_option maxHeartbeats 4000000
variable {T:Nat→Obj→Prop}
theorem ziL (n:Int) (r:List (BitVec 64)):Fn Tryz.prog T zcH [.d (.int .i64 n),.d (dU r)] [] (.d (.int .i64 (zdL n r))) []:=by
 refine zd zw zj4 (by show 2≤29;decide) ?_
 unfold zdL
 (repeat' ((conv=>whnf);first|refine vA ?_|((first|refine vD ?_ ?_|refine vF ?_ ?_)<;>intro hc<;>try simp only [vL] at hc)|refine vJ fun hg=>?_|refine vT ?_|refine vX ?_));all_goals try conv=>whnf
 ·rw [if_pos (.inl hc)]
 ·rw [if_pos (.inr hc)]
 ·rw [if_neg (by omega),if_pos hc]
 refine zS (fun (k:Nat)=>[(0,.d (.int .i64 (n))),(1,.d (dU r)),(5,.d (.int .i64 ((k:Int))))]) (fun (k:Nat)=>k≤r.length∧r.any (bad n)=(r.drop k).any (bad n)) (fun (k:Nat)=>r.length - k) (0) (⟨by simp,by simp⟩) (by (repeat' first|exact trivial|exact rfl|refine And.intro ?_ ?_)) ?_
 rintro k ⟨hk,hI⟩
 (repeat' ((conv=>whnf);first|refine vA ?_|((first|refine vD ?_ ?_|refine vF ?_ ?_)<;>intro hc<;>try simp only [vL] at hc)|refine vT ?_|(refine vQ ?_ fun x hx=>?_;·omega)|(refine vO ?_ ?_;·omega)|(refine vU ?_ ?_;·kernel_rfl)|refine vX ?_|(refine yD (zlK _ ?_) ⟨⟨rfl,rfl⟩,rfl⟩ rfl ?_;(·omega))|fail));all_goals try conv=>whnf
 ·have hb:bad n x=true:=by simpa [bad] using hc
  rw [if_neg (by omega),if_neg (by omega),hI,zz hx];simp [hb]
 ·have hb:bad n x=false:=by simpa [bad] using hc
  exact ⟨k+1,[],[],⟨by (omega),by rw [hI,zz hx];simp [hb]⟩,by (omega),by (refine ⟨rfl,rfl,rfl,?_,?_⟩;repeat' first|exact trivial|exact rfl|refine And.intro ?_ ?_)⟩
 ·rw [if_neg (by omega),if_neg (by omega),hI,List.drop_eq_nil_of_le (by omega)];simp
theorem zvU {r:List (BitVec 64)} : zdL r.length r=zq r:=by
 unfold zq zdL
 by_cases h1:64 < r.length
 ·rw [if_pos h1,if_pos (.inr (Int.ofNat_lt.2 h1))]
 ·rw [if_neg h1,if_neg (show ¬((r.length:Int) < 0∨(64:Int) < (r.length:Int)) by omega),if_neg (show ¬((r.length:Int)≠(r.length:Int)) by simp)]
theorem zdS (r:List (BitVec 64)):Fn Tryz.prog T zcH [.d (.int .i64 ((r.map D.u64).length:Int)),.d (dU r)] [] (.d (.int .i64 (zq r))) []:=by
 have h:=ziL (T:=T) (r.length:Int) r
 rw [zvU] at h
 rw [List.length_map];exact h
theorem zrL (r:List (BitVec 64)):Fn Tryz.prog T zeI [.d (dU r)] [] (.d (.bool (decide (zq r=0)))) []:=by
 refine zd zw zj6 (by show 1≤8;decide) ?_
 (repeat' ((conv=>whnf);first|refine vJ fun hg=>?_|refine vT ?_|refine vZ ?_|refine yD (zdS _) ⟨⟨rfl,rfl⟩,⟨rfl,rfl⟩,rfl⟩ rfl ?_));all_goals try conv=>whnf
 all_goals rfl
theorem zv2 (r:List (BitVec 64)):(List.range r.length).map (uAt r)=r:=zuB (z:=0) fun a ha=>rfl
theorem zzq (r:List (BitVec 64)):r.map D.u64=(List.range r.length).map fun u=>D.u64 (uAt r u):=by
 conv=>lhs;rw [← zv2 r]
 rw [List.map_map];rfl
theorem zmW (r:List (BitVec 64)):Fn Tryz.prog T zdC [.d (dU r)] [] (.d (dUI (if zq r≠0 then ([],zq r) else (zR r,0)))) []:=by
 refine zd zw zhE (by show 1≤46;decide) ?_
 (repeat' ((conv=>whnf);first|refine vA ?_|(refine vD ?_ ?_<;>intro hc)|refine vJ fun hg=>?_|refine vT ?_|(refine vP ?_ ?_;·omega)|refine yD (zdS _) ⟨⟨rfl,rfl⟩,⟨rfl,rfl⟩,rfl⟩ rfl ?_));all_goals try conv=>whnf
 ·rw [if_pos hc];rfl
 have h0:=‹zq r=0›
 obtain ⟨h64,hin⟩:=zF.1 h0
 rw [if_neg (not_not_intro h0)]
 (repeat' ((conv=>whnf);first|refine vA ?_|refine vT ?_|(refine vP ?_ ?_;·(simp only [vM] at *;omega))|fail));all_goals try conv=>whnf
 refine zg (fun ((w,xs):Nat×List D)=>[(0,.d (dU r)),(5,.own 0),(6,.d (.int .i64 ((w:Int))))]) (fun ((w,xs):Nat×List D)=>[(0,some (.row 1 xs))]) 1 (fun ((w,xs):Nat×List D)=>w≤r.length∧xs=(List.range r.length).map fun v=>D.u64 (zZ (fun w=>rb r w v) w)) (fun ((w,xs):Nat×List D)=>r.length - w) ((0,List.replicate ((r.map D.u64).length:Int).toNat (D.u64 0#64))) [(0,0)] [] (⟨by simp,by simp only [List.length_map,Int.toNat_natCast];exact zY _ _⟩) (by (refine ⟨rfl,rfl,rfl,?_,?_⟩;repeat' first|exact trivial|exact rfl|refine And.intro ?_ ?_|refine ⟨_,rfl,?_⟩|decide)) ?_
 rintro ⟨w,_⟩ ⟨hw,rfl⟩
 (repeat' ((conv=>whnf);first|refine vA ?_|(refine vF ?_ ?_<;>intro hc<;>try simp only [vL] at hc)|refine vJ fun hg=>?_|refine vT ?_));all_goals try conv=>whnf
 ·refine zg (fun ((v,xs):Nat×List D)=>[(0,.d (dU r)),(5,.own 0),(6,.d (.int .i64 ((w:Int)))),(7,.d (.int .i64 ((v:Int))))]) (fun ((v,xs):Nat×List D)=>[(0,some (.row 1 xs))]) 1 (fun ((v,xs):Nat×List D)=>v≤r.length∧xs=(List.range r.length).map fun u=>D.u64 (zZ (fun w=>rb r w u) w|||if u < v∧rb r w u=true then 1#64 <<< w else 0#64)) (fun ((v,xs):Nat×List D)=>r.length - v) ((0,(List.range r.length).map fun v=>D.u64 (zZ (fun w=>rb r w v) w))) [(0,0)] [] (⟨by simp,zj fun u hu=>by simp⟩) (by (refine ⟨rfl,rfl,rfl,?_,?_⟩;repeat' first|exact trivial|exact rfl|refine And.intro ?_ ?_|refine ⟨_,rfl,?_⟩|decide)) ?_
  rintro ⟨v,_⟩ ⟨hv,rfl⟩
  (repeat' ((conv=>whnf);first|refine vA ?_|((first|refine vF ?_ ?_|refine vI ?_ ?_)<;>intro hc<;>try simp only [vL] at hc)|refine vJ fun hg=>?_|refine vT ?_|(refine vQ ?_ fun x hx=>?_;·first|omega|(simp only [vM] at *;omega))|((first|refine vO ?_ ?_|refine vP ?_ ?_);·first|omega|(simp only [vM] at *;omega))|(refine yD (zoB _ _ ?_ ?_) ⟨⟨rfl,rfl⟩,⟨rfl,rfl⟩,rfl⟩ rfl ?_;(·omega);(·omega))|fail));all_goals try conv=>whnf
  ·have hb:rb r w v=true:=by rw [zO ‹r[w]? = some _›,← zbX];exact hc
   have hxe:=zhS hx
   subst hxe
   refine ⟨(x+1,_),[(0,0)],[],?_,?_,by (refine ⟨rfl,rfl,rfl,?_,?_⟩;repeat' first|exact trivial|exact rfl|refine And.intro ?_ ?_|refine ⟨_,rfl,?_⟩|decide)⟩
   ·refine ⟨by (omega),(zal _).trans (zj fun u hu=>?_)⟩
    show (if u=x then D.u64 _ else D.u64 _)=_
    by_cases e:u=x
    ·subst e
     rw [if_pos rfl,zgd (by omega)]
     simp [hb]
    ·by_cases e1:u < x
     ·simp [e,e1,show u < x+1 by omega]
     ·simp [e,e1,show ¬u < x+1 by omega]
   ·((simp only [vM] at *;omega))
  ·have hb:rb r w v=false:=by rw [zO ‹r[w]? = some _›,← zbX];exact hc
   refine ⟨(v+1,_),[(0,0)],[],?_,?_,by (refine ⟨rfl,rfl,rfl,?_,?_⟩;repeat' first|exact trivial|exact rfl|refine And.intro ?_ ?_|refine ⟨_,rfl,?_⟩|decide)⟩
   ·refine ⟨by (omega),zj fun u hu=>?_⟩
    by_cases e:u=v
    ·subst e;simp [hb]
    ·by_cases e1:u < v
     ·simp [e1,show u < v+1 by omega]
     ·simp [e1,show ¬u < v+1 by omega]
   ·((simp only [vM] at *;omega))
  ·refine ⟨(w+1,_),[(0,0)],[],?_,?_,by (refine ⟨rfl,rfl,rfl,?_,?_⟩;repeat' first|exact trivial|exact rfl|refine And.intro ?_ ?_|refine ⟨_,rfl,?_⟩|decide)⟩
   ·refine ⟨by (omega),zj fun u hu=>?_⟩
    rw [zZ]
    by_cases e:rb r w u=true
    ·simp [e,show u < v by omega]
    ·simp [e]
   ·((simp only [vM] at *;omega))
 ·obtain rfl:w=r.length:=by omega
  refine congrArg some (congrArg (fun l=>D.tup [.arr 1 l,.int .i64 0]) ?_)
  rw [zR,List.map_map];rfl
def orR (r s:List (BitVec 64)):List (BitVec 64):=(List.range r.length).map fun u=>uAt r u|||uAt s u
theorem zzc (r s:List (BitVec 64)):Fn Tryz.prog T zf3 [.d (dU r),.d (dU s)] [] (.d (.int .i64 (if zq r≠0 then zq r else if zq s≠0 then zq s else if r.length≠s.length then 1 else 0))) []:=by
 refine zd zw zl0 (by show 2≤26;decide) ?_
 (repeat' ((conv=>whnf);first|refine vA ?_|(refine vD ?_ ?_<;>intro hc<;>try simp only [vL] at hc)|refine vJ fun hg=>?_|refine vT ?_|refine vX ?_|refine yD (zdS _) ⟨⟨rfl,rfl⟩,⟨rfl,rfl⟩,rfl⟩ rfl ?_));all_goals try conv=>whnf
 ·rw [if_pos hc]
 ·rw [if_neg (not_not_intro ‹zq r=0›),if_pos hc]
 ·rw [if_neg (not_not_intro ‹zq r=0›),if_neg (not_not_intro ‹zq s=0›),if_pos (by omega)]
 ·rw [if_neg (not_not_intro ‹zq r=0›),if_neg (not_not_intro ‹zq s=0›),if_neg (by omega)]
theorem zwW (r s:List (BitVec 64)) (h1:zq r=0) (h2:zq s=0) (hl:s.length=r.length):Fn Tryz.prog T zeH [.d (dU r),.d (dU s)] [] (.d (dUI (orR r s,0))) []:=by
 have htw:=zzc (T:=T) r s
 rw [if_neg (not_not_intro h1),if_neg (not_not_intro h2),if_neg (not_not_intro hl.symm)] at htw
 have h64:=(zF.1 h1).1
 refine zd zw zj5 (by show 2≤37;decide) ?_
 (repeat' ((conv=>whnf);first|refine vA ?_|refine vH ?_|refine vJ fun hg=>?_|refine vT ?_|(refine vP ?_ ?_;·(simp only [vM] at *;omega))|refine yD htw ⟨⟨rfl,rfl⟩,⟨rfl,rfl⟩,rfl⟩ rfl ?_));all_goals try conv=>whnf
 refine zg (fun ((w,xs):Nat×List D)=>[(0,.d (dU r)),(1,.d (dU s)),(7,.own 0),(8,.d (.int .i64 ((w:Int))))]) (fun ((w,xs):Nat×List D)=>[(0,some (.row 1 xs))]) 1 (fun ((w,xs):Nat×List D)=>w≤r.length∧xs=(List.range r.length).map fun u=>D.u64 (if u < w then uAt r u|||uAt s u else 0#64)) (fun ((w,xs):Nat×List D)=>r.length - w) ((0,List.replicate ((r.map D.u64).length:Int).toNat (D.u64 0#64))) [(0,0)] [] (⟨by simp,by simp only [List.length_map,Int.toNat_natCast];exact (zY _ _).trans (zj fun u hu=>by simp)⟩) (by (refine ⟨rfl,rfl,rfl,?_,?_⟩;repeat' first|exact trivial|exact rfl|refine And.intro ?_ ?_|refine ⟨_,rfl,?_⟩|decide)) ?_
 rintro ⟨w,_⟩ ⟨hw,rfl⟩
 (repeat' ((conv=>whnf);first|refine vA ?_|(refine vF ?_ ?_<;>intro hc<;>try simp only [vL] at hc)|refine vJ fun hg=>?_|refine vT ?_|(refine vQ ?_ fun x hx=>?_;·omega)|((first|refine vO ?_ ?_|refine vP ?_ ?_);·first|omega|(simp only [vM] at *;omega))|(refine vU ?_ ?_;·kernel_rfl)|fail));all_goals try conv=>whnf
 ·have e1:=zgi ‹r[w]? = some _›
  have e2:=zgi hx
  refine ⟨(w+1,_),[(0,0)],[],?_,?_,by (refine ⟨rfl,rfl,rfl,?_,?_⟩;repeat' first|exact trivial|exact rfl|refine And.intro ?_ ?_|refine ⟨_,rfl,?_⟩|decide)⟩
  ·refine ⟨by (omega),(zal _).trans (zj fun u hu=>?_)⟩
   show (if u=w then D.u64 _ else D.u64 _)=_
   by_cases e:u=w
   ·subst e;rw [if_pos rfl,if_pos (Nat.lt_succ_self _),e1,e2]
   ·by_cases h:u < w
    ·simp [e,h,show u < w+1 by omega]
    ·simp [e,h,show ¬u < w+1 by omega]
  ·((simp only [vM] at *;omega))
 ·obtain rfl:w=r.length:=by omega
  refine congrArg some (congrArg (fun l=>D.tup [.arr 1 l,.int .i64 0]) ?_)
  rw [orR,List.map_map]
  exact zj fun u hu=>by rw [if_pos hu];rfl
theorem zvX {r:List (BitVec 64)} (h:zq r=0):zq (zR r)=0∧(zR r).length=r.length:=by
 obtain ⟨h1,h2⟩:=zF.1 h
 have hl:(zR r).length=r.length:=by simp [zR]
 refine ⟨zF.2 ⟨by omega,fun w v hb=>?_⟩,hl⟩
 rw [zkr h1] at hb
 simp only [Bool.and_eq_true,decide_eq_true_eq] at hb
 omega
theorem zlI (r:List (BitVec 64)) (h:zq r=0):Fn Tryz.prog T zdg [.d (dU r)] [] (.d (dUI (orR r (zR r),0))) []:=by
 have hcv:=zmW (T:=T) r
 rw [if_neg (not_not_intro h)] at hcv
 obtain ⟨h2,h3⟩:=zvX h
 have hun:=zwW (T:=T) r (zR r) h h2 h3
 refine zd zw zhi (by show 1≤19;decide) ?_
 (repeat' ((conv=>whnf);first|refine vA ?_|refine vH ?_|refine vT ?_|refine yN hcv ⟨⟨rfl,rfl⟩,rfl⟩ ?_|refine yN hun ⟨⟨rfl,rfl⟩,⟨rfl,rfl⟩,rfl⟩ ?_));all_goals try conv=>whnf
 all_goals rfl
def zhX (r:List (BitVec 64)):List (BitVec 64):=(List.range r.length).map fun u=>uAt r u|||1#64 <<< u
theorem zrJ (r:List (BitVec 64)) (h:zq r=0):Fn Tryz.prog T zdf [.d (dU r)] [] (.d (dUI (zhX r,0))) []:=by
 have hrc:=zdS (T:=T) r
 rw [h] at hrc
 have h64:=(zF.1 h).1
 refine zd zw zhh (by show 1≤33;decide) ?_
 (repeat' ((conv=>whnf);first|refine vA ?_|refine vH ?_|refine vJ fun hg=>?_|refine vT ?_|(refine vP ?_ ?_;·(simp only [vM] at *;omega))|refine yD hrc ⟨⟨rfl,rfl⟩,⟨rfl,rfl⟩,rfl⟩ rfl ?_));all_goals try conv=>whnf
 refine zg (fun ((w,xs):Nat×List D)=>[(0,.d (dU r)),(5,.own 0),(6,.d (.int .i64 ((w:Int))))]) (fun ((w,xs):Nat×List D)=>[(0,some (.row 1 xs))]) 1 (fun ((w,xs):Nat×List D)=>w≤r.length∧xs=(List.range r.length).map fun u=>D.u64 (if u < w then uAt r u|||1#64 <<< u else uAt r u)) (fun ((w,xs):Nat×List D)=>r.length - w) ((0,r.map D.u64)) [(0,1)] [] (⟨by simp,(zzq r).trans (zj fun u hu=>by simp)⟩) (by (refine ⟨rfl,rfl,rfl,?_,?_⟩;repeat' first|exact trivial|exact rfl|refine And.intro ?_ ?_|refine ⟨_,rfl,?_⟩|decide)) ?_
 rintro ⟨w,_⟩ ⟨hw,rfl⟩
 (repeat' ((conv=>whnf);first|refine vA ?_|(refine vF ?_ ?_<;>intro hc<;>try simp only [vL] at hc)|refine vJ fun hg=>?_|refine vT ?_|(refine vQ ?_ fun x hx=>?_;·(simp only [vM] at *;omega))|((first|refine vO ?_ ?_|refine vP ?_ ?_);·first|omega|(simp only [vM] at *;omega))|fail));all_goals try conv=>whnf
 ·have hxe:=zhS hx
  simp only [Int.toNat_natCast] at hxe
  subst hxe
  refine ⟨(x+1,_),[(0,0)],[],?_,?_,by (refine ⟨rfl,rfl,rfl,?_,?_⟩;repeat' first|exact trivial|exact rfl|refine And.intro ?_ ?_|refine ⟨_,rfl,?_⟩|decide)⟩
  ·refine ⟨by (omega),(zal _).trans (zj fun u hu=>?_)⟩
   show (if u=x then D.u64 _ else D.u64 _)=_
   by_cases e:u=x
   ·subst e;rw [zgd (by omega)];simp
   ·by_cases h:u < x
    ·simp [e,h,show u < x+1 by omega]
    ·simp [e,h,show ¬u < x+1 by omega]
  ·((simp only [vM] at *;omega))
 ·obtain rfl:w=r.length:=by omega
  refine congrArg some (congrArg (fun l=>D.tup [.arr 1 l,.int .i64 0]) ?_)
  rw [zhX,List.map_map]
  exact zj fun u hu=>by rw [if_pos hu];rfl
end Go.Ab
namespace Go.Ab
open Go Go.Proofs
set_option maxRecDepth 10000
set_option maxHeartbeats 4000000
variable {T:Nat→Obj→Prop}
inductive TC (r:List (BitVec 64)):Nat→Nat→Prop where
 | base {w v:Nat} : rb r w v=true→TC r w v
 | step {w u v:Nat} : TC r w u→TC r u v→TC r w v
theorem TC.lt {r:List (BitVec 64)} (hi:zcK r) {w v:Nat} (h:TC r w v):w < r.length∧v < r.length:=by
 induction h with
 | base h=>exact ⟨zkn h,hi _ _ h⟩
 | step _ _ h1 h2=>exact ⟨h1.1,h2.2⟩
noncomputable def tcL (r:List (BitVec 64)):List (BitVec 64):=(List.range r.length).map fun w=>zZ (fun v => @decide (TC r w v) (Classical.propDecidable _)) r.length
theorem zx9 {r:List (BitVec 64)} (hl:r.length≤64) (hi:zcK r) {w v:Nat} : rb (tcL r) w v=true↔TC r w v:=by
 by_cases hw:w < r.length
 ·have:(tcL r)[w]? = some (zZ (fun v => @decide (TC r w v) (Classical.propDecidable _)) r.length):=by rw [tcL,List.getElem?_map,List.getElem?_range hw];rfl
  rw [zO this,zes]
  rw [Bool.and_eq_true,Bool.and_eq_true,decide_eq_true_eq,decide_eq_true_eq,@decide_eq_true_eq _ (Classical.propDecidable _)]
  exact ⟨fun h=>h.2,fun h=>⟨⟨by have:=(TC.lt hi h).2;omega,(TC.lt hi h).2⟩,h⟩⟩
 ·rw [zgf (by simp [tcL];omega)]
  exact ⟨fun h=>(by cases h),fun h=>absurd (TC.lt hi h).1 hw⟩
structure Bet (r out:List (BitVec 64)):Prop where
 len:out.length=r.length
 lo : ∀ w v,rb r w v=true→rb out w v=true
 hi : ∀ w v,rb out w v=true→TC r w v
def zq1 (out:List (BitVec 64)):Prop := ∀ w u v,rb out w u=true→rb out u v=true→rb out w v=true
theorem zok {r out:List (BitVec 64)} (hl:r.length≤64) (hi:zcK r) (hb:Bet r out) (hc:zq1 out):out=tcL r:=by
 refine zpu (by rw [hb.len];simp [tcL]) fun w v hw=>?_
 rw [Bool.eq_iff_iff,zx9 hl hi]
 refine ⟨hb.hi w v,fun h=>?_⟩
 induction h with
 | base h=>exact hb.lo _ _ h
 | step h1 _ i1 i2=>exact hc _ _ _ (i1 hw) (i2 (by rw [hb.len];exact (h1.lt hi).2))
def up (out:List (BitVec 64)):Nat:=(out.map BitVec.toNat).sum
theorem zyd : ∀ (out:List (BitVec 64)),up out≤out.length * 18446744073709551616
 | []=>by simp [up]
 | x::t=>by
  have h1:=zyd t
  have h2:=x.isLt
  simp only [up,List.map_cons,List.sum_cons,List.length_cons] at h1 ⊢
  omega
theorem zwu {y:BitVec 64} : ∀ {out:List (BitVec 64)} {w:Nat} {x:BitVec 64},out[w]? = some x→up (out.set w y)+x.toNat=up out+y.toNat
 | [],w,x,h=>by simp at h
 | z::t,0,x,h=>by
  simp only [List.getElem?_cons_zero,Option.some.injEq] at h
  subst h
  simp only [up,List.set_cons_zero,List.map_cons,List.sum_cons]
  omega
 | z::t,w+1,x,h=>by
  have:=zwu (y:=y) (out:=t) (w:=w) (x:=x) (by simpa using h)
  simp only [up,List.set_cons_succ,List.map_cons,List.sum_cons] at this ⊢
  omega
theorem zzH {x y:BitVec 64} (h:x|||y≠x):x.toNat < (x|||y).toNat:=by
 have h1:x.toNat≤(x|||y).toNat:=by rw [BitVec.toNat_or];exact Nat.left_le_or
 have h2:x.toNat≠(x|||y).toNat:=fun e=>h (BitVec.eq_of_toNat_eq e.symm)
 omega
theorem zvT {out:List (BitVec 64)} {w a b:Nat} {y:BitVec 64} (hw:w < out.length):rb (out.set w y) a b=if a=w then y.getLsbD b else rb out a b:=by
 by_cases e:a=w
 ·subst e
  rw [if_pos rfl,zO (s:=y) (by simp [hw])]
 ·rw [if_neg e]
  unfold rb
  simp [List.getD,List.getElem?_set_ne (Ne.symm e)]
theorem zyh {r out:List (BitVec 64)} (hb:Bet r out) {w u:Nat} {x y:BitVec 64} (hx:out[w]? = some x) (hy:out[u]? = some y) (hu:rb out w u=true):Bet r (out.set w (x|||y)):=by
 have hw:=(List.getElem?_eq_some_iff.1 hx).1
 refine ⟨by rw [List.length_set];exact hb.len,fun a b h=>?_,fun a b h=>?_⟩
 ·rw [zvT hw]
  have h1:=hb.lo a b h
  split
  ·rename_i e
   subst e
   rw [zO hx] at h1
   simp [h1]
  ·exact h1
 ·rw [zvT hw] at h
  split at h
  ·rename_i e
   subst e
   rw [BitVec.getLsbD_or,Bool.or_eq_true] at h
   rcases h with h|h
   ·exact hb.hi _ _ (by rw [zO hx];exact h)
   ·exact .step (hb.hi _ _ hu) (hb.hi _ _ (by rw [zO hy];exact h))
  ·exact hb.hi _ _ h
structure Gr (r out0 out:List (BitVec 64)) (ag:Bool) (w u:Nat):Prop where
 bet:Bet r out
 le:up out0≤up out
 lt:ag=true→up out0 < up out
 eq:ag=false→out=out0∧(∀ a,a < w → ∀ b c,rb out0 a b=true→rb out0 b c=true→rb out0 a c=true) ∧ ∀ b,b < u → ∀ c,rb out0 w b=true→rb out0 b c=true→rb out0 w c=true
theorem Gr.start {r out:List (BitVec 64)} (hb:Bet r out):Gr r out out false 0 0:=⟨hb,Nat.le_refl _,nofun,fun _=>⟨rfl,nofun,nofun⟩⟩
theorem Gr.row {r out0 out:List (BitVec 64)} {ag:Bool} {w:Nat} (hi:zcK r) (h:Gr r out0 out ag w r.length):Gr r out0 out ag (w+1) 0:=by
 refine ⟨h.bet,h.le,h.lt,fun e=>?_⟩
 obtain ⟨h1,h2,h3⟩:=h.eq e
 have hb:=h.bet
 rw [h1] at hb
 refine ⟨h1,fun a ha b c x y=>?_,nofun⟩
 by_cases e:a=w
 ·subst e;exact h3 b ((hb.hi _ _ x).lt hi).2 c x y
 ·exact h2 a (by omega) b c x y
theorem Gr.skip {r out0 out:List (BitVec 64)} {ag:Bool} {w u:Nat} (h:Gr r out0 out ag w u) (hs:out=out0 → ∀ c,rb out0 w u=true→rb out0 u c=true→rb out0 w c=true):Gr r out0 out ag w (u+1):=by
 refine ⟨h.bet,h.le,h.lt,fun e=>?_⟩
 obtain ⟨h1,h2,h3⟩:=h.eq e
 refine ⟨h1,h2,fun b hb c x y=>?_⟩
 by_cases e:b=u
 ·subst e;exact hs h1 c x y
 ·exact h3 b (by omega) c x y
theorem Gr.add {r out0 out:List (BitVec 64)} {ag:Bool} {w u:Nat} {x y:BitVec 64} (h:Gr r out0 out ag w u) (hx:out[w]? = some x) (hy:out[u]? = some y) (hu:rb out w u=true) (hne:x|||y≠x):Gr r out0 (out.set w (x|||y)) true w (u+1):=by
 have h1:=zwu (y:=x|||y) hx
 have h2:=zzH hne
 have h3:=h.le
 exact ⟨zyh h.bet hx hy hu,by omega,fun _=>by omega,nofun⟩
theorem Gr.closed {r out0 out:List (BitVec 64)} (h:Gr r out0 out false r.length 0):zq1 out:=by
 obtain ⟨h1,h2,-⟩:=h.eq rfl
 have hb:=h.bet
 subst h1
 exact fun w u v x y=>h2 w (by have:=zkn x;rw [hb.len] at this;exact this) u v x y
set_option maxHeartbeats 8000000 in
theorem zyt (r:List (BitVec 64)) (h:zq r=0):Fn Tryz.prog T zfi [.d (dU r),.d (.bool false)] [] (.d (dU (tcL r))) []:=by
 obtain ⟨h64,hin⟩:=zF.1 h
 refine zd zw zk2 (by show 2≤64;decide) ?_
 (repeat' ((conv=>whnf);first|refine vA ?_|refine vT ?_|(refine vP ?_ ?_;·(simp only [vM] at *;omega))|fail));all_goals try conv=>whnf
 refine zg (fun ((out,ag,xs):List (BitVec 64)×Bool×List D)=>[(1,.d (.bool (false))),(5,.own 0),(6,.d (.bool (ag)))]) (fun ((out,ag,xs):List (BitVec 64)×Bool×List D)=>[(0,some (.row 1 xs))]) 1 (fun ((out,ag,xs):List (BitVec 64)×Bool×List D)=>xs=out.map D.u64∧Bet r out∧(ag=false→zq1 out)) (fun ((out,ag,xs):List (BitVec 64)×Bool×List D)=>2 * (r.length * 18446744073709551616 - up out)+(if ag then 1 else 0)) ((r,true,r.map D.u64)) [(0,1)] [] (⟨rfl,⟨rfl,fun _ _ h=>h,fun _ _ h => .base h⟩,nofun⟩) (by (refine ⟨rfl,rfl,rfl,?_,?_⟩;repeat' first|exact trivial|exact rfl|exact .inl rfl|exact .inr (.inl ⟨rfl,rfl⟩)|refine And.intro ?_ ?_|refine ⟨_,rfl,?_⟩|decide)) ?_
 rintro ⟨out0,ag0,_⟩ ⟨rfl,hb0,hc0⟩
 (repeat' ((conv=>whnf);first|refine vA ?_|(refine vI ?_ ?_<;>intro hc)|refine vT ?_));all_goals try conv=>whnf
 ·refine zg (fun ((w,out,ag,xs):Nat×List (BitVec 64)×Bool×List D)=>[(1,.d (.bool (false))),(5,.own 0),(6,.d (.bool (ag))),(7,.d (.int .i64 ((w:Int))))]) (fun ((w,out,ag,xs):Nat×List (BitVec 64)×Bool×List D)=>[(0,some (.row 1 xs))]) 1 (fun ((w,out,ag,xs):Nat×List (BitVec 64)×Bool×List D)=>xs=out.map D.u64∧w≤r.length∧Gr r out0 out ag w 0) (fun ((w,out,ag,xs):Nat×List (BitVec 64)×Bool×List D)=>r.length - w) ((0,out0,false,out0.map D.u64)) [(0,0)] [] (⟨rfl,by omega,Gr.start hb0⟩) (by (refine ⟨rfl,rfl,rfl,?_,?_⟩;repeat' first|exact trivial|exact rfl|exact .inl rfl|exact .inr (.inr ⟨rfl,rfl⟩)|refine And.intro ?_ ?_|refine ⟨_,rfl,?_⟩|decide)) ?_
  rintro ⟨w,out,ag,_⟩ ⟨rfl,hw,hG⟩
  have hl:=hG.bet.len
  (repeat' ((conv=>whnf);first|refine vA ?_|(refine vF ?_ ?_<;>intro hc<;>try simp only [vL] at hc)|refine vJ fun hg=>?_|refine vT ?_));all_goals try conv=>whnf
  ·have hwn:w < r.length:=by omega
   refine zg (fun ((u,out,ag,xs):Nat×List (BitVec 64)×Bool×List D)=>[(1,.d (.bool (false))),(5,.own 0),(6,.d (.bool (ag))),(7,.d (.int .i64 ((w:Int)))),(8,.d (.int .i64 ((u:Int))))]) (fun ((u,out,ag,xs):Nat×List (BitVec 64)×Bool×List D)=>[(0,some (.row 1 xs))]) 1 (fun ((u,out,ag,xs):Nat×List (BitVec 64)×Bool×List D)=>xs=out.map D.u64∧u≤r.length∧Gr r out0 out ag w u) (fun ((u,out,ag,xs):Nat×List (BitVec 64)×Bool×List D)=>r.length - u) ((0,out,ag,out.map D.u64)) [(0,0)] [] (⟨rfl,by omega,hG⟩) (by (refine ⟨rfl,rfl,rfl,?_,?_⟩;repeat' first|exact trivial|exact rfl|exact .inl rfl|refine And.intro ?_ ?_|refine ⟨_,rfl,?_⟩|decide)) ?_
   clear hl hG
   rintro ⟨u,out,ag,_⟩ ⟨rfl,hu,hG⟩
   have hl:=hG.bet.len
   (repeat' ((conv=>whnf);first|refine vA ?_|refine vE ?_|refine vH ?_|((first|refine vD ?_ ?_|refine vF ?_ ?_|refine vI ?_ ?_)<;>intro hc<;>try simp only [vL] at hc)|refine vJ fun hg=>?_|refine vT ?_|refine vN ‹_› ?_|(refine vQ ?_ fun x hx=>?_;·omega)|((first|refine vO ?_ ?_|refine vP ?_ ?_);·first|omega|(simp only [vM] at *;omega))|(refine vU ?_ ?_;·kernel_rfl)|(refine yD (zoB _ _ ?_ ?_) ⟨⟨rfl,rfl⟩,⟨rfl,rfl⟩,rfl⟩ rfl ?_;(·omega);(·omega))|fail));all_goals try conv=>whnf
   ·rename_i z hz hbz
    have h1:out[w]? = some z:=hz
    have h2:out[u]? = some x:=hx
    have h3:rb out w u=true:=by rw [zO h1,← zbX];exact hbz
    refine ⟨(u+1,out.set w (z|||x),true,_),[(0,0)],[],?_,?_,by (refine ⟨rfl,rfl,rfl,?_,?_⟩;repeat' first|exact trivial|exact rfl|exact .inl rfl|exact .inr (.inl ⟨rfl,rfl⟩)|refine And.intro ?_ ?_|refine ⟨_,rfl,?_⟩|decide)⟩
    ·refine ⟨?_,by omega,hG.add h1 h2 h3 hc⟩
     rw [List.map_set];rfl
    ·((simp only [vM] at *;omega))
   ·have h1:out[w]? = some _:=‹out[((w:Nat):Int).toNat]? = some _›
    have h2:out[u]? = some _:=hx
    refine ⟨(u+1,out,ag,_),[(0,0)],[],?_,?_,by (refine ⟨rfl,rfl,rfl,?_,?_⟩;repeat' first|exact trivial|exact rfl|exact .inl rfl|refine And.intro ?_ ?_|refine ⟨_,rfl,?_⟩|decide)⟩
    ·refine ⟨rfl,by omega,hG.skip fun e c _ h4=>?_⟩
     rw [← e] at h4 ⊢
     rw [zO h2] at h4
     rw [zO h1,← hc,BitVec.getLsbD_or,h4,Bool.or_true]
    ·((simp only [vM] at *;omega))
   ·have h1:out[w]? = some _:=hx
    have h3:rb out w u=false:=by rw [zO h1,← zbX];assumption
    refine ⟨(u+1,out,ag,_),[(0,0)],[],?_,?_,by (refine ⟨rfl,rfl,rfl,?_,?_⟩;repeat' first|exact trivial|exact rfl|exact .inl rfl|refine And.intro ?_ ?_|refine ⟨_,rfl,?_⟩|decide)⟩
    ·refine ⟨rfl,by omega,hG.skip fun e c h4 _=>?_⟩
     rw [← e,h3] at h4;cases h4
    ·((simp only [vM] at *;omega))
   ·obtain rfl:u=r.length:=by omega
    refine ⟨(w+1,out,ag,_),[(0,0)],[],?_,?_,by (refine ⟨rfl,rfl,rfl,?_,?_⟩;repeat' first|exact trivial|exact rfl|exact .inl rfl|refine And.intro ?_ ?_|refine ⟨_,rfl,?_⟩|decide)⟩
    ·exact ⟨rfl,by omega,hG.row hin⟩
    ·((simp only [vM] at *;omega))
  ·obtain rfl:w=r.length:=by omega
   refine ⟨(out,ag,_),[(0,0)],[],?_,?_,by (refine ⟨rfl,rfl,rfl,?_,?_⟩;repeat' first|exact trivial|exact rfl|exact .inl rfl|refine And.intro ?_ ?_|refine ⟨_,rfl,?_⟩|decide)⟩
   ·exact ⟨rfl,hG.bet,fun e=>by subst e;exact hG.closed⟩
   ·have h1:=hG.le
    have h2:=zyd out
    have h3:=hG.lt
    rw [hl] at h2
    show 2 * (r.length * 18446744073709551616 - up out)+(if ag=true then 1 else 0) < 2 * (r.length * 18446744073709551616 - up out0)+(if ag0=true then 1 else 0)
    rw [if_pos ‹ag0=true›]
    cases ag with
    | true=>have:=h3 rfl;simp only [if_true];omega
    | false=>simp only [Bool.false_eq_true,if_false];omega
 ·rw [← zok h64 hin hb0 (hc0 ‹ag0=false›)]
  rfl
end Go.Ab
namespace Go.Ab
open Go Go.Proofs
set_option maxRecDepth 10000
set_option maxHeartbeats 4000000
variable {T:Nat→Obj→Prop}
theorem zkH (r:List (BitVec 64)) (h:zq r=0):Fn Tryz.prog T zcW [.d (dU r)] [] (.d (dUI (tcL r,0))) []:=by
 have hrc:=zdS (T:=T) r
 rw [h] at hrc
 have hgw:=zyt (T:=T) r h
 refine zd zw zgH (by show 1≤14;decide) ?_
 (repeat' ((conv=>whnf);first|refine vA ?_|refine vH ?_|refine vJ fun hg=>?_|refine vT ?_|refine yD hrc ⟨⟨rfl,rfl⟩,⟨rfl,rfl⟩,rfl⟩ rfl ?_|refine yN hgw ⟨⟨rfl,rfl⟩,⟨rfl,rfl⟩,rfl⟩ ?_));all_goals try conv=>whnf
 all_goals rfl
theorem zxx {r:List (BitVec 64)} (h:zq r=0):(zhX r==r)=zci r 2:=by
 obtain ⟨h64,hin⟩:=zF.1 h
 have hlen:(zhX r).length=r.length:=by simp [zhX]
 have hb : ∀ w v,w < r.length→rb (zhX r) w v=(rb r w v||(decide (v < 64)&&decide (v=w))):=fun w v hw=>by
  have:(zhX r)[w]? = some (uAt r w|||1#64 <<< w):=by rw [zhX,List.getElem?_map,List.getElem?_range hw];rfl
  rw [zO this,BitVec.getLsbD_or,zpa,zfB]
 rw [Bool.eq_iff_iff,za2,beq_iff_eq]
 constructor
 ·intro e
  refine ⟨h,.inr (.inl ⟨rfl,fun w hw=>?_⟩)⟩
  have:=hb w w hw
  rw [e] at this
  rw [this];simp;omega
 ·rintro ⟨-,h1|h1|h1|h1|h1⟩
  ·exact absurd h1.1 (by decide)
  ·refine zpu hlen fun w v hw=>?_
   rw [hlen] at hw
   rw [hb w v hw]
   by_cases e:v=w
   ·subst e;simp [h1.2 v hw]
   ·simp [e]
  ·exact absurd h1.1 (by decide)
  ·exact absurd h1.1 (by decide)
  ·exact absurd h1.1 (by decide)
theorem zwt {r:List (BitVec 64)} (h:zq r=0):(tcL r==r)=zci r 4:=by
 obtain ⟨h64,hin⟩:=zF.1 h
 rw [Bool.eq_iff_iff,za2,beq_iff_eq]
 constructor
 ·intro e
  refine ⟨h,.inr (.inr (.inr (.inl ⟨rfl,fun w u v h1 h2=>?_⟩)))⟩
  rw [← e,zx9 h64 hin]
  exact .step (.base h1) (.base h2)
 ·rintro ⟨-,h1|h1|h1|h1|h1⟩
  ·exact absurd h1.1 (by decide)
  ·exact absurd h1.1 (by decide)
  ·exact absurd h1.1 (by decide)
  ·exact (zok h64 hin ⟨rfl,fun _ _ h=>h,fun _ _ h => .base h⟩ h1.2).symm
  ·exact absurd h1.1 (by decide)
theorem zwU (r:List (BitVec 64)) (h:zq r=0):Fn Tryz.prog T zde [.d (dU r),.d (.int .i64 2)] [] (.d (.bool (zci r 2))) []:=by
 have hva:=zrL (T:=T) r
 rw [decide_eq_true h] at hva
 have hre:=zrJ (T:=T) r h
 have h64:=(zF.1 h).1
 rw [← zxx h]
 refine zd zw zf9 (by show 2≤58;decide) ?_
 (repeat' ((conv=>whnf);first|refine vA ?_|refine vE ?_|refine vG ?_|refine vH ?_|refine vT ?_|(refine vP ?_ ?_;·(simp only [vM] at *;omega))|refine vZ ?_|refine yD hva ⟨⟨rfl,rfl⟩,rfl⟩ rfl ?_|refine yN hre ⟨⟨rfl,rfl⟩,rfl⟩ ?_|refine yD (zd0 _ _) ⟨⟨rfl,rfl⟩,⟨rfl,rfl⟩,rfl⟩ rfl ?_));all_goals try conv=>whnf
 all_goals rfl
theorem zwV (r:List (BitVec 64)) (h:zq r=0):Fn Tryz.prog T zde [.d (dU r),.d (.int .i64 4)] [] (.d (.bool (zci r 4))) []:=by
 have hva:=zrL (T:=T) r
 rw [decide_eq_true h] at hva
 have htr:=zkH (T:=T) r h
 have h64:=(zF.1 h).1
 rw [← zwt h]
 refine zd zw zf9 (by show 2≤58;decide) ?_
 (repeat' ((conv=>whnf);first|refine vA ?_|refine vE ?_|refine vG ?_|refine vH ?_|refine vT ?_|(refine vP ?_ ?_;·(simp only [vM] at *;omega))|refine vZ ?_|refine yD hva ⟨⟨rfl,rfl⟩,rfl⟩ rfl ?_|refine yN htr ⟨⟨rfl,rfl⟩,rfl⟩ ?_|refine yD (zd0 _ _) ⟨⟨rfl,rfl⟩,⟨rfl,rfl⟩,rfl⟩ rfl ?_));all_goals try conv=>whnf
 all_goals rfl
theorem zmL {r:List (BitVec 64)} (h:zq r=0) {w v:Nat} : rb (orR r (zR r)) w v=cmp r w v:=by
 obtain ⟨h64,hin⟩:=zF.1 h
 by_cases hw:w < r.length
 ·have:(orR r (zR r))[w]? = some (uAt r w|||uAt (zR r) w):=by rw [orR,List.getElem?_map,List.getElem?_range hw];rfl
  rw [zO this,BitVec.getLsbD_or,zfB,zfB]
  exact zgO h64 hin w v
 ·rw [zgf (by simp [orR];omega)]
  symm
  rw [Bool.eq_false_iff]
  intro h1
  simp only [cmp,Bool.or_eq_true] at h1
  rcases h1 with h1|h1
  ·exact hw (zkn h1)
  ·exact hw (hin _ _ h1)
theorem zsi {r:List (BitVec 64)} (h:zq r=0):zq (orR r (zR r))=0:=by
 obtain ⟨h64,hin⟩:=zF.1 h
 have hl:(orR r (zR r)).length=r.length:=by simp [orR]
 refine zF.2 ⟨by omega,fun w v h1=>?_⟩
 rw [zmL h] at h1
 simp only [cmp,Bool.or_eq_true] at h1
 rw [hl]
 rcases h1 with h1|h1
 ·exact hin _ _ h1
 ·exact zkn h1
theorem zxV {r:List (BitVec 64)} (h:zq r=0) (h2:zci r 2=true) (h4:zci r 4=true):(orR r (zR r)==tcL (orR r (zR r)))=zbZ r (zR r):=by
 obtain ⟨h64,hin⟩:=zF.1 h
 have hs:=zsi h
 have e:=zwt hs
 have e1:(orR r (zR r)==tcL (orR r (zR r)))=(tcL (orR r (zR r))==orR r (zR r)):=by
  rw [Bool.eq_iff_iff,beq_iff_eq,beq_iff_eq];exact eq_comm
 rw [e1,e,Bool.eq_iff_iff,za2,zfU]
 constructor
 ·rintro ⟨-,h1|h1|h1|h1|h1⟩
  ·exact absurd h1.1 (by decide)
  ·exact absurd h1.1 (by decide)
  ·exact absurd h1.1 (by decide)
  ·refine ⟨za2.1 h2,za2.1 h4,fun w hw v hv ha i hb=>?_⟩
   rw [zgO h64 hin] at ha hb ⊢
   have:=h1.2 v w i (by rw [zmL h,zrm];exact ha) (by rw [zmL h];exact hb)
   rwa [zmL h] at this
  ·exact absurd h1.1 (by decide)
 ·intro hc
  have hP:=zvO h (zfU.2 hc)
  refine ⟨hs,.inr (.inr (.inr (.inl ⟨rfl,fun w u v ha hb=>?_⟩)))⟩
  rw [zmL h] at ha hb ⊢
  exact hP.cmp_tr ha hb
theorem zw4 (r:List (BitVec 64)) (h:zq r=0) (h2:zci r 2=true) (h4:zci r 4=true):Fn Tryz.prog T zdi [.d (dU r)] [] (.d (.bool (zbZ r (zR r)))) []:=by
 have hsy:=zlI (T:=T) r h
 have htr:=zkH (T:=T) _ (zsi h)
 rw [← zxV h h2 h4]
 refine zd zw zhk (by show 1≤20;decide) ?_
 (repeat' ((conv=>whnf);first|refine vT ?_|refine vZ ?_|refine yN hsy ⟨⟨rfl,rfl⟩,rfl⟩ ?_|refine yN htr ⟨⟨rfl,rfl⟩,rfl⟩ ?_|refine yD (zd0 _ _) ⟨⟨rfl,rfl⟩,⟨rfl,rfl⟩,rfl⟩ rfl ?_));all_goals try conv=>whnf
end Go.Ab
namespace Go.Ab
open Go Go.Proofs
set_option maxRecDepth 10000
set_option maxHeartbeats 4000000
variable {T:Nat→Obj→Prop}
def zcQ (r:List (BitVec 64)) (w:Nat):BitVec 64:=zZ (fun v=>rb r w v && !rb r v w) r.length
theorem zuQ {r:List (BitVec 64)} (h64:r.length≤64) (hin:zcK r) {w v:Nat} : (zcQ r w).getLsbD v=(rb r w v && !rb r v w):=by
 rw [zcQ,zes]
 cases hb:rb r w v with
 | false=>simp
 | true=>have:=hin w v hb;simp [show v < 64 by omega,this]
theorem zh8 (r:List (BitVec 64)) (w:Nat) (hw:w < r.length):Fn Tryz.prog T zdE [.d (dU r),.d (.int .i64 (w:Int))] [] (.d (.u64 (zcQ r w))) []:=by
 refine zd zw zhG (by show 2≤34;decide) ?_
 (repeat' ((conv=>whnf);first|refine vA ?_|refine vT ?_));all_goals try conv=>whnf
 refine zS (fun ((v,s):Nat×BitVec 64)=>[(0,.d (dU r)),(1,.d (.int .i64 ((w:Int)))),(5,.d (.u64 (s))),(6,.d (.int .i64 ((v:Int))))]) (fun ((v,s):Nat×BitVec 64)=>v≤r.length∧s=zZ (fun v=>rb r w v && !rb r v w) v) (fun ((v,s):Nat×BitVec 64)=>r.length - v) ((0,0#64)) (⟨by simp,rfl⟩) (by (repeat' first|exact trivial|exact rfl|refine And.intro ?_ ?_)) ?_
 rintro ⟨v,_⟩ ⟨hv,rfl⟩
 (repeat' ((conv=>whnf);first|refine vA ?_|refine vE ?_|((first|refine vF ?_ ?_|refine vI ?_ ?_)<;>intro hc<;>try simp only [vL] at hc)|refine vJ fun hg=>?_|refine vT ?_|(refine vQ ?_ fun x hx=>?_;·omega)|(refine vO ?_ ?_;·omega)|refine vY ?_|(refine yD (zoB _ _ ?_ ?_) ⟨⟨rfl,rfl⟩,⟨rfl,rfl⟩,rfl⟩ rfl ?_;(·omega);(·omega))|fail));all_goals try conv=>whnf
 ·have h1:rb r w v=true:=by rw [zO ‹r[w]? = some _›,← zbX];assumption
  have h2:rb r v w=true:=by rw [zO hx,← zbX];exact hc
  exact ⟨(v+1,_),[],[],⟨by (omega),by rw [zZ,if_neg (by simp [h1,h2])]⟩,by ((simp only [vM] at *;omega)),by (refine ⟨rfl,rfl,rfl,?_,?_⟩;repeat' first|exact trivial|exact rfl|refine And.intro ?_ ?_)⟩
 ·have h1:rb r w v=true:=by rw [zO ‹r[w]? = some _›,← zbX];assumption
  have h2:rb r v w=false:=by rw [zO hx,← zbX];exact hc
  refine ⟨(v+1,_),[],[],?_,?_,by (refine ⟨rfl,rfl,rfl,?_,?_⟩;repeat' first|exact trivial|exact rfl|refine And.intro ?_ ?_)⟩
  ·exact ⟨by (omega),by rw [zZ,if_pos (by simp [h1,h2]),zgd (by omega)];rfl⟩
  ·((simp only [vM] at *;omega))
 ·have h1:rb r w v=false:=by rw [zO hx,← zbX];exact hc
  exact ⟨(v+1,_),[],[],⟨by (omega),by rw [zZ,if_neg (by simp [h1])]⟩,by ((simp only [vM] at *;omega)),by (refine ⟨rfl,rfl,rfl,?_,?_⟩;repeat' first|exact trivial|exact rfl|refine And.intro ?_ ?_)⟩
 ·obtain rfl:v=r.length:=by omega
  rfl
def eqL (r:List (BitVec 64)) (w:Nat):BitVec 64:=uAt r w &&& ~~~(zcQ r w)
theorem zwZ (r:List (BitVec 64)) (w:Nat) (hw:w < r.length):Fn Tryz.prog T zeR [.d (dU r),.d (.int .i64 (w:Int))] [] (.d (.u64 (eqL r w))) []:=by
 refine zd zw zkf (by show 2≤13;decide) ?_
 (repeat' ((conv=>whnf);first|refine vA ?_|refine vT ?_|(refine vQ ?_ fun x hx=>?_;·omega)|(refine vU ?_ ?_;·kernel_rfl)|refine vY ?_|refine yD (zh8 r w hw) ⟨⟨rfl,rfl⟩,⟨rfl,rfl⟩,rfl⟩ rfl ?_));all_goals try conv=>whnf
 rw [eqL,zgi hx]
def zha (r:List (BitVec 64)) (w v:Nat):Prop:=(zcQ r w).getLsbD v=true∧zcQ r w &&& ~~~(zcQ r v) &&& ~~~(eqL r v)=0#64
section
variable {r:List (BitVec 64)} (h:zd2 r)
include h
theorem zd2.chain_iff {w v:Nat} : zha r w v↔(rb r w v=true∧rb r v w=false) ∧ ∀ u,rb r w u=true→rb r u w=false→rb r v u=true:=by
 have hs:=fun w v=>zuQ (r:=r) h.len h.ins (w:=w) (v:=v)
 unfold zha
 rw [hs,zob]
 simp only [Bool.and_eq_true,Bool.not_eq_true']
 refine and_congr_right fun _=>⟨fun hz u h1 h2=>?_,fun hz u=>?_⟩
 ·have:=hz u
  have h64:u < 64:=by have:=h.ins w u h1;have:=h.len;omega
  rw [BitVec.getLsbD_and,BitVec.getLsbD_and,hs,h1,h2,BitVec.getLsbD_not,BitVec.getLsbD_not,hs,eqL,BitVec.getLsbD_and,BitVec.getLsbD_not,hs,zfB] at this
  cases hb:rb r v u with
  | true=>rfl
  | false=>rw [hb] at this;simp [h64] at this
 ·rw [BitVec.getLsbD_and,BitVec.getLsbD_and,hs]
  cases h1:rb r w u with
  | false=>simp
  | true =>
   cases h2:rb r u w with
   | true=>simp
   | false =>
    have h3:=hz u h1 h2
    have h64:u < 64:=by have:=h.ins w u h1;have:=h.len;omega
    rw [BitVec.getLsbD_not,BitVec.getLsbD_not,hs,eqL,BitVec.getLsbD_and,BitVec.getLsbD_not,hs,zfB,h3]
    cases rb r u v<;>simp [h64]
theorem zd2.chain_rk {w v:Nat} (hc:zha r w v):rk r v+1=rk r w:=by
 obtain ⟨⟨h4,h5⟩,hm⟩:=h.chain_iff.1 hc
 have h6:=h.rk_strict h4 h5
 have h7:rk r w≤rk r v+1:=zyJ (y:=uAt r v) fun x hx=>by
  obtain ⟨u,a1,a2,a3,rfl⟩:=zeq.1 hx
  have hvu:=hm u a2 a3
  cases hb:rb r u v with
  | true=>left;exact h.eq_rows hb hvu
  | false=>right;exact zeq.2 ⟨u,a1,hvu,hb,rfl⟩
 omega
theorem zd2.chain_ex {w:Nat} (h0:rk r w≠0) : ∃ v,v < r.length∧zha r w v:=by
 by_cases he:((List.range r.length).filter fun v=>rb r w v && !rb r v w)=[]
 ·refine absurd ?_ h0
  have h0:zQ r w r.length=[]:=by unfold zQ;rw [he];rfl
  have h1:zeV (zQ r w r.length)=[]:=List.eq_nil_iff_forall_not_mem.2 fun x hx=>by
   rw [zcP,h0] at hx;cases hx
  unfold rk
  rw [h1];rfl
 ·obtain ⟨v,h1,h2⟩:=zzh (rk r) he
  rw [List.mem_filter,List.mem_range] at h1
  simp only [Bool.and_eq_true,Bool.not_eq_true'] at h1
  obtain ⟨h3,h4,h5⟩:=h1
  refine ⟨v,h3,h.chain_iff.2 ⟨⟨h4,h5⟩,fun u a2 a3=>?_⟩⟩
  have hm:=h2 u (List.mem_filter.2 ⟨List.mem_range.2 (h.ins _ _ a2),by simp [a2,a3]⟩)
  exact (h.rk_iff (h.conn w v u (by simp [cmp,h4]) (by simp [cmp,a2]))).1 hm
end
set_option maxHeartbeats 8000000 in
theorem zwY (r:List (BitVec 64)) (h:zd2 r) : ∀ (n w:Nat) (d:Int),w < r.length→rk r w=n→(n:Int)≤d→d≤64→Fn Tryz.prog T zeQ [.d (dU r),.d (.int .i64 (w:Int)),.d (.int .i64 d)] [] (.d (.int .i64 (n:Int))) []:=by
 intro n
 induction n using Nat.strongRecOn with
 | _ n ih =>
  intro w d hw hn hd hd2
  have h64:=h.len
  refine zd zw zke (by show 3≤45;decide) ?_
  (repeat' ((conv=>whnf);first|refine vA ?_|refine vT ?_|refine yD (zh8 r w hw) ⟨⟨rfl,rfl⟩,⟨rfl,rfl⟩,rfl⟩ rfl ?_));all_goals try conv=>whnf
  refine zS (fun (v:Nat)=>[(0,.d (dU r)),(2,.d (.int .i64 (d))),(7,.d (.int .i64 (0))),(8,.d (.u64 ((zcQ r w)))),(9,.d (.int .i64 ((v:Int))))]) (fun (v:Nat)=>v≤r.length ∧ ∀ u,u < v → ¬zha r w u) (fun (v:Nat)=>r.length - v) (0) (⟨by simp,nofun⟩) (by (repeat' first|exact trivial|exact rfl|refine And.intro ?_ ?_)) ?_
  rintro v ⟨hv,hI⟩
  (repeat' ((conv=>whnf);first|refine vA ?_|((first|refine vF ?_ ?_|refine vI ?_ ?_)<;>intro hc<;>try simp only [vL] at hc)|refine vJ fun hg=>?_|refine vT ?_|(refine vO ?_ ?_;·omega)|refine vX ?_|(refine yD (zoB _ _ ?_ ?_) ⟨⟨rfl,rfl⟩,⟨rfl,rfl⟩,rfl⟩ rfl ?_;(·omega);(·omega))|fail));all_goals try conv=>whnf
  ·have hvn:v < r.length:=by omega
   have hb:(zcQ r w).getLsbD v=true:=by rw [← zbX];exact hc
   (repeat' ((conv=>whnf);first|(refine vF ?_ ?_<;>intro hc)|refine vT ?_|(refine vO ?_ ?_;·omega)|refine yD (zh8 r v hvn) ⟨⟨rfl,rfl⟩,⟨rfl,rfl⟩,rfl⟩ rfl ?_|refine yD (zwZ r v hvn) ⟨⟨rfl,rfl⟩,⟨rfl,rfl⟩,rfl⟩ rfl ?_));all_goals try conv=>whnf
   ·have hch:zha r w v:=⟨hb,‹_=(0:BitVec 64)›⟩
    have hr:=h.chain_rk hch
    refine zX.data (ih (rk r v) (by omega) v (d - 1) hvn rfl (by omega) (by omega)) (by (repeat refine ⟨⟨rfl,rfl⟩,?_⟩);rfl) rfl ?_
    (repeat' ((conv=>whnf);first|refine vT ?_|(refine vO ?_ ?_;·omega)|refine vX ?_));all_goals try conv=>whnf
    omega
   ·have hch : ¬zha r w v:=fun h=>hc h.2
    exact ⟨v+1,[],[],⟨by (omega),fun u hu=>by
     by_cases e:u=v
     ·subst e;exact hch
     ·exact hI u (by omega)⟩,by (omega),by (refine ⟨rfl,rfl,rfl,?_,?_⟩;repeat' first|exact trivial|exact rfl|refine And.intro ?_ ?_)⟩
  ·have hb : ¬(zcQ r w).getLsbD v=true:=by rw [← zbX];simp at hc ⊢;exact hc
   exact ⟨v+1,[],[],⟨by (omega),fun u hu=>by
    by_cases e:u=v
    ·subst e;exact fun h=>hb h.1
    ·exact hI u (by omega)⟩,by (omega),by (refine ⟨rfl,rfl,rfl,?_,?_⟩;repeat' first|exact trivial|exact rfl|refine And.intro ?_ ?_)⟩
  ·omega
  ·have h0:rk r w=0:=by
    apply Classical.byContradiction
    intro h0
    obtain ⟨u,hu,hc⟩:=h.chain_ex h0
    exact hI u (by omega) hc
   omega
theorem zr1 {s:BitVec 64} (hs:s≠0#64) {w:Nat} (hb:s.getLsbD w=true) (hI : ∀ i,i < w→s.getLsbD i=false):w=Lib.ctz 64 s.toNat:=by
 obtain ⟨h1,h2,h3,-⟩:=ztB s hs
 rcases Nat.lt_trichotomy w (Lib.ctz 64 s.toNat) with h|h|h
 ·rw [h3 w h] at hb;cases hb
 ·exact h
 ·rw [hI _ h] at h2;cases h2
theorem zvi (s:BitVec 64) (hs:s≠0#64):Fn Tryz.prog T zej [.d (.u64 s)] [] (.d (.int .i64 (Lib.ctz 64 s.toNat:Int))) []:=by
 refine zd zw ziX (by show 1≤15;decide) ?_
 (repeat' ((conv=>whnf);first|refine vA ?_|refine vT ?_));all_goals try conv=>whnf
 refine zS (fun (w:Nat)=>[(0,.d (.u64 (s))),(3,.d (.int .i64 ((w:Int))))]) (fun (w:Nat)=>w≤63 ∧ ∀ i,i < w→s.getLsbD i=false) (fun (w:Nat)=>63 - w) (0) (⟨by simp,nofun⟩) (by (repeat' first|exact trivial|exact rfl|refine And.intro ?_ ?_)) ?_
 rintro w ⟨hw,hI⟩
 (repeat' ((conv=>whnf);first|refine vA ?_|refine vE ?_|((first|refine vF ?_ ?_|refine vI ?_ ?_)<;>intro hc<;>try simp only [vL] at hc)|refine vT ?_|(refine vO ?_ ?_;·omega)|refine vX ?_|(refine yD (zoB _ _ ?_ ?_) ⟨⟨rfl,rfl⟩,⟨rfl,rfl⟩,rfl⟩ rfl ?_;(·omega);(·omega))|fail));all_goals try conv=>whnf
 ·exact congrArg Int.ofNat (zr1 hs (by rw [← zbX];exact hc) hI)
 ·have hb:s.getLsbD w=false:=by rw [← zbX];exact hc
  exact ⟨w+1,[],[],⟨by omega,fun i hi=>by
   by_cases e:i=w
   ·subst e;exact hb
   ·exact hI i (by omega)⟩,by (omega),by (refine ⟨rfl,rfl,rfl,?_,?_⟩;repeat' first|exact trivial|exact rfl|refine And.intro ?_ ?_)⟩
 ·obtain rfl:w=63:=by omega
  refine congrArg Int.ofNat (zr1 hs ?_ hI)
  apply Classical.byContradiction
  intro hn
  apply hs
  apply BitVec.eq_of_getLsbD_eq
  intro i hi
  by_cases e:i=63
  ·subst e;simpa using hn
  ·rw [hI i (by omega)];simp
end Go.Ab
namespace Go.Ab
open Go Go.Proofs
set_option maxRecDepth 10000
set_option maxHeartbeats 4000000
variable {T:Nat→Obj→Prop}
theorem zxr {v:BitVec 64} {ws:List Int} {k:Nat} (h:v.getLsbD (at0 ws k).toNat=true):zcY v ws (k+1)=zcY v ws k|||1#64 <<< k:=by
 rw [zcY,(zdp v _).2 h]
theorem zvK {v:BitVec 64} {ws:List Int} {k:Nat} (h:v.getLsbD (at0 ws k).toNat=false):zcY v ws (k+1)=zcY v ws k:=by
 rw [zcY,(zfo v _).2 h];simp
theorem zr7 {W:Int} {val:List (BitVec 64)} {acc:List (List (BitVec 64))} (hs0:z1 W acc.length val=0) (hacc : ¬(acc.any fun r=>decide (zdL W r≠0))=true) {y:List (BitVec 64)} (hy:y∈acc) (hc:zbZ y (zR y)=false):zea W val acc=(⟨0,[],[],[]⟩,12):=by
 rw [zea,if_neg (not_not_intro hs0),if_neg hacc,if_pos (List.any_eq_true.2 ⟨y,hy,by simpa using hc⟩)]
set_option maxHeartbeats 8000000 in
theorem zyr (W:Int) (val:List (BitVec 64)) (acc:List (List (BitVec 64))):Fn Tryz.prog T zf7 [.d (.int .i64 W),.d (dU val),.d (dUU acc)] [] (.d (dPI (zea W val acc))) []:=by
 refine zd zw zl4 (by show 3≤108;decide) ?_
 (repeat' ((conv=>whnf);first|refine vA ?_|(refine vD ?_ ?_<;>intro hc<;>try simp only [vL] at hc)|refine vJ fun hg=>?_|refine vT ?_|refine yD (ziM _ _ _) ⟨⟨rfl,rfl⟩,⟨rfl,rfl⟩,⟨rfl,rfl⟩,rfl⟩ rfl ?_));all_goals try conv=>whnf
 ·rw [zea,if_pos hc,show (acc.length:Int)=((acc.map dU).length:Int) by simp];rfl
 have hs0:=‹z1 W acc.length val=0›
 obtain ⟨hw1,hw2,hv8,hn4,-⟩:=zh0 hs0
 refine zg (fun (k:Nat)=>[(0,.d (.int .i64 (W))),(1,.d (dU val)),(2,.d (dUU acc)),(6,.ptr 0 0),(9,.d (.int .i64 ((k:Int))))]) (fun (k:Nat)=>[(0,some zeA)]) 1 (fun (k:Nat)=>k≤acc.length ∧ ∀ r,r∈acc.take k→zdL W r=0) (fun (k:Nat)=>acc.length - k) (0) [(0,0)] [] (⟨by simp,by simp⟩) (by (refine ⟨rfl,rfl,rfl,?_,?_⟩;repeat' first|exact trivial|exact rfl|refine And.intro ?_ ?_|refine ⟨_,rfl,?_⟩|decide)) ?_
 rintro k ⟨hk,hI⟩
 (repeat' ((conv=>whnf);first|refine vA ?_|((first|refine vD ?_ ?_|refine vF ?_ ?_)<;>intro hc<;>try simp only [vL] at hc)|refine vJ fun hg=>?_|refine vT ?_|(refine vQ ?_ fun x hx=>?_;·omega)|((first|refine vO ?_ ?_|refine vP ?_ ?_);·first|omega|(simp only [vM] at *;omega))|refine yD (ziL _ _) ⟨⟨rfl,rfl⟩,⟨rfl,rfl⟩,rfl⟩ rfl ?_));all_goals try conv=>whnf
 ·rw [zea,if_neg (not_not_intro hs0),if_pos (List.any_eq_true.2 ⟨_,List.mem_of_getElem? hx,decide_eq_true ‹_≠(0:Int)›⟩)];rfl
 ·exact ⟨k+1,[(0,0)],[],⟨by (omega),fun r hr=>by
   rw [za9 hx] at hr
   rcases List.mem_append.1 hr with h|h
   ·exact hI r h
   ·simp at h;subst h;assumption⟩,by (omega),by (refine ⟨rfl,rfl,rfl,?_,?_⟩;repeat' first|exact trivial|exact rfl|refine And.intro ?_ ?_|refine ⟨_,rfl,?_⟩|decide)⟩
 have hr0 : ∀ r∈acc,zdL W r=0:=fun r hr=>hI r (by rw [List.take_of_length_le (by omega)];exact hr)
 have hacc : ¬(acc.any fun r=>decide (zdL W r≠0))=true:=fun h=>by
  obtain ⟨r,h1,h2⟩:=List.any_eq_true.1 h
  exact of_decide_eq_true h2 (hr0 r h1)
 refine zg (fun ((k,xs,ys):Nat×List D×List D)=>[(0,.d (.int .i64 (W))),(2,.d (dUU acc)),(6,.ptr 0 0),(10,.ptr 1 0),(11,.d (.int .i64 ((k:Int))))]) (fun ((k,xs,ys):Nat×List D×List D)=>[(0,some zeA),(1,some (.box [.d (.int .i64 W),.own 2,.own 3,.own 4])),(2,some (.row 1 (val.map D.u64))),(3,some (.row 1 xs)),(4,some (.row 1 ys))]) 5 (fun ((k,xs,ys):Nat×List D×List D)=>k≤acc.length∧xs=(acc.take k).map cD∧ys=(acc.take k).map rD ∧ ∀ r,r∈acc.take k→zbZ r (zR r)=true) (fun ((k,xs,ys):Nat×List D×List D)=>acc.length - k) ((0,[],[])) [(0,0),(1,3),(2,2)]   [3,4] (⟨by simp,rfl,rfl,by simp⟩) (by (refine ⟨rfl,rfl,rfl,?_,?_⟩;repeat' first|exact trivial|exact rfl|exact ⟨_,rfl⟩|refine And.intro ?_ ?_|refine ⟨_,rfl,?_⟩|decide)) ?_
 rintro ⟨k,_,_⟩ ⟨hk,rfl,rfl,hI⟩
 (repeat' ((conv=>whnf);first|refine vA ?_|(refine vF ?_ ?_<;>intro hc<;>try simp only [vL] at hc)|refine vJ fun hg=>?_|refine vT ?_|(refine vQ ?_ fun x hx=>?_;·omega)|fail));all_goals try conv=>whnf
 ·obtain ⟨y,hy⟩ : ∃ y,y=x:=⟨_,rfl⟩
  subst hy
  have hrm:=List.mem_of_getElem? hx
  obtain ⟨hrl,hrc⟩:=zpt (hr0 y hrm)
  (repeat' ((conv=>whnf);first|refine vE ?_|(refine vI ?_ ?_<;>intro hc)|refine vT ?_|refine yD (zwU y hrc) ⟨⟨rfl,rfl⟩,⟨rfl,rfl⟩,rfl⟩ rfl ?_|refine yD (zwV y hrc) ⟨⟨rfl,rfl⟩,⟨rfl,rfl⟩,rfl⟩ rfl ?_));all_goals try conv=>whnf
  ·have h2:=za2.1 ‹zci y 2=true›
   have h4:=za2.1 ‹zci y 4=true›
   (repeat' ((conv=>whnf);first|refine vA ?_|refine vE ?_|(refine vI ?_ ?_<;>intro hc)|refine vT ?_|refine yD (zw4 y hrc ‹_› ‹_›) ⟨⟨rfl,rfl⟩,rfl⟩ rfl ?_|refine yN (zlI y hrc) ⟨⟨rfl,rfl⟩,rfl⟩ ?_));all_goals try conv=>whnf
   ·have hP:=zvO hrc ‹zbZ y (zR y)=true›
    have hol:(orR y (zR y)).length=y.length:=by simp [orR]
    refine zg (fun ((w,cs,rs):Nat×List D×List D)=>[(0,.d (.int .i64 (W))),(2,.d (dUU acc)),(6,.ptr 0 0),(10,.ptr 1 0),(11,.d (.int .i64 ((k:Int)))),(12,.d (dU y)),(13,.d (dU (orR y (zR y)))),(15,.own 5),(16,.own 6),(17,.d (.int .i64 ((w:Int))))]) (fun ((w,cs,rs):Nat×List D×List D)=>[(0,some zeA),(1,some (.box [.d (.int .i64 W),.own 2,.own 3,.own 4])),(2,some (.row 1 (val.map D.u64))),(3,some (.row 1 ((acc.take k).map cD))),(4,some (.row 1 ((acc.take k).map rD))),(5,some (.row 1 cs)),(6,some (.row 1 rs))]) 7 (fun ((w,cs,rs):Nat×List D×List D)=>w≤W.toNat∧cs=(List.range w).map (fun u=>D.int .i64 (zzO y u))∧rs=(List.range w).map (fun u=>D.int .i64 (rk y u))) (fun ((w,cs,rs):Nat×List D×List D)=>W.toNat - w) ((0,[],[])) [(0,0),(1,1),(2,2),(3,3),(4,4)]   [5,6] (⟨by simp,rfl,rfl⟩) (by (refine ⟨rfl,rfl,rfl,?_,?_⟩;repeat' first|exact trivial|exact rfl|exact ⟨_,rfl⟩|refine And.intro ?_ ?_|refine ⟨_,rfl,?_⟩|decide)) ?_
    rintro ⟨w,_,_⟩ ⟨hw,rfl,rfl⟩
    (repeat' ((conv=>whnf);first|refine vA ?_|(refine vF ?_ ?_<;>intro hc<;>try simp only [vL] at hc)|refine vT ?_|(refine vQ ?_ fun x hx=>?_;·omega)|(refine vP ?_ ?_;·omega)|fail));all_goals try conv=>whnf
    ·have hwy:w < y.length:=by omega
     have hxo:(orR y (zR y))[w]? = some (uAt y w|||uAt (zR y) w):=by rw [orR,List.getElem?_map,List.getElem?_range hwy];rfl
     have hne:uAt y w|||uAt (zR y) w≠0#64:=fun e=>by
      have h:=zmL hrc (w:=w) (v:=w)
      rw [zO hxo,e,hP.cmp_refl hwy] at h
      simp at h
     have hrk:rk y w≤y.length:=by
      have h1:rk y w≤(zQ y w y.length).length:=zoN (zhO _) fun x hx=>zcP.1 hx
      have:=zjs (r:=y) (w:=w) (n:=y.length)
      omega
     obtain rfl:uAt y w|||uAt (zR y) w=x:=Option.some.inj (hxo.symm.trans hx)
     refine zX.data (zvi _ hne) (by (repeat refine ⟨⟨rfl,rfl⟩,?_⟩);rfl) rfl ?_
     (repeat' ((conv=>whnf);first|refine vT ?_|((first|refine vO ?_ ?_|refine vP ?_ ?_);·first|omega|(simp only [vM] at *;omega))|refine yD (zwY y hP (rk y w) w W hwy rfl (by omega) (by omega)) ⟨⟨rfl,rfl⟩,⟨rfl,rfl⟩,⟨rfl,rfl⟩,rfl⟩ rfl ?_));all_goals try conv=>whnf
     refine ⟨(w+1,_,_),[(0,0),(1,1),(2,2),(3,3),(4,4),(5,8),(6,10)],[],?_,?_,by (refine ⟨rfl,rfl,rfl,?_,?_⟩;repeat' first|exact trivial|exact rfl|refine And.intro ?_ ?_|refine ⟨_,rfl,?_⟩|decide)⟩
     ·refine ⟨by (omega),?_,?_⟩
      ·rw [List.range_succ,List.map_append];rfl
      ·rw [List.range_succ,List.map_append];rfl
     ·((simp only [vM] at *;omega))
    ·have hkt:(acc.take k).length=k:=List.length_take_of_le hk
     refine zhL.mk (by simp only [List.length_map,hkt,zer,List.length_set,List.length_replicate];omega) ?_
     (repeat' ((conv=>whnf);first|refine vT ?_|((first|refine vO ?_ ?_|refine vP ?_ ?_);·first|omega|(simp only [vM] at *;omega))|fail));all_goals try conv=>whnf
     obtain rfl:w=W.toNat:=by omega
     have hcn:=‹zbZ y (zR y)=true›
     refine ⟨(k+1,_,_),[(0,0),(1,1),(2,2),(3,8),(4,10)],[],?_,?_,by (refine ⟨rfl,rfl,rfl,?_,?_⟩;repeat' first|exact trivial|exact rfl|refine And.intro ?_ ?_|refine ⟨_,rfl,?_⟩|decide)⟩
     ·refine ⟨by (omega),?_,?_,fun r hr=>?_⟩
      ·rw [za9 hx,List.map_append]
       refine congrArg (_++[D.arr 1 ·]) ?_
       rw [zjL,List.map_map,show W.toNat=y.length by omega];rfl
      ·rw [za9 hx,List.map_append]
       refine congrArg (_++[D.arr 1 ·]) ?_
       rw [zkm,List.map_map,show W.toNat=y.length by omega];rfl
      ·rw [za9 hx] at hr
       rcases List.mem_append.1 hr with h|h
       ·exact hI r h
       ·simp at h;subst h;exact hcn
     ·((simp only [vM] at *;omega))
   ·rw [zr7 hs0 hacc hrm ‹_›];rfl
  ·rw [zr7 hs0 hacc hrm (zhb.2 fun h=>zdw.1 ‹zci y 4=false› h.2.1)];rfl
  ·rw [zr7 hs0 hacc hrm (zhb.2 fun h=>zdw.1 ‹zci y 2=false› h.1)];rfl
 ·have hke:acc.take k=acc:=List.take_of_length_le (by omega)
  rw [zea,if_neg (not_not_intro hs0),if_neg hacc,if_neg (fun h=>by
   obtain ⟨r,h1,h2⟩:=List.any_eq_true.1 h
   rw [hI r (by rw [hke];exact h1)] at h2;cases h2)]
  rw [hke]
  show some (D.tup [D.agg [.int .i64 W,dU val,.arr 1 (acc.map cD),.arr 1 (acc.map rD)],.int .i64 0])=some (D.tup [D.agg [.int .i64 W,dU val,.arr 1 ((acc.map zjL).map dI),.arr 1 ((acc.map zkm).map dI)],.int .i64 0])
  rw [List.map_map,List.map_map];rfl
end Go.Ab
namespace Go.Ab
open Go Go.Proofs
theorem zmf {v:BitVec 64} {ws:List Int} : ∀ (n i:Nat),(zcY v ws n).getLsbD i=(decide (i < 64)&&decide (i < n)&&v.getLsbD (at0 ws i).toNat)
 | 0,i=>by simp [zcY]
 | n+1,i=>by
  have hone : ∀ j,((v >>> (at0 ws n).toNat)&&&1#64).getLsbD j=(decide (j=0)&&v.getLsbD (at0 ws n).toNat):=fun j=>by
   rw [BitVec.getLsbD_and,BitVec.getLsbD_ushiftRight]
   by_cases h:j=0
   ·subst h;simp
   ·simp [h]
  rw [zcY,BitVec.getLsbD_or,zmf n i,BitVec.getLsbD_shiftLeft,hone]
  by_cases h64:i < 64
  ·by_cases h1:i=n
   ·subst h1;simp [h64]
   ·by_cases h2:i < n
    ·simp [h64,h2,show i < n+1 by omega]
    ·have:i - n≠0:=by omega
     simp [h64,h2,show ¬ i < n+1 by omega,this]
  ·simp [h64]
section
variable {p:PM} {ws:List Int} {a:Nat}
end
end Go.Ab
