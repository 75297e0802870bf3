/- A part of the proofs of this seat: functions and their contracts. -/
import Derived.Test.YtmnbcipineblbaaGreatDoorMD
import Derived.Shelf.Strconv.Itoa0
import Derived.Sort.WalkA14
import Derived.Test.YtmnbcipineblbaaGreatDoorProg
import Derived.WalkKit
import Derived.Maps.OwnRows
import Derived.Maps.RangeRun
import Derived.Sort.LotD4
import Derived.Shelf.Sort.Plain
import Derived.Sort.OwnSortedInts
import Derived.Sort.AssemblyPlain
import Derived.Deep.RegionLaw
import Derived.Deep.AppendLies
import Derived.Deep.DrawnRows
set_option linter.unusedVariables false
set_option linter.unusedSimpArgs false
set_option linter.unusedSectionVars false
namespace Go.Ab
open Go Go.Proofs
set_option maxRecDepth 10000
set_option maxHeartbeats 4000000
set_option maxHeartbeats 40000000
variable {T:Nat→Obj→Prop}
def dA (f:List Nd) (s:FSt):List Int:=(List.range f.length).map fun i=>match s.done.lookup i with
 | some r=>(r:Int)
 | none => -1
abbrev zD (f:List Nd) (s:FSt):List D:=(dA f s).map (D.int .i64)
theorem zCv {f:List Nd} (hL:f.length≤1000) {k:Nat} {n:Nd} (hn:f[k]? = some n) {s:FSt} (hl:s.out.length≤1000) (hd:(dA f s)[k]? = some (-1)) (hux:Fn Tryz.prog T zaa [.d (.int .i64 n.op)] [] (.d (.bool false)) []) (huy:Fn Tryz.prog T zab [.d (.int .i64 n.op)] [] (.d (.bool false)) []) {p:Int} (hp:p=((put (s).out n).1:Int)) :
  Fn Tryz.prog T zA [.d (dF f),.d (.int .i64 (k:Int)),.ptr 0 0] [.box [.own 2,.own 1],.row 1 (zD f s),.row 6 ((s).out.map dNd)] (.d (.int .i64 p)) [some (.box [.own 3,.own 1]),some (.row 1 ((zD f s).set k (.int .i64 p))),none,some (.row 6 ((put (s).out n).2.map dNd))]:=by
 have hkl:k < ((zD f s)).length:=by rw [zD,List.length_map];exact (List.getElem?_eq_some_iff.1 hd).1
 have hk0:k < ((zD f s)).length:=by rw [zD,List.length_map];exact (List.getElem?_eq_some_iff.1 hd).1
 refine zag zw zao (by show 3≤67;decide) _ (fun e env mem n h=>h) ?_
 (repeat' ((conv=>whnf);first|refine vA ?_|refine vH ?_|refine vT ?_|refine vN ‹_› ?_|(refine vP ?_ ?_;·omega)|refine yD hux (by (repeat refine ⟨⟨rfl,rfl⟩,?_⟩);rfl) rfl ?_|refine yD huy (by (repeat refine ⟨⟨rfl,rfl⟩,?_⟩);rfl) rfl ?_));all_goals try conv=>whnf
 refine zN.objsE [0,1,2] (zjT (zD f s) (s).out n hl p hp _ rfl) (by (repeat' first|exact rfl|refine And.intro ?_ ?_|refine ⟨_,rfl,?_⟩)) (by (repeat' first|exact rfl|refine And.intro ?_ ?_|refine ⟨_,rfl,?_⟩)) (by rfl) (by kernel_rfl) (by simp) [(0,some (.box [.own 4,.own 1])),(1,some (.row 1 (zD f s))),(2,none),(4,some (.row 6 ((put (s).out n).2.map dNd)))] rfl ?_
 (repeat' ((conv=>whnf);first|refine vT ?_|(refine vP ?_ ?_;·first|omega|(simp only [vM] at *;omega))|(refine vU ?_ ?_;·kernel_rfl)|fail));all_goals try conv=>whnf
 refine ⟨.int .i64 p,⟨by omega,List.getElem?_set_self hkl⟩,?_⟩
 (repeat' ((conv=>whnf);refine vT ?_));all_goals try conv=>whnf
 refine ⟨trivial,_,[(0,0),(1,1),(3,4)],[],rfl,.inl (by (repeat' exact rfl)),⟨by rfl,by rfl,by rfl,trivial,by (repeat' first|exact trivial|exact rfl|refine And.intro ?_ ?_|refine ⟨_,rfl,?_⟩|exact of_decide_eq_true rfl)⟩,by (repeat' first|exact trivial|exact rfl|refine And.intro ?_ ?_|refine ⟨_,rfl,?_⟩)⟩
theorem zCw {f:List Nd} (hL:f.length≤1000) {k:Nat} {n:Nd} (hn:f[k]? = some n) {s:FSt} (hl:s.out.length≤1000) (hd:(dA f s)[k]? = some (-1)) (hux:Fn Tryz.prog T zaa [.d (.int .i64 n.op)] [] (.d (.bool true)) []) (huy:Fn Tryz.prog T zab [.d (.int .i64 n.op)] [] (.d (.bool false)) []) {r1:Nat} {s1:FSt} (hl1:s1.out.length≤1000) (c1:Fn Tryz.prog T zA [.d (dF f),.d (.int .i64 n.x),.ptr 0 0] [.box [.own 2,.own 1],.row 1 (zD f s),.row 6 ((s).out.map dNd)] (.d (.int .i64 (r1:Int))) [some (.box [.own 3,.own 1]),some (.row 1 (zD f s1)),none,some (.row 6 (s1.out.map dNd))]) (hd1:(dA f s1)[k]? = some (-1)) {p:Int} (hp:p=((put (s1).out ⟨n.op,n.i,n.e,n.g,(r1:Int),n.y⟩).1:Int)) :
  Fn Tryz.prog T zA [.d (dF f),.d (.int .i64 (k:Int)),.ptr 0 0] [.box [.own 2,.own 1],.row 1 (zD f s),.row 6 ((s).out.map dNd)] (.d (.int .i64 p)) [some (.box [.own 3,.own 1]),some (.row 1 ((zD f s1).set k (.int .i64 p))),none,some (.row 6 ((put (s1).out ⟨n.op,n.i,n.e,n.g,(r1:Int),n.y⟩).2.map dNd))]:=by
 have hkl:k < ((zD f s1)).length:=by rw [zD,List.length_map];exact (List.getElem?_eq_some_iff.1 hd1).1
 have hk0:k < ((zD f s)).length:=by rw [zD,List.length_map];exact (List.getElem?_eq_some_iff.1 hd).1
 refine zag zw zao (by show 3≤67;decide) _ (fun e env mem n h=>h) ?_
 (repeat' ((conv=>whnf);first|refine vA ?_|refine vG ?_|refine vH ?_|refine vT ?_|refine vN ‹_› ?_|(refine vP ?_ ?_;·omega)|refine yD hux (by (repeat refine ⟨⟨rfl,rfl⟩,?_⟩);rfl) rfl ?_));all_goals try conv=>whnf
 refine zN.objsE [0,1,2] (c1) (by (repeat' first|exact rfl|refine And.intro ?_ ?_|refine ⟨_,rfl,?_⟩)) (by (repeat' first|exact rfl|refine And.intro ?_ ?_|refine ⟨_,rfl,?_⟩)) (by rfl) (by kernel_rfl) (by simp) [(0,some (.box [.own 4,.own 1])),(1,some (.row 1 (zD f s1))),(2,none),(4,some (.row 6 (s1.out.map dNd)))] rfl ?_
 (repeat' ((conv=>whnf);first|refine vA ?_|refine vH ?_|refine vT ?_|refine yD huy (by (repeat refine ⟨⟨rfl,rfl⟩,?_⟩);rfl) rfl ?_));all_goals try conv=>whnf
 refine zN.objsE [0,1,4] (zjT (zD f s1) (s1).out ⟨n.op,n.i,n.e,n.g,(r1:Int),n.y⟩ hl1 p hp _ rfl) (by (repeat' first|exact rfl|refine And.intro ?_ ?_|refine ⟨_,rfl,?_⟩)) (by (repeat' first|exact rfl|refine And.intro ?_ ?_|refine ⟨_,rfl,?_⟩)) (by rfl) (by kernel_rfl) (by simp) [(0,some (.box [.own 5,.own 1])),(1,some (.row 1 (zD f s1))),(4,none),(5,some (.row 6 ((put (s1).out ⟨n.op,n.i,n.e,n.g,(r1:Int),n.y⟩).2.map dNd)))] rfl ?_
 (repeat' ((conv=>whnf);first|refine vT ?_|(refine vP ?_ ?_;·first|omega|(simp only [vM] at *;omega))|(refine vU ?_ ?_;·kernel_rfl)|fail));all_goals try conv=>whnf
 refine ⟨.int .i64 p,⟨by omega,List.getElem?_set_self hkl⟩,?_⟩
 (repeat' ((conv=>whnf);refine vT ?_));all_goals try conv=>whnf
 refine ⟨trivial,_,[(0,0),(1,1),(3,5)],[],rfl,.inl (by (repeat' exact rfl)),⟨by rfl,by rfl,by rfl,trivial,by (repeat' first|exact trivial|exact rfl|refine And.intro ?_ ?_|refine ⟨_,rfl,?_⟩|exact of_decide_eq_true rfl)⟩,by (repeat' first|exact trivial|exact rfl|refine And.intro ?_ ?_|refine ⟨_,rfl,?_⟩)⟩
theorem zCx {f:List Nd} (hL:f.length≤1000) {k:Nat} {n:Nd} (hn:f[k]? = some n) {s:FSt} (hl:s.out.length≤1000) (hd:(dA f s)[k]? = some (-1)) (hux:Fn Tryz.prog T zaa [.d (.int .i64 n.op)] [] (.d (.bool true)) []) (huy:Fn Tryz.prog T zab [.d (.int .i64 n.op)] [] (.d (.bool true)) []) {r1:Nat} {s1:FSt} (hl1:s1.out.length≤1000) (c1:Fn Tryz.prog T zA [.d (dF f),.d (.int .i64 n.x),.ptr 0 0] [.box [.own 2,.own 1],.row 1 (zD f s),.row 6 ((s).out.map dNd)] (.d (.int .i64 (r1:Int))) [some (.box [.own 3,.own 1]),some (.row 1 (zD f s1)),none,some (.row 6 (s1.out.map dNd))]) (hd1:(dA f s1)[k]? = some (-1)) {r2:Nat} {s2:FSt} (hl2:s2.out.length≤1000) (c2:Fn Tryz.prog T zA [.d (dF f),.d (.int .i64 n.y),.ptr 0 0] [.box [.own 2,.own 1],.row 1 (zD f s1),.row 6 ((s1).out.map dNd)] (.d (.int .i64 (r2:Int))) [some (.box [.own 3,.own 1]),some (.row 1 (zD f s2)),none,some (.row 6 (s2.out.map dNd))]) (hd2:(dA f s2)[k]? = some (-1)) {p:Int} (hp:p=((put (s2).out ⟨n.op,n.i,n.e,n.g,(r1:Int),(r2:Int)⟩).1:Int)) :
  Fn Tryz.prog T zA [.d (dF f),.d (.int .i64 (k:Int)),.ptr 0 0] [.box [.own 2,.own 1],.row 1 (zD f s),.row 6 ((s).out.map dNd)] (.d (.int .i64 p)) [some (.box [.own 3,.own 1]),some (.row 1 ((zD f s2).set k (.int .i64 p))),none,some (.row 6 ((put (s2).out ⟨n.op,n.i,n.e,n.g,(r1:Int),(r2:Int)⟩).2.map dNd))]:=by
 have hkl:k < ((zD f s2)).length:=by rw [zD,List.length_map];exact (List.getElem?_eq_some_iff.1 hd2).1
 have hk0:k < ((zD f s)).length:=by rw [zD,List.length_map];exact (List.getElem?_eq_some_iff.1 hd).1
 refine zag zw zao (by show 3≤67;decide) _ (fun e env mem n h=>h) ?_
 (repeat' ((conv=>whnf);first|refine vA ?_|refine vG ?_|refine vH ?_|refine vT ?_|refine vN ‹_› ?_|(refine vP ?_ ?_;·omega)|refine yD hux (by (repeat refine ⟨⟨rfl,rfl⟩,?_⟩);rfl) rfl ?_));all_goals try conv=>whnf
 refine zN.objsE [0,1,2] (c1) (by (repeat' first|exact rfl|refine And.intro ?_ ?_|refine ⟨_,rfl,?_⟩)) (by (repeat' first|exact rfl|refine And.intro ?_ ?_|refine ⟨_,rfl,?_⟩)) (by rfl) (by kernel_rfl) (by simp) [(0,some (.box [.own 4,.own 1])),(1,some (.row 1 (zD f s1))),(2,none),(4,some (.row 6 (s1.out.map dNd)))] rfl ?_
 (repeat' ((conv=>whnf);first|refine vA ?_|refine vG ?_|refine vT ?_|refine vN ‹_› ?_|refine yD huy (by (repeat refine ⟨⟨rfl,rfl⟩,?_⟩);rfl) rfl ?_));all_goals try conv=>whnf
 refine zN.objsE [0,1,4] (c2) (by (repeat' first|exact rfl|refine And.intro ?_ ?_|refine ⟨_,rfl,?_⟩)) (by (repeat' first|exact rfl|refine And.intro ?_ ?_|refine ⟨_,rfl,?_⟩)) (by rfl) (by kernel_rfl) (by simp) [(0,some (.box [.own 5,.own 1])),(1,some (.row 1 (zD f s2))),(4,none),(5,some (.row 6 (s2.out.map dNd)))] rfl ?_
 (repeat' ((conv=>whnf);first|refine vA ?_|refine vT ?_));all_goals try conv=>whnf
 refine zN.objsE [0,1,5] (zjT (zD f s2) (s2).out ⟨n.op,n.i,n.e,n.g,(r1:Int),(r2:Int)⟩ hl2 p hp _ rfl) (by (repeat' first|exact rfl|refine And.intro ?_ ?_|refine ⟨_,rfl,?_⟩)) (by (repeat' first|exact rfl|refine And.intro ?_ ?_|refine ⟨_,rfl,?_⟩)) (by rfl) (by kernel_rfl) (by simp) [(0,some (.box [.own 6,.own 1])),(1,some (.row 1 (zD f s2))),(5,none),(6,some (.row 6 ((put (s2).out ⟨n.op,n.i,n.e,n.g,(r1:Int),(r2:Int)⟩).2.map dNd)))] rfl ?_
 (repeat' ((conv=>whnf);first|refine vT ?_|(refine vP ?_ ?_;·first|omega|(simp only [vM] at *;omega))|(refine vU ?_ ?_;·kernel_rfl)|fail));all_goals try conv=>whnf
 refine ⟨.int .i64 p,⟨by omega,List.getElem?_set_self hkl⟩,?_⟩
 (repeat' ((conv=>whnf);refine vT ?_));all_goals try conv=>whnf
 refine ⟨trivial,_,[(0,0),(1,1),(3,6)],[],rfl,.inl (by (repeat' exact rfl)),⟨by rfl,by rfl,by rfl,trivial,by (repeat' first|exact trivial|exact rfl|refine And.intro ?_ ?_|refine ⟨_,rfl,?_⟩|exact of_decide_eq_true rfl)⟩,by (repeat' first|exact trivial|exact rfl|refine And.intro ?_ ?_|refine ⟨_,rfl,?_⟩)⟩
theorem zCy {f:List Nd} (hL:f.length≤1000) {k:Nat} {n:Nd} (hn:f[k]? = some n) (hd:(dA f ⟨[],[]⟩)[k]? = some (-1)) (hux:Fn Tryz.prog T zaa [.d (.int .i64 n.op)] [] (.d (.bool false)) []) (huy:Fn Tryz.prog T zab [.d (.int .i64 n.op)] [] (.d (.bool false)) []) :
  Fn Tryz.prog T zA [.d (dF f),.d (.int .i64 (k:Int)),.ptr 0 0] [.box [.nils 6,.own 1],.row 1 (zD f ⟨[],[]⟩)] (.d (.int .i64 (0:Int))) [some (.box [.own 2,.own 1]),some (.row 1 ((zD f ⟨[],[]⟩).set k (.int .i64 (0:Int)))),some (.row 6 [dNd n])]:=by
 have hkl:k < ((zD f ⟨[],[]⟩)).length:=by rw [zD,List.length_map];exact (List.getElem?_eq_some_iff.1 hd).1
 have hk0:k < ((zD f ⟨[],[]⟩)).length:=by rw [zD,List.length_map];exact (List.getElem?_eq_some_iff.1 hd).1
 refine zag zw zao (by show 3≤67;decide) _ (fun e env mem n h=>h) ?_
 (repeat' ((conv=>whnf);first|refine vA ?_|refine vH ?_|refine vT ?_|refine vN ‹_› ?_|(refine vP ?_ ?_;·omega)|refine yD hux (by (repeat refine ⟨⟨rfl,rfl⟩,?_⟩);rfl) rfl ?_|refine yD huy (by (repeat refine ⟨⟨rfl,rfl⟩,?_⟩);rfl) rfl ?_));all_goals try conv=>whnf
 refine zN.objsE [0,1] (zz1 (zD f ⟨[],[]⟩) n) (by (repeat' first|exact rfl|refine And.intro ?_ ?_|refine ⟨_,rfl,?_⟩)) (by (repeat' first|exact rfl|refine And.intro ?_ ?_|refine ⟨_,rfl,?_⟩)) (by rfl) (by kernel_rfl) (by simp) [(0,some (.box [.own 3,.own 1])),(1,some (.row 1 (zD f ⟨[],[]⟩))),(3,some (.row 6 [dNd n]))] rfl ?_
 (repeat' ((conv=>whnf);first|refine vT ?_|(refine vP ?_ ?_;·first|omega|(simp only [vM] at *;omega))|(refine vU ?_ ?_;·kernel_rfl)|fail));all_goals try conv=>whnf
 refine ⟨.int .i64 (0:Int),⟨by omega,List.getElem?_set_self hkl⟩,?_⟩
 (repeat' ((conv=>whnf);refine vT ?_));all_goals try conv=>whnf
 refine ⟨trivial,_,[(0,0),(1,1),(2,3)],[],rfl,.inl (by (repeat' exact rfl)),⟨by rfl,by rfl,by rfl,trivial,by (repeat' first|exact trivial|exact rfl|refine And.intro ?_ ?_|refine ⟨_,rfl,?_⟩|exact of_decide_eq_true rfl)⟩,by (repeat' first|exact trivial|exact rfl|refine And.intro ?_ ?_|refine ⟨_,rfl,?_⟩)⟩
theorem zCz {f:List Nd} (hL:f.length≤1000) {k:Nat} {n:Nd} (hn:f[k]? = some n) (hd:(dA f ⟨[],[]⟩)[k]? = some (-1)) (hux:Fn Tryz.prog T zaa [.d (.int .i64 n.op)] [] (.d (.bool true)) []) (huy:Fn Tryz.prog T zab [.d (.int .i64 n.op)] [] (.d (.bool false)) []) {r1:Nat} {s1:FSt} (hl1:s1.out.length≤1000) (c1:Fn Tryz.prog T zA [.d (dF f),.d (.int .i64 n.x),.ptr 0 0] [.box [.nils 6,.own 1],.row 1 (zD f ⟨[],[]⟩)] (.d (.int .i64 (r1:Int))) [some (.box [.own 2,.own 1]),some (.row 1 (zD f s1)),some (.row 6 (s1.out.map dNd))]) (hd1:(dA f s1)[k]? = some (-1)) {p:Int} (hp:p=((put (s1).out ⟨n.op,n.i,n.e,n.g,(r1:Int),n.y⟩).1:Int)) :
  Fn Tryz.prog T zA [.d (dF f),.d (.int .i64 (k:Int)),.ptr 0 0] [.box [.nils 6,.own 1],.row 1 (zD f ⟨[],[]⟩)] (.d (.int .i64 p)) [some (.box [.own 2,.own 1]),some (.row 1 ((zD f s1).set k (.int .i64 p))),some (.row 6 ((put (s1).out ⟨n.op,n.i,n.e,n.g,(r1:Int),n.y⟩).2.map dNd))]:=by
 have hkl:k < ((zD f s1)).length:=by rw [zD,List.length_map];exact (List.getElem?_eq_some_iff.1 hd1).1
 have hk0:k < ((zD f ⟨[],[]⟩)).length:=by rw [zD,List.length_map];exact (List.getElem?_eq_some_iff.1 hd).1
 refine zag zw zao (by show 3≤67;decide) _ (fun e env mem n h=>h) ?_
 (repeat' ((conv=>whnf);first|refine vA ?_|refine vG ?_|refine vH ?_|refine vT ?_|refine vN ‹_› ?_|(refine vP ?_ ?_;·omega)|refine yD hux (by (repeat refine ⟨⟨rfl,rfl⟩,?_⟩);rfl) rfl ?_));all_goals try conv=>whnf
 refine zN.objsE [0,1] (c1) (by (repeat' first|exact rfl|refine And.intro ?_ ?_|refine ⟨_,rfl,?_⟩)) (by (repeat' first|exact rfl|refine And.intro ?_ ?_|refine ⟨_,rfl,?_⟩)) (by rfl) (by kernel_rfl) (by simp) [(0,some (.box [.own 3,.own 1])),(1,some (.row 1 (zD f s1))),(3,some (.row 6 (s1.out.map dNd)))] rfl ?_
 (repeat' ((conv=>whnf);first|refine vA ?_|refine vH ?_|refine vT ?_|refine yD huy (by (repeat refine ⟨⟨rfl,rfl⟩,?_⟩);rfl) rfl ?_));all_goals try conv=>whnf
 refine zN.objsE [0,1,3] (zjT (zD f s1) (s1).out ⟨n.op,n.i,n.e,n.g,(r1:Int),n.y⟩ hl1 p hp _ rfl) (by (repeat' first|exact rfl|refine And.intro ?_ ?_|refine ⟨_,rfl,?_⟩)) (by (repeat' first|exact rfl|refine And.intro ?_ ?_|refine ⟨_,rfl,?_⟩)) (by rfl) (by kernel_rfl) (by simp) [(0,some (.box [.own 4,.own 1])),(1,some (.row 1 (zD f s1))),(3,none),(4,some (.row 6 ((put (s1).out ⟨n.op,n.i,n.e,n.g,(r1:Int),n.y⟩).2.map dNd)))] rfl ?_
 (repeat' ((conv=>whnf);first|refine vT ?_|(refine vP ?_ ?_;·first|omega|(simp only [vM] at *;omega))|(refine vU ?_ ?_;·kernel_rfl)|fail));all_goals try conv=>whnf
 refine ⟨.int .i64 p,⟨by omega,List.getElem?_set_self hkl⟩,?_⟩
 (repeat' ((conv=>whnf);refine vT ?_));all_goals try conv=>whnf
 refine ⟨trivial,_,[(0,0),(1,1),(2,4)],[],rfl,.inl (by (repeat' exact rfl)),⟨by rfl,by rfl,by rfl,trivial,by (repeat' first|exact trivial|exact rfl|refine And.intro ?_ ?_|refine ⟨_,rfl,?_⟩|exact of_decide_eq_true rfl)⟩,by (repeat' first|exact trivial|exact rfl|refine And.intro ?_ ?_|refine ⟨_,rfl,?_⟩)⟩
theorem zCA {f:List Nd} (hL:f.length≤1000) {k:Nat} {n:Nd} (hn:f[k]? = some n) (hd:(dA f ⟨[],[]⟩)[k]? = some (-1)) (hux:Fn Tryz.prog T zaa [.d (.int .i64 n.op)] [] (.d (.bool true)) []) (huy:Fn Tryz.prog T zab [.d (.int .i64 n.op)] [] (.d (.bool true)) []) {r1:Nat} {s1:FSt} (hl1:s1.out.length≤1000) (c1:Fn Tryz.prog T zA [.d (dF f),.d (.int .i64 n.x),.ptr 0 0] [.box [.nils 6,.own 1],.row 1 (zD f ⟨[],[]⟩)] (.d (.int .i64 (r1:Int))) [some (.box [.own 2,.own 1]),some (.row 1 (zD f s1)),some (.row 6 (s1.out.map dNd))]) (hd1:(dA f s1)[k]? = some (-1)) {r2:Nat} {s2:FSt} (hl2:s2.out.length≤1000) (c2:Fn Tryz.prog T zA [.d (dF f),.d (.int .i64 n.y),.ptr 0 0] [.box [.own 2,.own 1],.row 1 (zD f s1),.row 6 ((s1).out.map dNd)] (.d (.int .i64 (r2:Int))) [some (.box [.own 3,.own 1]),some (.row 1 (zD f s2)),none,some (.row 6 (s2.out.map dNd))]) (hd2:(dA f s2)[k]? = some (-1)) {p:Int} (hp:p=((put (s2).out ⟨n.op,n.i,n.e,n.g,(r1:Int),(r2:Int)⟩).1:Int)) :
  Fn Tryz.prog T zA [.d (dF f),.d (.int .i64 (k:Int)),.ptr 0 0] [.box [.nils 6,.own 1],.row 1 (zD f ⟨[],[]⟩)] (.d (.int .i64 p)) [some (.box [.own 2,.own 1]),some (.row 1 ((zD f s2).set k (.int .i64 p))),some (.row 6 ((put (s2).out ⟨n.op,n.i,n.e,n.g,(r1:Int),(r2:Int)⟩).2.map dNd))]:=by
 have hkl:k < ((zD f s2)).length:=by rw [zD,List.length_map];exact (List.getElem?_eq_some_iff.1 hd2).1
 have hk0:k < ((zD f ⟨[],[]⟩)).length:=by rw [zD,List.length_map];exact (List.getElem?_eq_some_iff.1 hd).1
 refine zag zw zao (by show 3≤67;decide) _ (fun e env mem n h=>h) ?_
 (repeat' ((conv=>whnf);first|refine vA ?_|refine vG ?_|refine vH ?_|refine vT ?_|refine vN ‹_› ?_|(refine vP ?_ ?_;·omega)|refine yD hux (by (repeat refine ⟨⟨rfl,rfl⟩,?_⟩);rfl) rfl ?_));all_goals try conv=>whnf
 refine zN.objsE [0,1] (c1) (by (repeat' first|exact rfl|refine And.intro ?_ ?_|refine ⟨_,rfl,?_⟩)) (by (repeat' first|exact rfl|refine And.intro ?_ ?_|refine ⟨_,rfl,?_⟩)) (by rfl) (by kernel_rfl) (by simp) [(0,some (.box [.own 3,.own 1])),(1,some (.row 1 (zD f s1))),(3,some (.row 6 (s1.out.map dNd)))] rfl ?_
 (repeat' ((conv=>whnf);first|refine vA ?_|refine vG ?_|refine vT ?_|refine vN ‹_› ?_|refine yD huy (by (repeat refine ⟨⟨rfl,rfl⟩,?_⟩);rfl) rfl ?_));all_goals try conv=>whnf
 refine zN.objsE [0,1,3] (c2) (by (repeat' first|exact rfl|refine And.intro ?_ ?_|refine ⟨_,rfl,?_⟩)) (by (repeat' first|exact rfl|refine And.intro ?_ ?_|refine ⟨_,rfl,?_⟩)) (by rfl) (by kernel_rfl) (by simp) [(0,some (.box [.own 4,.own 1])),(1,some (.row 1 (zD f s2))),(3,none),(4,some (.row 6 (s2.out.map dNd)))] rfl ?_
 (repeat' ((conv=>whnf);first|refine vA ?_|refine vT ?_));all_goals try conv=>whnf
 refine zN.objsE [0,1,4] (zjT (zD f s2) (s2).out ⟨n.op,n.i,n.e,n.g,(r1:Int),(r2:Int)⟩ hl2 p hp _ rfl) (by (repeat' first|exact rfl|refine And.intro ?_ ?_|refine ⟨_,rfl,?_⟩)) (by (repeat' first|exact rfl|refine And.intro ?_ ?_|refine ⟨_,rfl,?_⟩)) (by rfl) (by kernel_rfl) (by simp) [(0,some (.box [.own 5,.own 1])),(1,some (.row 1 (zD f s2))),(4,none),(5,some (.row 6 ((put (s2).out ⟨n.op,n.i,n.e,n.g,(r1:Int),(r2:Int)⟩).2.map dNd)))] rfl ?_
 (repeat' ((conv=>whnf);first|refine vT ?_|(refine vP ?_ ?_;·first|omega|(simp only [vM] at *;omega))|(refine vU ?_ ?_;·kernel_rfl)|fail));all_goals try conv=>whnf
 refine ⟨.int .i64 p,⟨by omega,List.getElem?_set_self hkl⟩,?_⟩
 (repeat' ((conv=>whnf);refine vT ?_));all_goals try conv=>whnf
 refine ⟨trivial,_,[(0,0),(1,1),(2,5)],[],rfl,.inl (by (repeat' exact rfl)),⟨by rfl,by rfl,by rfl,trivial,by (repeat' first|exact trivial|exact rfl|refine And.intro ?_ ?_|refine ⟨_,rfl,?_⟩|exact of_decide_eq_true rfl)⟩,by (repeat' first|exact trivial|exact rfl|refine And.intro ?_ ?_|refine ⟨_,rfl,?_⟩)⟩
end Go.Ab
namespace Go.Ab
open Go Go.Proofs
set_option maxRecDepth 10000
set_option maxHeartbeats 4000000
set_option maxHeartbeats 40000000
variable {T:Nat→Obj→Prop}
abbrev rUp (f:List Nd) (s:FSt):List (Option Ob):=[some (.box [.own 3,.own 1]),some (.row 1 (zD f s)),none,some (.row 6 (s.out.map dNd))]
abbrev zxi (f:List Nd) (s:FSt):List (Option Ob):=[some (.box [.own 2,.own 1]),some (.row 1 (zD f s)),some (.row 6 (s.out.map dNd))]
theorem zct {f:List Nd} {s:FSt} {k:Nat} (hk:k < f.length) (h:s.done.lookup k=none):(dA f s)[k]? = some (-1):=by
 simp [dA,hk,h]
theorem zBk {f:List Nd} {s:FSt} {k r:Nat} (hk:k < f.length) (h:s.done.lookup k=some r):(dA f s)[k]? = some (r:Int):=by
 simp [dA,hk,h]
theorem zgo {f:List Nd} {d:List (Nat×Nat)} {o o':List Nd} {k p:Nat} (hd:d.lookup k=none):zD f ⟨o',d++[(k,p)]⟩=(zD f ⟨o,d⟩).set k (.int .i64 (p:Int)):=by
 show (dA f _).map _=((dA f _).map _).set _ _
 rw [← List.map_set]
 congr 1
 refine List.ext_getElem? fun i=>?_
 rw [List.getElem?_set]
 simp only [dA,List.getElem?_map,List.length_map,List.length_range,List.lookup_append]
 by_cases hi:i < f.length
 ·rw [List.getElem?_range hi]
  by_cases hik:k=i
  ·subst hik
   simp [hd,hi,List.lookup]
  ·simp only [if_neg hik,Option.map_some]
   have:([(k,p)]:List (Nat×Nat)).lookup i=none:=by
    have:(i==k)=false:=by simpa using fun e:i=k=>hik e.symm
    simp [List.lookup,this]
   rw [this,Option.or_none]
 ·rw [show (List.range f.length)[i]? = none by simp;omega]
  split
  ·rw [if_neg (by omega)];rfl
  ·rfl
theorem zBq {f:List Nd} (hf:zax f) (hL:f.length≤1000) : ∀ (m k:Nat) (i:Int) (s:FSt),k < m→i=k→k < f.length→zkw f s →
  Fn Tryz.prog T zA [.d (dF f),.d (.int .i64 i),.ptr 0 0] [.box [.own 2,.own 1],.row 1 (zD f s),.row 6 (s.out.map dNd)] (.d (.int .i64 ((fin f (k+1) k s).1:Int))) (rUp f (fin f (k+1) k s).2):=by
 intro m
 induction m with
 | zero=>intro k i s h;omega
 | succ m ih =>
  intro k i s hk hi hkf hs
  subst hi
  have hl:s.out.length≤1000:=Nat.le_trans (zjQ hs) hL
  cases hd:s.done.lookup k with
  | some r =>
   have e:fin f (k+1) k s=(r,s):=by rw [fin,hd]
   have hfd:=zBk hkf hd
   have hk0:k < (zD f s).length:=by rw [zD,List.length_map];exact (List.getElem?_eq_some_iff.1 hfd).1
   rw [e]
   refine zag zw zao (by show 3≤67;decide) _ (fun e env mem n h=>h) ?_
   (repeat' ((conv=>whnf);first|refine vA ?_|refine vG ?_|refine vT ?_|refine vN ‹_› ?_|(refine vP ?_ ?_;·omega)|fail));all_goals try conv=>whnf
   refine ⟨trivial,_,[(0,0),(1,1),(3,2)],[],rfl,.inl (by (repeat' exact rfl)),⟨by rfl,by rfl,by rfl,trivial,by (repeat' first|exact trivial|exact rfl|refine And.intro ?_ ?_|refine ⟨_,rfl,?_⟩|exact of_decide_eq_true rfl)⟩,by (repeat' first|exact trivial|exact rfl|refine And.intro ?_ ?_|refine ⟨_,rfl,?_⟩)⟩
  | none =>
   obtain ⟨n,hn⟩ : ∃ n,f[k]? = some n:=⟨f[k],by simp [hkf]⟩
   have hn':f.getD k default=n:=by simp [List.getD,hn]
   cases hx:zae n.op with
   | false =>
    have hy:zT n.op=false:=by
     cases hy:zT n.op with
     | true=>rw [zaq hy] at hx;cases hx
     | false=>rfl
    have hux:=hx▸zd2 (T:=T) n.op
    have huy:=hy▸zca (T:=T) n.op
    have e:=zxV hf hkf hd (by rw [hn'];exact hx) (by rw [hn'];exact hy)
    rw [hn'] at e
    rw [e]
    simp only [rUp,zgo (o:=s.out) hd]
    exact zCv hL hn hl (zct hkf hd) hux huy rfl
   | true =>
    have hux:=hx▸zd2 (T:=T) n.op
    have hxk:=za7 hf hkf (by rw [hn'];exact hx)
    rw [hn'] at hxk
    obtain ⟨i1,d1⟩:=zhL hf hxk.2 (by omega) hs hd
    have c1:=ih n.x.toNat n.x s (by omega) (by omega) (by omega) hs
    cases h1:fin f (n.x.toNat+1) n.x.toNat s with
    | mk r1 s1 =>
    rw [h1] at i1 d1 c1
    simp only at i1 d1 c1
    have l1:s1.out.length≤1000:=Nat.le_trans (zjQ i1) hL
    cases hy:zT n.op with
    | false =>
     have huy:=hy▸zca (T:=T) n.op
     have e:=zxX hf hkf hd hn' hx hy h1
     rw [e]
     simp only [rUp,zgo (o:=s1.out) d1]
     exact zCw hL hn hl (zct hkf hd) hux huy l1 c1 (zct hkf d1) rfl
    | true =>
     have huy:=hy▸zca (T:=T) n.op
     have hyk:=zd6 hf hkf (by rw [hn'];exact hy)
     rw [hn'] at hyk
     obtain ⟨i2,d2⟩:=zhL hf hyk.2 (by omega) i1 d1
     have c2:=ih n.y.toNat n.y s1 (by omega) (by omega) (by omega) i1
     cases h2:fin f (n.y.toNat+1) n.y.toNat s1 with
     | mk r2 s2 =>
     rw [h2] at i2 d2 c2
     simp only at i2 d2 c2
     have l2:s2.out.length≤1000:=Nat.le_trans (zjQ i2) hL
     have e:=zxY hf hkf hd hn' hx hy h1 h2
     rw [e]
     simp only [rUp,zgo (o:=s2.out) d2]
     exact zCx hL hn hl (zct hkf hd) hux huy l1 c1 (zct hkf d1) l2 c2 (zct hkf d2) rfl
theorem zzY {f:List Nd} (hf:zax f) (hL:f.length≤1000) : ∀ (m k:Nat) (i:Int),k < m→i=k→k < f.length →
  Fn Tryz.prog T zA [.d (dF f),.d (.int .i64 i),.ptr 0 0] [.box [.nils 6,.own 1],.row 1 (zD f ⟨[],[]⟩)] (.d (.int .i64 ((fin f (k+1) k ⟨[],[]⟩).1:Int))) (zxi f (fin f (k+1) k ⟨[],[]⟩).2):=by
 intro m
 induction m with
 | zero=>intro k i h;omega
 | succ m ih =>
  intro k i hk hi hkf
  subst hi
  have hs:=zv0 f
  have hd:(FSt.mk [] []).done.lookup k=none:=rfl
  obtain ⟨n,hn⟩ : ∃ n,f[k]? = some n:=⟨f[k],by simp [hkf]⟩
  have hn':f.getD k default=n:=by simp [List.getD,hn]
  cases hx:zae n.op with
  | false =>
   have hy:zT n.op=false:=by
    cases hy:zT n.op with
    | true=>rw [zaq hy] at hx;cases hx
    | false=>rfl
   have hux:=hx▸zd2 (T:=T) n.op
   have huy:=hy▸zca (T:=T) n.op
   have e:=zxV hf hkf hd (by rw [hn'];exact hx) (by rw [hn'];exact hy)
   rw [hn'] at e
   rw [e]
   simp only [zxi,zgo (o:=([]:List Nd)) hd]
   exact zCy hL hn (zct hkf hd) hux huy
  | true =>
   have hux:=hx▸zd2 (T:=T) n.op
   have hxk:=za7 hf hkf (by rw [hn'];exact hx)
   rw [hn'] at hxk
   obtain ⟨i1,d1⟩:=zhL hf hxk.2 (by omega) hs hd
   have c1:=ih n.x.toNat n.x (by omega) (by omega) (by omega)
   cases h1:fin f (n.x.toNat+1) n.x.toNat (FSt.mk [] []) with
   | mk r1 s1 =>
   rw [h1] at i1 d1 c1
   simp only at i1 d1 c1
   have l1:s1.out.length≤1000:=Nat.le_trans (zjQ i1) hL
   cases hy:zT n.op with
   | false =>
    have huy:=hy▸zca (T:=T) n.op
    have e:=zxX hf hkf hd hn' hx hy h1
    rw [e]
    simp only [zxi,zgo (o:=s1.out) d1]
    exact zCz hL hn (zct hkf hd) hux huy l1 c1 (zct hkf d1) rfl
   | true =>
    have huy:=hy▸zca (T:=T) n.op
    have hyk:=zd6 hf hkf (by rw [hn'];exact hy)
    rw [hn'] at hyk
    obtain ⟨i2,d2⟩:=zhL hf hyk.2 (by omega) i1 d1
    have c2:=zBq (T:=T) hf hL (n.y.toNat+1) n.y.toNat n.y s1 (by omega) (by omega) (by omega) i1
    cases h2:fin f (n.y.toNat+1) n.y.toNat s1 with
    | mk r2 s2 =>
    rw [h2] at i2 d2 c2
    simp only at i2 d2 c2
    have l2:s2.out.length≤1000:=Nat.le_trans (zjQ i2) hL
    have e:=zxY hf hkf hd hn' hx hy h1 h2
    rw [e]
    simp only [zxi,zgo (o:=s2.out) d2]
    exact zCA hL hn (zct hkf hd) hux huy l1 c1 (zct hkf d1) l2 c2 (zct hkf d2) rfl
end Go.Ab
namespace Go.Ab
open Go Go.Proofs
set_option maxRecDepth 10000
set_option maxHeartbeats 4000000
variable {T:Nat→Obj→Prop}
def zn3 (f:List Nd) (i:Int):List Nd:=if zbI f≠0∨i < 0∨(f.length:Int)≤i then [] else zbU f i.toNat
def cL (f:List Nd):List Nd:=if zbI f≠0 then [] else zbU f (f.length - 1)
theorem zCH (f:List Nd):zn3 f ((f.length:Int) - 1)=cL f:=by
 unfold zn3 cL
 by_cases h:zbI f=0
 ·have:=(zh0.1 h).1
  rw [if_neg (by omega),if_neg (by omega)]
  congr 1
  omega
 ·rw [if_pos (.inl h),if_pos h]
theorem zkK {f:List Nd} (h:zbI f=0):zn8 (z7 f (f.length - 1)) (cL f)∧(cL f).length≤f.length:=by
 obtain ⟨h1,h2,h3⟩:=zh0.1 h
 unfold cL
 rw [if_neg (by omega)]
 exact ⟨zjC h3 (by omega),(zi9 h3 (by omega)).2.1⟩
theorem zxL {f:List Nd} (h:zbI f≠0):cL f=[]:=if_pos h
theorem zqg (f:List Nd):(cL f).length≤200:=by
 by_cases h:zbI f=0
 ·have:=(zkK h).2
  have:=(zh0.1 h).2.1
  omega
 ·rw [zxL h];simp
theorem zvM (f:List Nd):zax (cL f):=by
 by_cases h:zbI f=0
 ·exact (zkK h).1.ok
 ·rw [zxL h];exact zgC
theorem zgP {f:List Nd} {n:Nd} (h:n∈cL f):zgj n.hd:=by
 obtain ⟨i,hi⟩:=List.getElem?_of_mem h
 exact (zbY.1 (zvM f i n hi)).1
theorem zuV (m:Hd→Nat) {b:Nat} (f:List Nd) (h : ∀ n∈cL f,m n.hd < 2 ^ b) (k:Nat):uni m ((cL f).take k) < 2 ^ b :=
 (zf2 m).2 fun n hn=>h n (List.mem_of_mem_take hn)
theorem znP {i:Int} (h0:0≤i) (h7:i≤7):(-9223372036854775808≤(1:Int) * 2 ^ (min i.toNat IntKind.i64.bits)∧(1:Int) * 2 ^ (min i.toNat IntKind.i64.bits)≤9223372036854775807)∧((2 ^ i.toNat:Nat):Int)=(1:Int) * 2 ^ (min i.toNat IntKind.i64.bits):=by
 have:i=0∨i=1∨i=2∨i=3∨i=4∨i=5∨i=6∨i=7:=by omega
 rcases this with rfl|rfl|rfl|rfl|rfl|rfl|rfl|rfl<;>decide
def zg4 (m:Nat) (n:Int):Bool:=decide (31≤n∨m < 2 ^ n.toNat)
def zdH (f:List Nd) (agents facts:Int):Bool:=decide (zbI f=0)&&zg4 (uni zam (cL f)) agents&&zg4 (uni zbk (cL f)) facts
end Go.Ab
namespace Go.Ab
open Go Go.Proofs
set_option maxRecDepth 10000
set_option maxHeartbeats 4000000
variable {T:Nat→Obj→Prop}
theorem zCb (f:List Nd):zD f ⟨[],[]⟩=List.replicate f.length (.int .i64 (-1)):=by
 show (dA f _).map _=_
 refine List.eq_replicate_iff.2 ⟨by simp [dA],fun b hb=>?_⟩
 simp [dA,List.lookup] at hb
 exact hb.2.symm
theorem zBs (f:List Nd) (i:Int):Fn Tryz.prog T zhg [.d (dF f),.d (.int .i64 i)] [] (.d (dF (zn3 f i))) []:=by
 refine zh zw znw (by show 2≤45;decide) ?_
 (repeat' ((conv=>whnf);first|refine vA ?_|((first|refine vD ?_ ?_|refine vF ?_ ?_)<;>intro hc<;>try simp only [vL] at hc)|refine vJ fun hg=>?_|refine vT ?_|refine yD (zjc _) ⟨⟨rfl,rfl⟩,rfl⟩ rfl ?_));all_goals try conv=>whnf
 ·have hp:zn3 f i=[]:=if_pos (.inl ‹_›)
  rw [hp];rfl
 ·have hp:zn3 f i=[]:=if_pos (.inr (.inl ‹_›))
  rw [hp];rfl
 ·have hp:zn3 f i=[]:=if_pos (.inr (.inr (by omega)))
  rw [hp];rfl
 ·have h0:zbI f=0:=by omega
  have h1:=zh0.1 h0
  have hp:zn3 f i=zbU f i.toNat:=if_neg (by omega)
  rw [hp]
  refine zn (fun ((k,xs):Nat×List D)=>[(0,.d (dF f)),(1,.d (.int .i64 (i))),(5,.ptr 0 0),(6,.d (.int .i64 ((k:Int))))]) (fun ((k,xs):Nat×List D)=>[(0,some (.box [.nils 6,.own 1])),(1,some (.row 1 xs))]) 2 (fun ((k,xs):Nat×List D)=>k≤f.length∧xs=List.replicate k (.int .i64 (-1))) (fun ((k,xs):Nat×List D)=>f.length - k) ((0,[])) [(0,0)] [1] (⟨by simp,rfl⟩) (by (refine ⟨rfl,rfl,rfl,?_,?_⟩;repeat' first|exact trivial|exact rfl|exact ⟨_,rfl⟩|refine And.intro ?_ ?_|refine ⟨_,rfl,?_⟩|decide)) ?_
  rintro ⟨k,xs⟩ ⟨hk,hI⟩
  have hlx:xs.length≤1000:=by rw [hI,List.length_replicate];omega
  (repeat' ((conv=>whnf);first|refine vA ?_|(refine vF ?_ ?_<;>intro hc<;>try simp only [vL] at hc)|refine vJ fun hg=>?_|refine vT ?_|((first|refine vO ?_ ?_|refine vP ?_ ?_);·first|omega|(simp only [vM] at *;omega))|fail));all_goals try conv=>whnf
  ·refine ⟨(k+1,_),[(0,0),(1,3)],[],?_,?_,by (refine ⟨rfl,rfl,rfl,?_,?_⟩;repeat' first|exact trivial|exact rfl|refine And.intro ?_ ?_|refine ⟨_,rfl,?_⟩|decide)⟩
   ·exact ⟨by (omega),by rw [hI];exact List.replicate_succ'.symm⟩
   ·((simp only [vM] at *;omega))
  ·have hk:k=f.length:=by omega
   subst hk
   rw [← zCb] at hI
   subst hI
   have c:=zzY (T:=T) h1.2.2 (by omega) (i.toNat+1) i.toNat i (by omega) (by omega) (by omega)
   refine zN.objs [0,1] (c) (by (repeat' first|exact rfl|refine And.intro ?_ ?_|refine ⟨_,rfl,?_⟩)) (by (repeat' first|exact rfl|refine And.intro ?_ ?_|refine ⟨_,rfl,?_⟩)) (by rfl) (by rfl) (by simp) ?_
   (repeat' ((conv=>whnf);refine vT ?_));all_goals try conv=>whnf
   rfl
theorem zgV (f:List Nd):Fn Tryz.prog T zeC [.d (dF f)] [] (.d (dF (cL f))) []:=by
 refine zh zw zje (by show 1≤8;decide) ?_
 (repeat' ((conv=>whnf);first|refine vJ fun hg=>?_|refine vT ?_|(refine vO ?_ ?_;·(simp only [vM] at *;omega))|fail));all_goals try conv=>whnf
 have cC:=zBs (T:=T) f (((f.map dNd).length:Int) - 1)
 rw [show zn3 f (((f.map dNd).length:Int) - 1)=cL f by rw [List.length_map,zCH]] at cC
 (repeat' ((conv=>whnf);first|refine vT ?_|refine yN cC ⟨⟨rfl,rfl⟩,⟨rfl,rfl⟩,rfl⟩ ?_));all_goals try conv=>whnf
 rfl
theorem zzZ (op:Int) (h0:op≤21):Fn Tryz.prog T zge [.d (.int .i64 op)] [] (.d (.int .i64 (zeE op))) []:=by
 by_cases h:1≤op
 ·have:op=1∨op=2∨op=3∨op=4∨op=5∨op=6∨op=7∨op=8∨op=9∨op=10∨op=11∨op=12∨op=13∨op=14∨op=15∨op=16∨op=17∨op=18∨op=19∨op=20∨op=21:=by omega
  clear h h0
  rcases this with rfl|rfl|rfl|rfl|rfl|rfl|rfl|rfl|rfl|rfl|rfl|rfl|rfl|rfl|rfl|rfl|rfl|rfl|rfl|rfl|rfl
  all_goals refine zh zw zgh (by show 1≤21;decide) ?_
  all_goals (repeat' ((conv=>whnf);first|refine zO.decN (by omega) ?_|refine zO.decY (by omega) ?_|refine vA ?_|refine vT ?_|((first|refine vO ?_ ?_|refine vP ?_ ?_);·omega)|refine vX ?_));all_goals try conv=>whnf
  all_goals try refine vW (show inR _ _ from ⟨by decide,by decide⟩) ?_
  all_goals try (repeat' ((conv=>whnf);first|refine vT ?_|refine vX ?_));all_goals try conv=>whnf
  all_goals first|rfl|kernel_rfl|skip
 ·refine zh zw zgh (by show 1≤21;decide) ?_
  (repeat' ((conv=>whnf);first|refine zO.decN (by omega) ?_|refine vA ?_|refine vT ?_|refine vX ?_));all_goals try conv=>whnf
  have e8:zeE op=0:=by unfold zeE; (repeat' rw [if_neg (by omega)])
  rw [e8]
  first|rfl|skip
theorem zA5 {n:Nd} (h:zgj n.hd):1≤n.op∧n.op≤21:=of_decide_eq_true h.op
theorem zr0 (f:List Nd):Fn Tryz.prog T zfA [.d (dF f)] [] (.d (.int .i64 (uni zbO (cL f):Int))) []:=by
 have hlen:=zqg f
 have hlt : ∀ n∈cL f,zbO n.hd < 2 ^ 9:=fun n hn=>zle n.hd
 refine zh zw zlu (by show 1≤23;decide) ?_
 (repeat' ((conv=>whnf);first|refine vA ?_|refine vT ?_|refine yN (zgV _) ⟨⟨rfl,rfl⟩,rfl⟩ ?_));all_goals try conv=>whnf
 refine zP (fun ((k,x):Nat×Int)=>[(3,.d (dF (cL f))),(4,.d (.int .i64 (x))),(5,.d (.int .i64 ((k:Int))))]) (fun ((k,x):Nat×Int)=>k≤(cL f).length∧x=(uni zbO ((cL f).take k):Nat)) (fun ((k,x):Nat×Int)=>(cL f).length - k) ((0,0)) (⟨by simp,rfl⟩) (by (repeat' first|exact trivial|exact rfl|refine And.intro ?_ ?_)) ?_
 rintro ⟨k,x⟩ ⟨hk,hI⟩
 subst hI
 (repeat' ((conv=>whnf);first|refine vA ?_|(refine vF ?_ ?_<;>intro hc<;>try simp only [vL] at hc)|refine vJ fun hg=>?_|refine vT ?_|(refine vQ ?_ fun x hx=>?_;·omega)|refine vX ?_));all_goals try conv=>whnf
 ·have hh:=zgP (List.mem_of_getElem? hx)
  (repeat' ((conv=>whnf);first|refine vT ?_|(refine vO ?_ ?_;·omega)|refine yD (zzZ _ (zA5 hh).2) ⟨⟨rfl,rfl⟩,rfl⟩ rfl ?_));all_goals try conv=>whnf
  refine ⟨(k+1,_),[],[],?_,?_,by (refine ⟨rfl,rfl,rfl,?_,?_⟩;repeat' first|exact trivial|exact rfl|refine And.intro ?_ ?_)⟩
  ·refine ⟨by (omega),?_⟩
   rw [ziC zbO hx]
   have e:=zw2 (x.hd)
   show zbt .i64 (fun p q=>p|||q) _ (zeE x.hd.op)=_
   rw [← e]
   exact zgl (Nat.lt_trans (zuV zbO f hlt k) (by decide)) (Nat.lt_trans (zle x.hd) (by decide))
  ·((simp only [vM] at *;omega))
 ·rw [show k=(cL f).length by omega,List.take_length]
theorem zyb (f:List Nd):Fn Tryz.prog T zfz [.d (dF f)] [] (.d (.int .i64 (uni zbk (cL f):Int))) []:=by
 have hlen:=zqg f
 have hlt : ∀ n∈cL f,zbk n.hd < 2 ^ 8:=fun n hn=>zpv (zgP hn)
 refine zh zw zlt (by show 1≤29;decide) ?_
 (repeat' ((conv=>whnf);first|refine vA ?_|refine vT ?_|refine yN (zgV _) ⟨⟨rfl,rfl⟩,rfl⟩ ?_));all_goals try conv=>whnf
 refine zP (fun ((k,x):Nat×Int)=>[(3,.d (dF (cL f))),(4,.d (.int .i64 (x))),(5,.d (.int .i64 ((k:Int))))]) (fun ((k,x):Nat×Int)=>k≤(cL f).length∧x=(uni zbk ((cL f).take k):Nat)) (fun ((k,x):Nat×Int)=>(cL f).length - k) ((0,0)) (⟨by simp,rfl⟩) (by (repeat' first|exact trivial|exact rfl|refine And.intro ?_ ?_)) ?_
 rintro ⟨k,x⟩ ⟨hk,hI⟩
 subst hI
 by_cases hkl:k < (cL f).length
 ·have hx:=List.getElem?_eq_getElem hkl
  have hh:=zgP (List.mem_of_getElem? hx)
  generalize hn:(cL f)[k]=n at hx hh
  by_cases hf:n.op=3
  ·have hf':zbS n.op=true:=decide_eq_true hf
   obtain ⟨h0,h7⟩:0≤n.i∧n.i≤7:=hh.fact hf'
   obtain ⟨h1,h2⟩:=znP h0 h7
   have e:((zbk n.hd:Nat):Int)=1 * 2 ^ min n.i.toNat IntKind.i64.bits:=by rw [zbk,if_pos (by exact hf')];exact h2
   (repeat' ((conv=>whnf);first|refine vA ?_|(refine vF ?_ ?_<;>intro hc<;>try simp only [vL] at hc)|refine vJ fun hg=>?_|refine vT ?_|refine vN ‹_› ?_|((first|refine vO ?_ ?_|refine vP ?_ ?_);·omega)|refine vX ?_));all_goals try conv=>whnf
   all_goals try omega
   refine ⟨(k+1,_),[],[],?_,?_,by (refine ⟨rfl,rfl,rfl,?_,?_⟩;repeat' first|exact trivial|exact rfl|refine And.intro ?_ ?_)⟩
   ·refine ⟨by (omega),?_⟩
    rw [ziC zbk hx,← e]
    exact zgl (Nat.lt_trans (zuV zbk f hlt k) (by decide)) (Nat.lt_trans (zpv hh) (by decide))
   ·((simp only [vM] at *;omega))
  ·have e:zbk n.hd=0:=by rw [zbk,if_neg (by simp [Nd.hd,zbS,hf])]
   (repeat' ((conv=>whnf);first|refine vA ?_|(refine vF ?_ ?_<;>intro hc<;>try simp only [vL] at hc)|refine vJ fun hg=>?_|refine vT ?_|refine vN ‹_› ?_|((first|refine vO ?_ ?_|refine vP ?_ ?_);·omega)|refine vX ?_));all_goals try conv=>whnf
   all_goals try omega
   refine ⟨(k+1,_),[],[],?_,?_,by (refine ⟨rfl,rfl,rfl,?_,?_⟩;repeat' first|exact trivial|exact rfl|refine And.intro ?_ ?_)⟩
   ·refine ⟨by (omega),?_⟩
    rw [ziC zbk hx,e,Nat.or_zero]
   ·((simp only [vM] at *;omega))
 ·(repeat' ((conv=>whnf);first|refine vA ?_|(refine vF ?_ ?_<;>intro hc<;>try simp only [vL] at hc)|refine vJ fun hg=>?_|refine vT ?_|refine vN ‹_› ?_|(refine vQ ?_ fun x hx=>?_;·omega)|((first|refine vO ?_ ?_|refine vP ?_ ?_);·omega)|refine vX ?_));all_goals try conv=>whnf
  all_goals try omega
  rw [show k=(cL f).length by omega,List.take_length]
theorem zwY (f:List Nd):Fn Tryz.prog T ze4 [.d (dF f)] [] (.d (.int .i64 (uni zam (cL f):Int))) []:=by
 have hlen:=zqg f
 have hlt : ∀ n∈cL f,zam n.hd < 2 ^ 4:=fun n hn=>zmA (zgP hn)
 refine zh zw zj1 (by show 1≤36;decide) ?_
 (repeat' ((conv=>whnf);first|refine vA ?_|refine vT ?_|refine yN (zgV _) ⟨⟨rfl,rfl⟩,rfl⟩ ?_));all_goals try conv=>whnf
 refine zP (fun ((k,x):Nat×Int)=>[(3,.d (dF (cL f))),(4,.d (.int .i64 (x))),(5,.d (.int .i64 ((k:Int))))]) (fun ((k,x):Nat×Int)=>k≤(cL f).length∧x=(uni zam ((cL f).take k):Nat)) (fun ((k,x):Nat×Int)=>(cL f).length - k) ((0,0)) (⟨by simp,rfl⟩) (by (repeat' first|exact trivial|exact rfl|refine And.intro ?_ ?_)) ?_
 rintro ⟨k,x⟩ ⟨hk,hI⟩
 subst hI
 by_cases hkl:k < (cL f).length
 ·have hx:=List.getElem?_eq_getElem hkl
  have hh:=zgP (List.mem_of_getElem? hx)
  generalize hn:(cL f)[k]=n at hx hh
  have hu:=Nat.lt_trans (zuV zam f hlt k) (show 2 ^ 4 < 2 ^ 63 by decide)
  have hgl:=Nat.lt_trans (zmA hh) (show 2 ^ 4 < 2 ^ 63 by decide)
  cases hf:zap n.op with
  | true =>
   have hag:=hf▸zne (T:=T) n.op
   obtain ⟨h0,h7⟩:0≤n.i∧n.i≤3:=hh.agent hf
   obtain ⟨h1,h2⟩:=znP h0 (by omega)
   have e:((zam n.hd:Nat):Int)=1 * 2 ^ min n.i.toNat IntKind.i64.bits:=by rw [zam,if_pos (by exact hf)];exact h2
   have hg0:n.g=0:=by
    have h3:zaB n.op=false:=by simp only [zap,zaB,decide_eq_true_eq,decide_eq_false_iff_not] at hf ⊢;omega
    exact hh.g0 h3
   (repeat' ((conv=>whnf);first|refine vA ?_|refine vG ?_|(refine vF ?_ ?_<;>intro hc<;>try simp only [vL] at hc)|refine vJ fun hg=>?_|refine vT ?_|refine vN ‹_› ?_|((first|refine vO ?_ ?_|refine vP ?_ ?_);·omega)|refine vX ?_|refine yD hag (by (repeat refine ⟨⟨rfl,rfl⟩,?_⟩);rfl) rfl ?_));all_goals try conv=>whnf
   all_goals try omega
   refine ⟨(k+1,_),[],[],?_,?_,by (refine ⟨rfl,rfl,rfl,?_,?_⟩;repeat' first|exact trivial|exact rfl|refine And.intro ?_ ?_)⟩
   ·refine ⟨by (omega),?_⟩
    rw [ziC zam hx,← e,hg0,zgl hu hgl]
    have:=zgl (a:=uni zam ((cL f).take k)|||zam n.hd) (b:=0) (Nat.or_lt_two_pow hu hgl) (by decide)
    rw [Nat.or_zero] at this
    exact this
   ·((simp only [vM] at *;omega))
  | false =>
   have hag:=hf▸zne (T:=T) n.op
   have h0:0≤n.g:=by
    cases hg:zaB n.op with
    | true=>have:1≤n.g∧n.g≤15:=hh.group hg;omega
    | false=>have:n.g=0:=hh.g0 hg;omega
   have e:((zam n.hd:Nat):Int)=n.g:=by rw [zam,if_neg (by simp [Nd.hd,hf])];exact Int.toNat_of_nonneg h0
   (repeat' ((conv=>whnf);first|refine vA ?_|refine vH ?_|(refine vF ?_ ?_<;>intro hc<;>try simp only [vL] at hc)|refine vJ fun hg=>?_|refine vT ?_|refine vN ‹_› ?_|(refine vO ?_ ?_;·omega)|refine vX ?_|refine yD hag (by (repeat refine ⟨⟨rfl,rfl⟩,?_⟩);rfl) rfl ?_));all_goals try conv=>whnf
   all_goals try omega
   refine ⟨(k+1,_),[],[],?_,?_,by (refine ⟨rfl,rfl,rfl,?_,?_⟩;repeat' first|exact trivial|exact rfl|refine And.intro ?_ ?_)⟩
   ·refine ⟨by (omega),?_⟩
    rw [ziC zam hx,← e,zgl hu hgl]
   ·((simp only [vM] at *;omega))
 ·(repeat' ((conv=>whnf);first|refine vA ?_|(refine vF ?_ ?_<;>intro hc<;>try simp only [vL] at hc)|refine vJ fun hg=>?_|refine vT ?_|(refine vQ ?_ fun x hx=>?_;·omega)|refine vX ?_));all_goals try conv=>whnf
  all_goals try omega
  rw [show k=(cL f).length by omega,List.take_length]
theorem zhV {m k:Nat} (hk:k≤64):((m:Int).fdiv (2 ^ min (k:Int).toNat IntKind.i64.bits)).tmod 2=1↔m.testBit k=true:=by
 rw [show min (k:Int).toNat IntKind.i64.bits=k from Nat.min_eq_left hk,zBP,Nat.shiftRight_eq_div_pow,Nat.testBit_eq_decide_div_mod_eq,decide_eq_true_eq]
 generalize m / 2 ^ k=a
 rw [Int.tmod_eq_emod_of_nonneg (Int.natCast_nonneg a)]
 omega
theorem ziN {m b:Nat} {n:Int} (hm:m < 2 ^ b) (hb:b≤31):zg4 m n=true ↔ ∀ i,i < b→m.testBit i=true→(i:Int) < n:=by
 unfold zg4
 rw [decide_eq_true_eq]
 constructor
 ·rintro (h|h) i hi ht
  ·omega
  ·refine Classical.byContradiction fun hn=>?_
   rw [Nat.testBit_lt_two_pow (Nat.lt_of_lt_of_le h (Nat.pow_le_pow_right (by omega) (by omega)))] at ht
   cases ht
 ·intro h
  by_cases hn:31≤n
  ·exact .inl hn
  ·refine .inr (Nat.lt_pow_two_of_testBit _ fun i hi=>?_)
   by_cases hib:i < b
   ·refine Bool.eq_false_iff.2 fun ht=>?_
    have:=h i hib ht
    omega
   ·exact Nat.testBit_lt_two_pow (Nat.lt_of_lt_of_le hm (Nat.pow_le_pow_right (by omega) (by omega)))
theorem zt2 (f:List Nd) (agents facts:Int):Fn Tryz.prog T zgd [.d (dF f),.d (.int .i64 agents),.d (.int .i64 facts)] [] (.d (.bool (zdH f agents facts))) []:=by
 have hA:uni zam (cL f) < 2 ^ 4:=(zf2 zam).2 fun n hn=>zmA (zgP hn)
 have hF:uni zbk (cL f) < 2 ^ 8:=(zf2 zbk).2 fun n hn=>zpv (zgP hn)
 refine zh zw zmr (by show 3≤42;decide) ?_
 (repeat' ((conv=>whnf);first|refine vA ?_|(refine vD ?_ ?_<;>intro hc)|refine vT ?_|refine vZ ?_|refine yD (zjc _) ⟨⟨rfl,rfl⟩,rfl⟩ rfl ?_));all_goals try conv=>whnf
 ·simp_all [zdH]
 ·have h0:zbI f=0:=by omega
  refine zP (fun (k:Nat)=>[(0,.d (dF f)),(1,.d (.int .i64 (agents))),(2,.d (.int .i64 (facts))),(7,.d (.int .i64 ((k:Int))))]) (fun (k:Nat)=>k≤4 ∧ ∀ i,i < k→(uni zam (cL f)).testBit i=true→(i:Int) < agents) (fun (k:Nat)=>4 - k) (0) (⟨by omega,by omega⟩) (by (repeat' first|exact trivial|exact rfl|refine And.intro ?_ ?_)) ?_
  rintro k ⟨hk,hI⟩
  (repeat' ((conv=>whnf);first|refine vA ?_|(refine vF ?_ ?_<;>intro hc<;>try simp only [vL] at hc)|refine vT ?_|((first|refine vO ?_ ?_|refine vP ?_ ?_);·omega)|refine vZ ?_|refine yD (zwY _) ⟨⟨rfl,rfl⟩,rfl⟩ rfl ?_));all_goals try conv=>whnf
  ·have hb:=(zhV (m:=uni zam (cL f)) (k:=k) (by omega)).1 ‹_›
   refine (Bool.eq_false_iff.2 fun h=>?_).symm
   simp only [zdH,Bool.and_eq_true] at h
   have:=(ziN hA (by omega)).1 h.1.2 k (by omega) hb
   omega
  ·exact ⟨k+1,[],[],⟨by (omega),fun i hi ht=>by
    by_cases h:i=k
    ·subst h;omega
    ·exact hI i (by omega) ht⟩,by (omega),by (refine ⟨rfl,rfl,rfl,?_,?_⟩;repeat' first|exact trivial|exact rfl|refine And.intro ?_ ?_)⟩
  ·have hb : ¬_:=fun h=>‹¬Int.tmod _ 2=1› ((zhV (m:=uni zam (cL f)) (k:=k) (by omega)).2 h)
   exact ⟨k+1,[],[],⟨by (omega),fun i hi ht=>by
    by_cases h:i=k
    ·subst h;exact absurd ht hb
    ·exact hI i (by omega) ht⟩,by (omega),by (refine ⟨rfl,rfl,rfl,?_,?_⟩;repeat' first|exact trivial|exact rfl|refine And.intro ?_ ?_)⟩
  ·have hA1:zg4 (uni zam (cL f)) agents=true:=(ziN hA (by omega)).2 fun i hi=>hI i (by omega)
   refine zP (fun (k:Nat)=>[(0,.d (dF f)),(2,.d (.int .i64 (facts))),(8,.d (.int .i64 ((k:Int))))]) (fun (k:Nat)=>k≤8 ∧ ∀ i,i < k→(uni zbk (cL f)).testBit i=true→(i:Int) < facts) (fun (k:Nat)=>8 - k) (0) (⟨by omega,by omega⟩) (by (repeat' first|exact trivial|exact rfl|refine And.intro ?_ ?_)) ?_
   clear hI
   rintro k ⟨hk,hI⟩
   (repeat' ((conv=>whnf);first|refine vA ?_|(refine vF ?_ ?_<;>intro hc<;>try simp only [vL] at hc)|refine vT ?_|((first|refine vO ?_ ?_|refine vP ?_ ?_);·omega)|refine vZ ?_|refine yD (zyb _) ⟨⟨rfl,rfl⟩,rfl⟩ rfl ?_));all_goals try conv=>whnf
   ·have hb:=(zhV (m:=uni zbk (cL f)) (k:=k) (by omega)).1 ‹_›
    refine (Bool.eq_false_iff.2 fun h=>?_).symm
    simp only [zdH,Bool.and_eq_true] at h
    have:=(ziN hF (by omega)).1 h.2 k (by omega) hb
    omega
   ·exact ⟨k+1,[],[],⟨by (omega),fun i hi ht=>by
     by_cases h:i=k
     ·subst h;omega
     ·exact hI i (by omega) ht⟩,by (omega),by (refine ⟨rfl,rfl,rfl,?_,?_⟩;repeat' first|exact trivial|exact rfl|refine And.intro ?_ ?_)⟩
   ·have hb : ¬_:=fun h=>‹¬Int.tmod _ 2=1› ((zhV (m:=uni zbk (cL f)) (k:=k) (by omega)).2 h)
    exact ⟨k+1,[],[],⟨by (omega),fun i hi ht=>by
     by_cases h:i=k
     ·subst h;exact absurd ht hb
     ·exact hI i (by omega) ht⟩,by (omega),by (refine ⟨rfl,rfl,rfl,?_,?_⟩;repeat' first|exact trivial|exact rfl|refine And.intro ?_ ?_)⟩
   ·have hF1:zg4 (uni zbk (cL f)) facts=true:=(ziN hF (by omega)).2 fun i hi=>hI i (by omega)
    simp [zdH,hA1,hF1,h0]
end Go.Ab
namespace Go.Ab
open Go Go.Proofs
set_option maxRecDepth 10000
set_option maxHeartbeats 4000000
variable {T:Nat→Obj→Prop}
theorem zrX (l:List (BitVec 64)) (n:Int) (h:0≤n):Fn Tryz.prog T ze5 [.d (dU l),.d (.int .i64 n)] [] (.d (.bool (l.any (bad n)))) []:=by
 refine zh zw zj2 (by show 2≤20;decide) ?_
 (repeat' ((conv=>whnf);first|refine vA ?_|refine vT ?_));all_goals try conv=>whnf
 refine zP (fun (k:Nat)=>[(0,.d (dU l)),(1,.d (.int .i64 (n))),(5,.d (.int .i64 ((k:Int))))]) (fun (k:Nat)=>k≤l.length∧l.any (bad n)=(l.drop k).any (bad n)) (fun (k:Nat)=>l.length - k) (0) (⟨by simp,rfl⟩) (by (repeat' first|exact trivial|exact rfl|refine And.intro ?_ ?_)) ?_
 rintro k ⟨hk,hI⟩
 (repeat' ((conv=>whnf);first|refine vA ?_|((first|refine vD ?_ ?_|refine vF ?_ ?_)<;>intro hc<;>try simp only [vL] at hc)|refine vJ fun hg=>?_|refine vT ?_|(refine vQ ?_ fun x hx=>?_;·omega)|(refine vO ?_ ?_;·omega)|(refine vU ?_ ?_;·kernel_rfl)|refine vZ ?_|refine yD (ziu n h) ⟨⟨rfl,rfl⟩,rfl⟩ rfl ?_));all_goals try conv=>whnf
 ·rw [hI,z1 hx,List.any_cons,show bad n x=true from decide_eq_true ‹_›];rfl
 ·exact ⟨k+1,[],[],⟨by (omega),by rw [hI,z1 hx,List.any_cons,show bad n x=false from decide_eq_false (by simpa using ‹x &&& ~~~zal n=0#64›)];rfl⟩,by (omega),by (refine ⟨rfl,rfl,rfl,?_,?_⟩;repeat' first|exact trivial|exact rfl|refine And.intro ?_ ?_)⟩
 ·rw [hI,List.drop_eq_nil_of_le (by omega)];rfl
def zbq (m:KM):Int :=
 if m.W < 1∨64 < m.W then 2 else if 4 < m.rel.length∨8 < m.val.length then 8 else if m.rel.any (fun r=>decide ((r.length:Int)≠m.W)) then 3 else if m.val.any (bad m.W) then 2 else if m.rel.any (fun r=>r.any (bad m.W)) then 2 else 0
structure zAX (m:KM):Prop where
 w1:1≤m.W
 w2:m.W≤64
 n4:m.rel.length≤4
 v8:m.val.length≤8
 len : ∀ r∈m.rel,(r.length:Int)=m.W
 val : ∀ s∈m.val,bad m.W s=false
 rel : ∀ r∈m.rel,∀ s∈r,bad m.W s=false
theorem zo1 {m:KM} (h:zbq m=0):zAX m:=by
 unfold zbq at h
 split at h
 ·cases h
 ·split at h
  ·cases h
  ·split at h
   ·cases h
   ·split at h
    ·cases h
    ·split at h
     ·cases h
     ·rename_i h1 h2 h3 h4 h5
      refine ⟨by omega,by omega,by omega,by omega,fun r hr=>?_,fun s hs=>?_,fun r hr s hs=>?_⟩
      ·simp only [List.any_eq_true,not_exists,not_and] at h3;simpa using h3 r hr
      ·simp only [List.any_eq_true,not_exists,not_and] at h4;simpa using h4 s hs
      ·simp only [List.any_eq_true,not_exists,not_and] at h5;simpa using h5 r hr s hs
theorem zrY (m:KM):Fn Tryz.prog T zfB [.d (dKM m)] [] (.d (.int .i64 (zbq m))) []:=by
 refine zh zw zlz (by show 1≤59;decide) ?_
 (repeat' ((conv=>whnf);first|refine vA ?_|(refine vF ?_ ?_<;>intro hc<;>try simp only [vL] at hc)|refine vJ fun hg=>?_|refine vT ?_|refine vX ?_));all_goals try conv=>whnf
 ·rw [zbq,if_pos (by omega)]
 ·rw [zbq,if_pos (by omega)]
 ·rw [zbq,if_neg (by omega),if_pos (by omega)]
 ·rw [zbq,if_neg (by omega),if_pos (by omega)]
 ·have e0:zbq m=if m.rel.any (fun r=>decide ((r.length:Int)≠m.W)) then 3 else if m.val.any (bad m.W) then 2 else if m.rel.any (fun r=>r.any (bad m.W)) then 2 else 0:=by rw [zbq,if_neg (by omega),if_neg (by omega)]
  refine zn (fun (k:Nat)=>[(1,.ptr 0 0),(3,.d (.int .i64 ((k:Int))))]) (fun (k:Nat)=>[(0,some (zqe m))]) 1 (fun (k:Nat)=>k≤m.rel.length∧m.rel.any (fun r=>decide ((r.length:Int)≠m.W))=(m.rel.drop k).any (fun r=>decide ((r.length:Int)≠m.W))) (fun (k:Nat)=>m.rel.length - k) (0) [(0,0)] [] (⟨by simp,rfl⟩) (by (refine ⟨rfl,rfl,rfl,?_,?_⟩;repeat' first|exact trivial|exact rfl|refine And.intro ?_ ?_|refine ⟨_,rfl,?_⟩|decide)) ?_
  rintro k ⟨hk,hI⟩
  (repeat' ((conv=>whnf);first|refine vA ?_|((first|refine vD ?_ ?_|refine vF ?_ ?_)<;>intro hc<;>try simp only [vL] at hc)|refine vJ fun hg=>?_|refine vT ?_|(refine vQ ?_ fun x hx=>?_;·omega)|(refine vO ?_ ?_;·omega)|(refine vU ?_ ?_;·kernel_rfl)|refine vX ?_));all_goals try conv=>whnf
  ·rw [e0,if_pos (by rw [hI,z1 hx,List.any_cons,decide_eq_true (by simpa using ‹_›)];rfl)]
  ·exact ⟨k+1,[(0,0)],[],⟨by (omega),by rw [hI,z1 hx,List.any_cons,decide_eq_false (by simpa using ‹_›)];rfl⟩,by (omega),by (refine ⟨rfl,rfl,rfl,?_,?_⟩;repeat' first|exact trivial|exact rfl|refine And.intro ?_ ?_|refine ⟨_,rfl,?_⟩|decide)⟩
  ·have h1:m.rel.any (fun r=>decide ((r.length:Int)≠m.W))=false:=by rw [hI,List.drop_eq_nil_of_le (by omega)];rfl
   rw [h1,if_neg (by decide)] at e0
   (repeat' ((conv=>whnf);first|refine vA ?_|(refine vI ?_ ?_<;>intro hc)|refine vT ?_|refine vX ?_|refine yD (zrX _ m.W (by omega)) ⟨⟨rfl,rfl⟩,⟨rfl,rfl⟩,rfl⟩ rfl ?_));all_goals try conv=>whnf
   ·rw [e0,if_pos ‹_›]
   ·rw [show m.val.any (bad m.W)=false from ‹_›,if_neg (by decide)] at e0
    refine zn (fun (k:Nat)=>[(1,.ptr 0 0),(4,.d (.int .i64 ((k:Int))))]) (fun (k:Nat)=>[(0,some (zqe m))]) 1 (fun (k:Nat)=>k≤m.rel.length∧m.rel.any (fun r=>r.any (bad m.W))=(m.rel.drop k).any (fun r=>r.any (bad m.W))) (fun (k:Nat)=>m.rel.length - k) (0) [(0,0)] [] (⟨by simp,rfl⟩) (by (refine ⟨rfl,rfl,rfl,?_,?_⟩;repeat' first|exact trivial|exact rfl|refine And.intro ?_ ?_|refine ⟨_,rfl,?_⟩|decide)) ?_
    clear hI hk
    rintro k ⟨hk,hI⟩
    (repeat' ((conv=>whnf);first|refine vA ?_|((first|refine vF ?_ ?_|refine vI ?_ ?_)<;>intro hc<;>try simp only [vL] at hc)|refine vJ fun hg=>?_|refine vT ?_|(refine vQ ?_ fun x hx=>?_;·omega)|(refine vO ?_ ?_;·omega)|(refine vU ?_ ?_;·kernel_rfl)|refine vX ?_|refine yD (zrX _ m.W (by omega)) ⟨⟨rfl,rfl⟩,⟨rfl,rfl⟩,rfl⟩ rfl ?_));all_goals try conv=>whnf
    ·rw [e0,if_pos (by rw [hI,z1 hx,List.any_cons,show x.any (bad m.W)=true from ‹_›];rfl)]
    ·exact ⟨k+1,[(0,0)],[],⟨by (omega),by rw [hI,z1 hx,List.any_cons,show x.any (bad m.W)=false from ‹_›];rfl⟩,by (omega),by (refine ⟨rfl,rfl,rfl,?_,?_⟩;repeat' first|exact trivial|exact rfl|refine And.intro ?_ ?_|refine ⟨_,rfl,?_⟩|decide)⟩
    ·rw [e0,if_neg]
     rw [hI,List.drop_eq_nil_of_le (by omega)];simp
def zfY (m:KM) (a w:Nat):BitVec 64:=(m.rel.getD a []).getD w 0#64
theorem zAz {m:KM} {a w:Nat} {r:List (BitVec 64)} {x:BitVec 64} (h:m.rel[a]? = some r) (h':r[w]? = some x):zfY m a w=x:=by rw [zfY,zaY h,zaY h']
def zgs (m:KM) (g:Nat) (meet:Bool) (w k:Nat):BitVec 64:=(List.range k).foldl (fun s a=>if g.testBit a=true then (if meet=true then s&&&zfY m a w else s|||zfY m a w) else s) (if meet=true then zal m.W else 0#64)
theorem znk (m:KM) (g:Nat) (meet:Bool) (w k:Nat):zgs m g meet w (k+1)=if g.testBit k=true then (if meet=true then zgs m g meet w k&&&zfY m k w else zgs m g meet w k|||zfY m k w) else zgs m g meet w k:=by
 unfold zgs;rw [List.range_succ,List.foldl_append];rfl
def zcQ (m:KM) (g:Nat) (meet:Bool):List (BitVec 64):=if zbq m≠0∨g < 1∨2 ^ m.rel.length≤g then [] else (List.range m.W.toNat).map fun w=>zgs m g meet w m.rel.length
theorem zw0 (m:KM) (g:Nat) (hg:g < 2 ^ 63):Fn Tryz.prog T zfD [.d (dKM m),.d (.int .i64 (g:Int)),.d (.bool false)] [] (.d (dU (zcQ m g false))) []:=by
 refine zh zw zlB (by show 3≤85;decide) ?_
 by_cases hc:zbq m=0
 ·have hgd:=zo1 hc
  have n4:=hgd.n4
  have w1:=hgd.w1
  have w2:=hgd.w2
  obtain ⟨p1,p2⟩:=znP (i:=(m.rel.length:Int)) (by omega) (by omega)
  have p2:((2 ^ m.rel.length:Nat):Int)=(1:Int) * 2 ^ (min (m.rel.length:Int).toNat IntKind.i64.bits):=p2
  have hcf:=zrY (T:=T) m
  rw [hc] at hcf
  (repeat' ((conv=>whnf);first|refine zO.no (by decide) ?_|refine vA ?_|(refine vF ?_ ?_<;>intro hc<;>try simp only [vL] at hc)|refine vJ fun hg=>?_|refine vT ?_|((first|refine vO ?_ ?_|refine vP ?_ ?_);·first|omega|(simp only [vM] at *;omega))|refine yD hcf ⟨⟨rfl,rfl⟩,rfl⟩ rfl ?_));all_goals try conv=>whnf
  ·rw [zcQ,if_pos (.inr (.inl (by omega)))];rfl
  ·rw [zcQ,if_pos (.inr (.inr (by have:=‹_≤(g:Int)›;rw [← p2] at this;omega)))];rfl
  ·have e0:zcQ m g false=(List.range m.W.toNat).map fun w=>zgs m g false w m.rel.length:=by
    have:=‹(g:Int) < _›
    rw [← p2] at this
    rw [zcQ,if_neg (by omega)]
   rw [e0]
   refine zn (fun ((k,zs):Nat×List D)=>[(1,.d (.int .i64 ((g:Int)))),(2,.d (.bool (false))),(3,.ptr 0 0),(7,.own 1),(8,.d (.int .i64 ((k:Int))))]) (fun ((k,zs):Nat×List D)=>[(0,some (zqe m)),(1,some (.row 1 zs))]) 2 (fun ((k,zs):Nat×List D)=>k≤m.W.toNat∧zs=((List.range k).map fun w=>zgs m g false w m.rel.length).map D.u64) (fun ((k,zs):Nat×List D)=>m.W.toNat - k) ((0,[])) [(0,0)]   [1] (⟨by simp,rfl⟩) (by (refine ⟨rfl,rfl,rfl,?_,?_⟩;repeat' first|exact trivial|exact rfl|exact ⟨_,rfl⟩|exact .inl rfl|refine And.intro ?_ ?_|refine ⟨_,rfl,?_⟩|decide)) ?_
   rintro ⟨k,zs⟩ ⟨hk,hI⟩
   have hzl:zs.length≤64:=by rw [hI];simp;omega
   have h64 : ∀ a (r:List (BitVec 64)),m.rel[a]? = some r→r.length=m.W.toNat:=fun a r h=>by have:=hgd.len r (List.mem_of_getElem? h);omega
   (repeat' ((conv=>whnf);first|refine vA ?_|refine vH ?_|(refine vF ?_ ?_<;>intro hc<;>try simp only [vL] at hc)|refine vT ?_));all_goals try conv=>whnf
   ·refine zn (fun ((a,s):Nat×BitVec 64)=>[(1,.d (.int .i64 ((g:Int)))),(2,.d (.bool (false))),(3,.ptr 0 0),(7,.own 1),(8,.d (.int .i64 ((k:Int)))),(9,.d (.u64 (s))),(10,.d (.int .i64 ((a:Int))))]) (fun ((a,s):Nat×BitVec 64)=>[(0,some (zqe m)),(1,some (.row 1 zs))]) 2 (fun ((a,s):Nat×BitVec 64)=>a≤m.rel.length∧s=zgs m g false k a) (fun ((a,s):Nat×BitVec 64)=>m.rel.length - a) ((0,0#64)) [(0,0),(1,1)] [] (⟨by simp,rfl⟩) (by (refine ⟨rfl,rfl,rfl,?_,?_⟩;repeat' first|exact trivial|exact rfl|exact .inl rfl|refine And.intro ?_ ?_|refine ⟨_,rfl,?_⟩|decide)) ?_
    rintro ⟨a,s⟩ ⟨ha,hS⟩
    by_cases hal:a < m.rel.length
    ·obtain ⟨r,hr⟩ : ∃ r,m.rel[a]? = some r:=⟨_,List.getElem?_eq_getElem hal⟩
     obtain ⟨x,hx0⟩ : ∃ x,r[k]? = some x:=⟨_,List.getElem?_eq_getElem (by have:=h64 a r hr;omega)⟩
     (repeat' ((conv=>whnf);first|refine vA ?_|refine vE ?_|refine vH ?_|(refine vF ?_ ?_<;>intro hc<;>try simp only [vL] at hc)|refine vJ fun hg=>?_|refine vT ?_|refine vN ‹_› ?_|((first|refine vO ?_ ?_|refine vP ?_ ?_);·omega)|fail));all_goals try conv=>whnf
     all_goals try (exact absurd ‹Int.tmod _ 2=1› ‹¬Int.tmod _ 2=1›)
     ·refine ⟨(a+1,_),[(0,0),(1,1)],[],?_,?_,by (refine ⟨rfl,rfl,rfl,?_,?_⟩;repeat' first|exact trivial|exact rfl|exact .inl rfl|refine And.intro ?_ ?_|refine ⟨_,rfl,?_⟩|decide)⟩
      ·exact ⟨by (omega),by rw [znk,if_pos ((zhV (m:=g) (k:=a) (by omega)).1 ‹_›),hS,zAz hr hx0];rfl⟩
      ·((simp only [vM] at *;omega))
     ·exact ⟨(a+1,s),[(0,0),(1,1)],[],⟨by (omega),by rw [znk,if_neg (fun h=>‹¬Int.tmod _ 2=1› ((zhV (m:=g) (k:=a) (by omega)).2 h)),hS]⟩,by ((simp only [vM] at *;omega)),by (refine ⟨rfl,rfl,rfl,?_,?_⟩;repeat' first|exact trivial|exact rfl|exact .inl rfl|refine And.intro ?_ ?_|refine ⟨_,rfl,?_⟩|decide)⟩
     all_goals omega
    ·(repeat' ((conv=>whnf);first|refine vA ?_|refine vE ?_|refine vH ?_|(refine vF ?_ ?_<;>intro hc<;>try simp only [vL] at hc)|refine vJ fun hg=>?_|refine vT ?_|(refine vQ ?_ fun x hx=>?_;·omega)|((first|refine vO ?_ ?_|refine vP ?_ ?_);·first|omega|(simp only [vM] at *;omega))|fail));all_goals try conv=>whnf
     ·omega
     all_goals try omega
     have ea:a=m.rel.length:=by omega
     subst ea
     refine ⟨(k+1,_),[(0,0),(1,3)],[],?_,?_,by (refine ⟨rfl,rfl,rfl,?_,?_⟩;repeat' first|exact trivial|exact rfl|exact .inl rfl|refine And.intro ?_ ?_|refine ⟨_,rfl,?_⟩|decide)⟩
     ·exact ⟨by (omega),by rw [List.range_succ,List.map_append,List.map_append,hI,hS];rfl⟩
     ·((simp only [vM] at *;omega))
   ·rw [hI,show k=m.W.toNat by omega];rfl
 ·have hcf:=zrY (T:=T) m
  (repeat' ((conv=>whnf);first|refine vA ?_|((first|refine vD ?_ ?_|refine vF ?_ ?_)<;>intro hc<;>try simp only [vL] at hc)|refine vJ fun hg=>?_|refine vT ?_|((first|refine vO ?_ ?_|refine vP ?_ ?_);·omega)|refine yD hcf ⟨⟨rfl,rfl⟩,rfl⟩ rfl ?_));all_goals try conv=>whnf
  ·rw [zcQ,if_pos (.inl hc)];rfl
  all_goals omega
end Go.Ab
namespace Go.Ab
open Go Go.Proofs
set_option maxRecDepth 10000
set_option maxHeartbeats 4000000
variable {T:Nat→Obj→Prop}
theorem zvm (m:KM) (g:Nat) (hg:g < 2 ^ 63):Fn Tryz.prog T zfC [.d (dKM m),.d (.int .i64 (g:Int))] [] (.d (dU (zcQ m g false))) []:=by
 have c:=zw0 (T:=T) m g hg
 refine zh zw zlA (by show 2≤8;decide) ?_
 (repeat' ((conv=>whnf);first|refine vT ?_|refine yN c ⟨⟨rfl,rfl⟩,⟨rfl,rfl⟩,⟨rfl,rfl⟩,rfl⟩ ?_));all_goals try conv=>whnf
 all_goals first|rfl|skip
theorem zBc {n:Int} (h1:1≤n) (h2:n≤64) {s:BitVec 64} (h:bad n s=false) {i:Nat} (hi:s.getLsbD i=true):i < n.toNat:=by
 have h0:s &&& ~~~zal n=0#64:=by simpa [bad] using h
 have h3:=congrArg (fun x:BitVec 64=>x.getLsbD i) h0
 simp only [BitVec.getLsbD_and,BitVec.getLsbD_not,hi,Bool.true_and,BitVec.getLsbD_zero,Bool.and_eq_false_iff,decide_eq_false_iff_not,Bool.not_eq_false'] at h3
 rcases h3 with h3|h3
 ·exact absurd (BitVec.lt_of_getLsbD hi) h3
 ·unfold zal at h3
  split at h3
  ·have:=BitVec.lt_of_getLsbD hi;omega
  ·rw [show (1#64 <<< n.toNat) - 1#64=zE (fun _=>true) n.toNat by
    refine zf1 fun j=>?_
    rw [zgI (by omega),← BitVec.ofNat_eq_ofNat]
    have:(1#64 <<< n.toNat - 1#64).getLsbD j=decide (j < n.toNat):=by
     rw [show (1#64 <<< n.toNat - 1#64)=BitVec.ofNat 64 (2 ^ n.toNat - 1) by
      apply BitVec.eq_of_toNat_eq
      have hp:2 ^ n.toNat < 2 ^ 64:=Nat.pow_lt_pow_right (by omega) (by omega)
      have hq:=Nat.two_pow_pos n.toNat
      simp [BitVec.toNat_sub,BitVec.toNat_shiftLeft,Nat.shiftLeft_eq]
      omega]
     rw [BitVec.getLsbD_ofNat,Nat.testBit_two_pow_sub_one]
     by_cases hj:j < n.toNat
     ·simp [hj];omega
     ·simp [hj]
    simp [this]] at h3
   exact ((zgI (by omega)).1 h3).1
theorem zyN {m:KM} (hm:zAX m) {a w v:Nat} (h:(zfY m a w).getLsbD v=true):v < m.W.toNat:=by
 unfold zfY at h
 cases hr:m.rel[a]? with
 | none=>simp [List.getD,hr] at h
 | some r =>
  rw [zaY hr] at h
  cases hx:r[w]? with
  | none=>simp [List.getD,hx] at h
  | some x =>
   rw [zaY hx] at h
   exact zBc hm.w1 hm.w2 (hm.rel r (List.mem_of_getElem? hr) x (List.mem_of_getElem? hx)) h
theorem zlg {m:KM} {g w v:Nat} : ∀ k,(zgs m g false w k).getLsbD v=true ↔ ∃ a,a < k∧g.testBit a=true∧(zfY m a w).getLsbD v=true
 | 0=>by simp [zgs]
 | k+1=>by
  rw [znk]
  by_cases hg:g.testBit k=true
  ·rw [if_pos hg,if_neg (by decide),BitVec.getLsbD_or,Bool.or_eq_true,zlg k]
   constructor
   ·rintro (⟨a,h1,h2⟩|h)
    ·exact ⟨a,by omega,h2⟩
    ·exact ⟨k,by omega,hg,h⟩
   ·rintro ⟨a,h1,h2,h3⟩
    by_cases e:a=k
    ·subst e;exact .inr h3
    ·exact .inl ⟨a,by omega,h2,h3⟩
  ·rw [if_neg hg,zlg k]
   constructor
   ·rintro ⟨a,h1,h2⟩;exact ⟨a,by omega,h2⟩
   ·rintro ⟨a,h1,h2,h3⟩
    by_cases e:a=k
    ·subst e;exact absurd h2 hg
    ·exact ⟨a,by omega,h2,h3⟩
theorem zvV {m:KM} (hc:zbq m=0) {g:Nat} {meet:Bool} (h1:1≤g) (h2:g < 2 ^ m.rel.length):zcQ m g meet=(List.range m.W.toNat).map fun w=>zgs m g meet w m.rel.length:=by
 rw [zcQ,if_neg (by omega)]
theorem zyj {m:KM} (hc:zbq m=0) {g:Nat} {meet:Bool} (h1:1≤g) (h2:g < 2 ^ m.rel.length) {w:Nat} (hw:w < m.W.toNat):(zcQ m g meet).getD w 0#64=zgs m g meet w m.rel.length:=by
 rw [zvV hc h1 h2]
 exact zaY (by simp [hw])
noncomputable def zlM (m:KM) (h:Hd) (x y:BitVec 64):BitVec 64 :=
 if h.op=3 then m.val.getD h.i.toNat 0#64 else if h.op≤8 then zsW h.op x y (zal m.W) else if h.op=9 then zfp (m.rel.getD h.i.toNat []) m.W.toNat x else if h.op=10 then zal m.W &&& ~~~zfp (m.rel.getD h.i.toNat []) m.W.toNat (zal m.W &&& ~~~x) else
 if h.op=11 then zfp (zcQ m h.g.toNat false) m.W.toNat x else zwC (zcQ m h.g.toNat false) m.W.toNat x y
theorem zBr (m:KM) (hc:zbq m=0) (n:Nd) (x y:BitVec 64) (h3:n.op=3→0≤n.i∧n.i < m.val.length) (h9:n.op=9∨n.op=10→0≤n.i∧n.i < m.rel.length) (h11:11≤n.op→n.op≠12∧1≤n.g∧n.g.toNat < 2 ^ m.rel.length) :
  Fn Tryz.prog T zd0 [.d (dKM m),.d (dNd n),.d (.u64 x),.d (.u64 y)] [] (.d (.u64 (zlM m n.hd x y))) []:=by
 have hgd:=zo1 hc
 have w1:=hgd.w1
 have w2:=hgd.w2
 have hlen : ∀ r,m.rel[n.i.toNat]? = some r→(r.length:Int)=m.W:=fun r h=>hgd.len r (List.mem_of_getElem? h)
 have hg63:11≤n.op→n.g.toNat < 2 ^ 63∧((n.g.toNat:Nat):Int)=n.g∧((zcQ m n.g.toNat false).length:Int)=m.W∧zhT (zcQ m n.g.toNat false) m.W.toNat:=fun h=>by
  obtain ⟨a1,a2,a3⟩:=h11 h
  have n4:=hgd.n4
  have:2 ^ m.rel.length≤2 ^ 4:=Nat.pow_le_pow_right (by omega) n4
  refine ⟨by omega,by omega,by rw [zvV hc (by omega) a3];simp;omega,fun v u hv hu=>?_⟩
  rw [zyj hc (by omega) a3 hv,zlg] at hu
  obtain ⟨a,-,-,hu⟩:=hu
  exact zyN hgd hu
 refine zh zw znA (by show 4≤92;decide) ?_
 by_cases hop:11≤n.op
 ·obtain ⟨b1,b2,b3,b4⟩:=hg63 hop
  obtain ⟨a1,a2,a3⟩:=h11 hop
  have cg:=zvm (T:=T) m n.g.toNat b1
  rw [b2] at cg
  have cb:=zrm (T:=T) (zcQ m n.g.toNat false) m.W x (by omega) (by omega)
  have cc:=zwZ (T:=T) (zcQ m n.g.toNat false) m.W x y (by omega) (by omega) b4
  (repeat' ((conv=>whnf);first|refine zO.decN (by omega) ?_|refine vA ?_|(refine vF ?_ ?_<;>intro hc)|refine vT ?_|(refine vU ?_ ?_;·kernel_rfl)|refine vY ?_|refine yD (ziu m.W (by omega)) ⟨⟨rfl,rfl⟩,rfl⟩ rfl ?_|refine yN cg ⟨⟨rfl,rfl⟩,⟨rfl,rfl⟩,rfl⟩ ?_|refine yD cb ⟨⟨rfl,rfl⟩,⟨rfl,rfl⟩,⟨rfl,rfl⟩,rfl⟩ rfl ?_|refine yD cc (by (repeat refine ⟨⟨rfl,rfl⟩,?_⟩);rfl) rfl ?_));all_goals try conv=>whnf
  ·rw [zlM,if_neg (by show ¬n.op=3;omega),if_neg (by show ¬n.op≤8;omega),if_neg (by show ¬n.op=9;omega),if_neg (by show ¬n.op=10;omega),if_pos (by show n.op=11;omega)];rfl
  ·rw [zlM,if_neg (by show ¬n.op=3;omega),if_neg (by show ¬n.op≤8;omega),if_neg (by show ¬n.op=9;omega),if_neg (by show ¬n.op=10;omega),if_neg (by show ¬n.op=11;omega)];rfl
 ·by_cases hop':n.op=9∨n.op=10
  ·obtain ⟨i0,i1⟩:=h9 hop'
   obtain ⟨r,hr⟩ : ∃ r,m.rel[n.i.toNat]? = some r:=⟨_,List.getElem?_eq_getElem (by omega)⟩
   have hl:=hlen r hr
   have hrd:m.rel.getD n.i.toNat []=r:=zaY hr
   have cb:=zrm (T:=T) r m.W x (by omega) (by omega)
   have cb2:=zrm (T:=T) r m.W (zal m.W &&& ~~~x) (by omega) (by omega)
   by_cases h9':n.op=9
   ·(repeat' ((conv=>whnf);first|refine zO.decN (by omega) ?_|refine zO.decY (by omega) ?_|refine vA ?_|refine vT ?_|(refine vR ?_ ‹_› ?_;·omega)|(refine vU ?_ ?_;·kernel_rfl)|refine vY ?_|refine yD (ziu m.W (by omega)) ⟨⟨rfl,rfl⟩,rfl⟩ rfl ?_|refine yD cb ⟨⟨rfl,rfl⟩,⟨rfl,rfl⟩,⟨rfl,rfl⟩,rfl⟩ rfl ?_));all_goals try conv=>whnf
    rw [zlM,if_neg (show ¬n.hd.op=3 by show ¬n.op=3;omega),if_neg (show ¬n.hd.op≤8 by show ¬n.op≤8;omega),if_pos (show n.hd.op=9 from h9')]
    exact congrArg (fun r=>zfp r m.W.toNat x) hrd.symm
   ·(repeat' ((conv=>whnf);first|refine zO.decN (by omega) ?_|refine zO.decY (by omega) ?_|refine vA ?_|refine vT ?_|(refine vR ?_ ‹_› ?_;·omega)|(refine vU ?_ ?_;·kernel_rfl)|refine vY ?_|refine yD (ziu m.W (by omega)) ⟨⟨rfl,rfl⟩,rfl⟩ rfl ?_|refine yD cb2 ⟨⟨rfl,rfl⟩,⟨rfl,rfl⟩,⟨rfl,rfl⟩,rfl⟩ rfl ?_));all_goals try conv=>whnf
    rw [zlM,if_neg (show ¬n.hd.op=3 by show ¬n.op=3;omega),if_neg (show ¬n.hd.op≤8 by show ¬n.op≤8;omega),if_neg (show ¬n.hd.op=9 from h9'),if_pos (show n.hd.op=10 by show n.op=10;omega)]
    exact congrArg (fun r=>zal m.W &&& ~~~zfp r m.W.toNat (zal m.W &&& ~~~x)) hrd.symm
  ·(repeat' ((conv=>whnf);first|refine vA ?_|(refine vF ?_ ?_<;>intro hc<;>try simp only [vL] at hc)|refine vT ?_|(refine vS ?_ fun x hx=>?_;·omega)|refine vY ?_|refine yD (ziu m.W (by omega)) ⟨⟨rfl,rfl⟩,rfl⟩ rfl ?_|refine yD (zvl _ _ _ _) (by (repeat refine ⟨⟨rfl,rfl⟩,?_⟩);rfl) rfl ?_));all_goals try conv=>whnf
   all_goals try omega
   ·rw [zlM,if_pos (show n.hd.op=3 from ‹n.op=3›)]
    exact (zaY hx).symm
   ·rw [zlM,if_neg (show ¬n.hd.op=3 from ‹¬n.op=3›),if_pos (show n.hd.op≤8 from ‹_›)];rfl
end Go.Ab
namespace Go.Ab
open Go Go.Proofs
set_option maxRecDepth 10000
set_option maxHeartbeats 4000000
variable {T:Nat→Obj→Prop}
noncomputable def zaL (p:PM) (h:Hd) (x y:BitVec 64):BitVec 64 :=
 if h.op=1 then zal p.W else if h.op=3 then p.val.getD h.i.toNat 0#64 else if h.op=4 then zal p.W &&& ~~~x else if h.op=5 then x&&&y else if h.op=6 then x|||y else if h.op=7 then zal p.W &&& ~~~x|||y else
 if h.op=8 then zal p.W &&& ~~~(x ^^^ y) else if h.op=9 then zc7 p h.i x else if h.op=10 then zal p.W &&& ~~~zc7 p h.i (zal p.W &&& ~~~x) else if h.op=11 then zfw p h.g.toNat x else
 if h.op=13 then zdu p h.g.toNat x y else if h.op=14 then zb7 p h.i x y else if h.op=15 then zdw p h.i x else 0#64
end Go.Ab
namespace Go.Ab
open Go Go.Proofs
set_option maxRecDepth 10000
set_option maxHeartbeats 4000000
variable {T:Nat→Obj→Prop}
theorem zsq {β:Type} (v:Hd→β→β→β) (d:β) (n:Nd) : ∀ (l:List Nd) (acc:List β),zcj v d (l++[n]) acc=zcj v d l acc++[v n.hd ((zcj v d l acc).getD n.x.toNat d) ((zcj v d l acc).getD n.y.toNat d)]
 | [],acc=>rfl
 | m::r,acc=>by rw [List.cons_append,zcj,zcj,zsq v d n r]
theorem zsz (p:PM):zzz (zaL p) where
 x h a b c hx:=by
  have : ¬(4≤h.op∧h.op≤21):=by simpa [zae] using hx
  unfold zaL
  repeat (rw [if_neg (show ¬h.op=4 by omega)])
  by_cases h1:h.op=1
  ·simp [h1]
  ·by_cases h3:h.op=3
   ·simp [h3]
   ·simp only [h1,h3,if_false,show ¬h.op=5 by omega,show ¬h.op=6 by omega,show ¬h.op=7 by omega,show ¬h.op=8 by omega,show ¬h.op=9 by omega,show ¬h.op=10 by omega,show ¬h.op=11 by omega,show ¬h.op=13 by omega,show ¬h.op=14 by omega,show ¬h.op=15 by omega]
 y h a b c hy:=by
  have : ¬(5≤h.op∧h.op≤8∨h.op=13∨h.op=14∨h.op=16∨h.op=19∨h.op=21):=by simpa [zT] using hy
  unfold zaL
  simp only [show ¬h.op=5 by omega,show ¬h.op=6 by omega,show ¬h.op=7 by omega,show ¬h.op=8 by omega,show ¬h.op=13 by omega,show ¬h.op=14 by omega,if_false]
noncomputable def zcE (p:PM) (f:List Nd):BitVec 64×Int :=
 if zm p≠0 then (0#64,zm p) else if zbI f≠0 then (0#64,zbI f) else if zbt .i64 (fun p q=>p &&& ~~~q) (uni zbO (cL f):Int) 59≠0 then (0#64,10) else
 if zdH f p.cell.length p.val.length=false then (0#64,2) else ((zcj (zaL p) 0#64 (cL f) []).getD ((cL f).length - 1) 0#64,0)
abbrev dUE (x:BitVec 64×Int):D := .tup [.u64 x.1,.int .i64 x.2]
theorem zCc {f:List Nd} {a b:Nat} (ha:a≤4) (hb:b≤8) (h:zdH f a b=true) {n:Nd} (hn:n∈cL f):(n.op=3→0≤n.i∧n.i < b)∧(zap n.op=true→0≤n.i∧n.i < a)∧(zaB n.op=true→n.g.toNat < 2 ^ a):=by
 have hh:=zgP hn
 simp only [zdH,zg4,Bool.and_eq_true,decide_eq_true_eq,Int.toNat_natCast] at h
 obtain ⟨⟨-,h1⟩,h2⟩:=h
 have h1:=(zf2 zam).1 (h1.resolve_left (by omega)) n hn
 have h2:=(zf2 zbk).1 (h2.resolve_left (by omega)) n hn
 refine ⟨fun e=>?_,fun e=>?_,fun e=>?_⟩
 ·have e':zbS n.hd.op=true:=decide_eq_true e
  have h3:0≤n.i∧n.i≤7:=hh.fact e'
  rw [zbk,if_pos e'] at h2
  have h2:2 ^ n.i.toNat < 2 ^ b:=h2
  have:=(Nat.pow_lt_pow_iff_right (by decide:1 < 2)).1 h2
  omega
 ·have h3:0≤n.i∧n.i≤3:=hh.agent e
  rw [zam,if_pos (show zap n.hd.op=true from e)] at h1
  have h1:2 ^ n.i.toNat < 2 ^ a:=h1
  have:=(Nat.pow_lt_pow_iff_right (by decide:1 < 2)).1 h1
  omega
 ·have h3 : ¬ zap n.hd.op=true:=by
   have:11≤n.op∧n.op≤13:=by simpa [zaB] using e
   simp only [zap,decide_eq_true_eq];show ¬(n.op=9∨n.op=10∨n.op=14∨n.op=15);omega
  rw [zam,if_neg h3] at h1
  exact h1
end Go.Ab
namespace Go.Ab
open Go Go.Proofs
set_option maxRecDepth 10000
set_option maxHeartbeats 4000000
variable {T:Nat→Obj→Prop}
theorem zrW (p:PM) (hp:zas p.rank) (a w:Int) (hat:At p a w):Fn Tryz.prog T zgf [.d (dPM p),.d (.int .i64 a),.d (.int .i64 w)] [] (.d (.u64 (zaC p a w))) []:=by
 obtain ⟨hrow,-,hlen,-,h64,ha,-⟩:=hat.rows
 have ha0:=hat.a0
 have hw0:=hat.w0
 have hw1:=hat.w1
 refine zh zw zmt (by show 3≤37;decide) ?_
 (repeat' ((conv=>whnf);first|refine vA ?_|refine vT ?_));all_goals try conv=>whnf
 refine zn (fun ((k,s):Nat×BitVec 64)=>[(1,.d (.int .i64 (a))),(2,.d (.int .i64 (w))),(3,.ptr 0 0),(7,.d (.u64 (s))),(8,.d (.int .i64 ((k:Int))))]) (fun ((k,s):Nat×BitVec 64)=>[(0,some (zay p))]) 1 (fun ((k,s):Nat×BitVec 64)=>k≤p.W.toNat∧s=zE (fun v=>at0 (za p.cell a.toNat) v==at0 (za p.cell a.toNat) w.toNat) k) (fun ((k,s):Nat×BitVec 64)=>p.W.toNat - k) ((0,0#64)) [(0,0)] [] (⟨by simp,rfl⟩) (by (refine ⟨rfl,rfl,rfl,?_,?_⟩;repeat' first|exact trivial|exact rfl|refine And.intro ?_ ?_|refine ⟨_,rfl,?_⟩|decide)) ?_
 rintro ⟨k,s⟩ ⟨hk,hI⟩
 (repeat' ((conv=>whnf);first|refine vA ?_|(refine vF ?_ ?_<;>intro hc<;>try simp only [vL] at hc)|refine vT ?_|(refine vQ ?_ fun x hx=>?_;·omega)|((first|refine vO ?_ ?_|refine vR ?_ ‹_› ?_|refine vS ?_ fun x hx=>?_|refine vP ?_ ?_);·omega)|(refine vU ?_ ?_;·kernel_rfl)|refine vY ?_));all_goals try conv=>whnf
 ·have h1:=zy ‹(za p.cell a.toNat)[k]? = some _›
  have h2:=zy hx
  refine ⟨(k+1,_),[(0,0)],[],?_,?_,by (refine ⟨rfl,rfl,rfl,?_,?_⟩;repeat' first|exact trivial|exact rfl|refine And.intro ?_ ?_|refine ⟨_,rfl,?_⟩|decide)⟩
  ·exact ⟨by (omega),by rw [zE,if_pos (by simp;omega),hI];rfl⟩
  ·((simp only [vM] at *;omega))
 ·have h1:=zy ‹(za p.cell a.toNat)[k]? = some _›
  have h2:=zy hx
  exact ⟨(k+1,s),[(0,0)],[],⟨by (omega),by rw [zE,if_neg (by simp;omega),hI]⟩,by ((simp only [vM] at *;omega)),by (refine ⟨rfl,rfl,rfl,?_,?_⟩;repeat' first|exact trivial|exact rfl|refine And.intro ?_ ?_|refine ⟨_,rfl,?_⟩|decide)⟩
 ·rw [zaC,if_pos hat,hI,zhW,show k=(za p.cell a.toNat).length by omega]
def zie (rank:List Int) (s:BitVec 64) (k:Nat) (m:Int):Prop:=(m < 0 ∧ ∀ v,v < k→s.getLsbD v=false)∨(0≤m∧(∃ v,v < k∧s.getLsbD v=true∧at0 rank v=m) ∧ ∀ v,v < k→s.getLsbD v=true→m≤at0 rank v)
theorem zie.keep {rank:List Int} {s:BitVec 64} {k:Nat} {m:Int} (h:zie rank s k m) (hk:s.getLsbD k=true→0≤m∧m≤at0 rank k):zie rank s (k+1) m:=by
 rcases h with ⟨h1,h2⟩|⟨h1,⟨v,a,b,c⟩,h3⟩
 ·refine .inl ⟨h1,fun v hv=>?_⟩
  by_cases e:v=k
  ·subst e
   cases hs:s.getLsbD v with
   | false=>rfl
   | true=>have:=hk hs;omega
  ·exact h2 v (by omega)
 ·refine .inr ⟨h1,⟨v,by omega,b,c⟩,fun u hu hs=>?_⟩
  by_cases e:u=k
  ·subst e;exact (hk hs).2
  ·exact h3 u (by omega) hs
theorem zie.take {rank:List Int} {s:BitVec 64} {k:Nat} {m:Int} (h:zie rank s k m) (hk:s.getLsbD k=true) (h0:0≤at0 rank k) (hm:m < 0∨at0 rank k < m):zie rank s (k+1) (at0 rank k):=by
 refine .inr ⟨h0,⟨k,by omega,hk,rfl⟩,fun v hv hs=>?_⟩
 by_cases e:v=k
 ·subst e;exact Int.le_refl _
 ·rcases h with ⟨h1,h2⟩|⟨h1,-,h3⟩
  ·rw [h2 v (by omega)] at hs;cases hs
  ·have:=h3 v (by omega) hs;omega
theorem zx2 (p:PM) (hp:zas p.rank) (a w:Int) (hat:At p a w) (c:BitVec 64):Fn Tryz.prog T zgg [.d (dPM p),.d (.int .i64 a),.d (.int .i64 w),.d (.u64 c)] [] (.d (.u64 (ziO p a w c))) []:=by
 obtain ⟨hrow,hrank,hlen,hlen',h64,ha,-⟩:=hat.rows
 have ha0:=hat.a0
 have hw0:=hat.w0
 have hw1:=hat.w1
 have hg:=zz hat.ok
 refine zh zw zmu (by show 4≤79;decide) ?_
 (repeat' ((conv=>whnf);first|refine vA ?_|refine vT ?_|refine yD (zrW p hp a w hat) ⟨⟨rfl,rfl⟩,⟨rfl,rfl⟩,⟨rfl,rfl⟩,rfl⟩ rfl ?_));all_goals try conv=>whnf
 refine zn (fun ((k,m):Nat×Int)=>[(1,.d (.int .i64 (a))),(4,.ptr 0 0),(9,.d (.u64 (zaC p a w&&&c))),(10,.d (.int .i64 (m))),(11,.d (.u64 (0#64))),(12,.d (.int .i64 ((k:Int))))]) (fun ((k,m):Nat×Int)=>[(0,some (zay p))]) 1 (fun ((k,m):Nat×Int)=>k≤p.W.toNat∧zie (za p.rank a.toNat) (zaC p a w&&&c) k m) (fun ((k,m):Nat×Int)=>p.W.toNat - k) ((0,-1)) [(0,0)] [] (⟨by simp,.inl ⟨by decide,fun v hv=>by omega⟩⟩) (by (refine ⟨rfl,rfl,rfl,?_,?_⟩;repeat' first|exact trivial|exact rfl|refine And.intro ?_ ?_|refine ⟨_,rfl,?_⟩|decide)) ?_
 rintro ⟨k,m⟩ ⟨hk,hI⟩
 (repeat' ((conv=>whnf);first|refine vA ?_|refine vE ?_|(refine vF ?_ ?_<;>intro hc<;>try simp only [vL] at hc)|refine vT ?_|refine vN ‹_› ?_|(refine vQ ?_ fun x hx=>?_;·omega)|((first|refine vO ?_ ?_|refine vR ?_ ‹_› ?_);·omega)|refine yD (ztZ _ _) ⟨⟨rfl,rfl⟩,⟨rfl,rfl⟩,rfl⟩ rfl ?_));all_goals try conv=>whnf
 ·have hb:=zzI ‹_›
  exact ⟨(k+1,m),[(0,0)],[],⟨by (omega),hI.keep fun h=>by rw [hb] at h;cases h⟩,by ((simp only [vM] at *;omega)),by (refine ⟨rfl,rfl,rfl,?_,?_⟩;repeat' first|exact trivial|exact rfl|refine And.intro ?_ ?_|refine ⟨_,rfl,?_⟩|decide)⟩
 ·have hb:=zwy ‹_›
  have e1:=zy ‹(za p.rank a.toNat)[k]? = some _›
  have h0:=zjh hat (i:=k) (by rw [BitVec.getLsbD_and,Bool.and_eq_true] at hb;exact hb.1)
  rw [← e1]
  refine ⟨(k+1,_),[(0,0)],[],?_,?_,by (refine ⟨rfl,rfl,rfl,?_,?_⟩;repeat' first|exact trivial|exact rfl|refine And.intro ?_ ?_|refine ⟨_,rfl,?_⟩|decide)⟩
  ·exact ⟨by (omega),hI.take hb h0 (.inl ‹_›)⟩
  ·((simp only [vM] at *;omega))
 ·have hb:=zwy ‹_›
  have e1:=zy ‹(za p.rank a.toNat)[k]? = some _›
  have h0:=zjh hat (i:=k) (by rw [BitVec.getLsbD_and,Bool.and_eq_true] at hb;exact hb.1)
  have h1:at0 (za p.rank a.toNat) k < m:=by omega
  rw [← e1]
  refine ⟨(k+1,_),[(0,0)],[],?_,?_,by (refine ⟨rfl,rfl,rfl,?_,?_⟩;repeat' first|exact trivial|exact rfl|refine And.intro ?_ ?_|refine ⟨_,rfl,?_⟩|decide)⟩
  ·exact ⟨by (omega),hI.take hb h0 (.inr h1)⟩
  ·((simp only [vM] at *;omega))
 ·have e1:=zy ‹(za p.rank a.toNat)[k]? = some _›
  exact ⟨(k+1,m),[(0,0)],[],⟨by (omega),hI.keep fun h=>by omega⟩,by ((simp only [vM] at *;omega)),by (refine ⟨rfl,rfl,rfl,?_,?_⟩;repeat' first|exact trivial|exact rfl|refine And.intro ?_ ?_|refine ⟨_,rfl,?_⟩|decide)⟩
 ·have hk':k=p.W.toNat:=by omega
  subst hk'
  refine zn (fun ((k,o):Nat×BitVec 64)=>[(1,.d (.int .i64 (a))),(4,.ptr 0 0),(9,.d (.u64 (zaC p a w&&&c))),(10,.d (.int .i64 (m))),(11,.d (.u64 (o))),(13,.d (.int .i64 ((k:Int))))]) (fun ((k,o):Nat×BitVec 64)=>[(0,some (zay p))]) 1 (fun ((k,o):Nat×BitVec 64)=>k≤p.W.toNat∧o=zE (fun v=>(zaC p a w&&&c).getLsbD v&&decide (at0 (za p.rank a.toNat) v=m)) k) (fun ((k,o):Nat×BitVec 64)=>p.W.toNat - k) ((0,0#64)) [(0,0)] [] (⟨by simp,rfl⟩) (by (refine ⟨rfl,rfl,rfl,?_,?_⟩;repeat' first|exact trivial|exact rfl|refine And.intro ?_ ?_|refine ⟨_,rfl,?_⟩|decide)) ?_
  rintro ⟨k,o⟩ ⟨hk,hO⟩
  (repeat' ((conv=>whnf);first|refine vA ?_|refine vE ?_|(refine vF ?_ ?_<;>intro hc<;>try simp only [vL] at hc)|refine vT ?_|(refine vQ ?_ fun x hx=>?_;·omega)|((first|refine vO ?_ ?_|refine vR ?_ ‹_› ?_|refine vP ?_ ?_);·omega)|refine vY ?_|refine yD (ztZ _ _) ⟨⟨rfl,rfl⟩,⟨rfl,rfl⟩,rfl⟩ rfl ?_));all_goals try conv=>whnf
  ·have hb:=zzI ‹_›
   exact ⟨(k+1,o),[(0,0)],[],⟨by (omega),by rw [zE,if_neg (by simp [hb]),hO]⟩,by ((simp only [vM] at *;omega)),by (refine ⟨rfl,rfl,rfl,?_,?_⟩;repeat' first|exact trivial|exact rfl|refine And.intro ?_ ?_|refine ⟨_,rfl,?_⟩|decide)⟩
  ·have hb:=zwy ‹_›
   have e1:=zy ‹(za p.rank a.toNat)[k]? = some _›
   have h1:at0 (za p.rank a.toNat) k=m:=by omega
   refine ⟨(k+1,_),[(0,0)],[],?_,?_,by (refine ⟨rfl,rfl,rfl,?_,?_⟩;repeat' first|exact trivial|exact rfl|refine And.intro ?_ ?_|refine ⟨_,rfl,?_⟩|decide)⟩
   ·exact ⟨by (omega),by rw [zE,if_pos (by simp [hb,h1]),hO];rfl⟩
   ·((simp only [vM] at *;omega))
  ·have e1:=zy ‹(za p.rank a.toNat)[k]? = some _›
   have h1 : ¬at0 (za p.rank a.toNat) k=m:=by omega
   exact ⟨(k+1,o),[(0,0)],[],⟨by (omega),by rw [zE,if_neg (by simp [h1]),hO]⟩,by ((simp only [vM] at *;omega)),by (refine ⟨rfl,rfl,rfl,?_,?_⟩;repeat' first|exact trivial|exact rfl|refine And.intro ?_ ?_|refine ⟨_,rfl,?_⟩|decide)⟩
  ·rw [hO,show k=p.W.toNat by omega]
   refine zf1 fun i=>?_
   rw [zgI (W64 hat.ok),zrM hat]
   have hW : ∀ u,(zaC p a w).getLsbD u=true→u < p.W.toNat:=fun u hu=>((zg5 hat).1 hu).1
   simp only [BitVec.getLsbD_and,Bool.and_eq_true,decide_eq_true_eq]
   constructor
   ·rintro ⟨h1,⟨h2,h3⟩,h4⟩
    refine ⟨⟨h3,h2⟩,fun u hu hu'=>?_⟩
    rcases hI with ⟨-,g⟩|⟨-,-,g⟩
    ·have:=g i h1;rw [BitVec.getLsbD_and,h2,h3] at this;cases this
    ·rw [h4];exact g u (hW u hu') (by rw [BitVec.getLsbD_and,hu',hu];rfl)
   ·rintro ⟨⟨h3,h2⟩,h4⟩
    have h1:=hW i h2
    refine ⟨h1,⟨h2,h3⟩,?_⟩
    rcases hI with ⟨-,g⟩|⟨-,⟨v,g1,g2,g3⟩,g⟩
    ·have:=g i h1;rw [BitVec.getLsbD_and,h2,h3] at this;cases this
    ·rw [BitVec.getLsbD_and,Bool.and_eq_true] at g2
     have a1:=g i h1 (by rw [BitVec.getLsbD_and,h2,h3];rfl)
     have a2:=h4 v g2.2 g2.1
     omega
end Go.Ab
namespace Go.Ab
open Go Go.Proofs
set_option maxRecDepth 10000
set_option maxHeartbeats 4000000
variable {T:Nat→Obj→Prop}
theorem zsJ (p:PM) (hp:zas p.rank) (hc0:zm p=0) (a:Int) (ha0:0≤a) (ha1:a < p.cell.length) (c s:BitVec 64):Fn Tryz.prog T zet [.d (dPM p),.d (.int .i64 a),.d (.u64 c),.d (.u64 s)] [] (.d (.u64 (zb7 p a c s))) []:=by
 have hgd:=zz hc0
 have h2:=hgd.w2
 refine zh zw ziK (by show 4≤30;decide) ?_
 (repeat' ((conv=>whnf);first|refine vA ?_|refine vT ?_));all_goals try conv=>whnf
 refine zn (fun ((k,o):Nat×BitVec 64)=>[(1,.d (.int .i64 (a))),(2,.d (.u64 (c))),(3,.d (.u64 (s))),(4,.ptr 0 0),(9,.d (.u64 (o))),(10,.d (.int .i64 ((k:Int))))]) (fun ((k,o):Nat×BitVec 64)=>[(0,some (zay p))]) 1 (fun ((k,o):Nat×BitVec 64)=>k≤p.W.toNat∧o=zE (fun w=>decide (ziO p a w c &&& ~~~s=0#64)) k) (fun ((k,o):Nat×BitVec 64)=>p.W.toNat - k) ((0,0#64)) [(0,0)] [] (⟨by simp,rfl⟩) (by (refine ⟨rfl,rfl,rfl,?_,?_⟩;repeat' first|exact trivial|exact rfl|refine And.intro ?_ ?_|refine ⟨_,rfl,?_⟩|decide)) ?_
 rintro ⟨k,o⟩ ⟨hk,hI⟩
 by_cases hkW:k < p.W.toNat
 ·have hat:At p a k:=⟨hc0,ha0,ha1,by omega,by omega⟩
  (repeat' ((conv=>whnf);first|refine vA ?_|(refine vF ?_ ?_<;>intro hc<;>try simp only [vL] at hc)|refine vT ?_|((first|refine vO ?_ ?_|refine vP ?_ ?_);·omega)|refine vY ?_|refine yD (zx2 p hp a k hat c) (by (repeat refine ⟨⟨rfl,rfl⟩,?_⟩);rfl) rfl ?_));all_goals try conv=>whnf
  ·have h1:=‹ziO p a k c &&& ~~~s=0#64›
   refine ⟨(k+1,_),[(0,0)],[],?_,?_,by (refine ⟨rfl,rfl,rfl,?_,?_⟩;repeat' first|exact trivial|exact rfl|refine And.intro ?_ ?_|refine ⟨_,rfl,?_⟩|decide)⟩
   ·exact ⟨by (omega),by rw [zE,if_pos (decide_eq_true h1),hI];rfl⟩
   ·((simp only [vM] at *;omega))
  ·have h1:=‹¬ziO p a k c &&& ~~~s=0#64›
   exact ⟨(k+1,o),[(0,0)],[],⟨by (omega),by rw [zE,if_neg (by simpa using h1),hI]⟩,by ((simp only [vM] at *;omega)),by (refine ⟨rfl,rfl,rfl,?_,?_⟩;repeat' first|exact trivial|exact rfl|refine And.intro ?_ ?_|refine ⟨_,rfl,?_⟩|decide)⟩
  all_goals omega
 ·(repeat' ((conv=>whnf);first|refine vA ?_|(refine vF ?_ ?_<;>intro hc<;>try simp only [vL] at hc)|refine vT ?_|refine vY ?_));all_goals try conv=>whnf
  ·omega
  ·rw [hI,show k=p.W.toNat by omega];rfl
end Go.Ab
namespace Go.Ab
open Go Go.Proofs
set_option maxRecDepth 10000
set_option maxHeartbeats 4000000
variable {T:Nat→Obj→Prop}
def zq3 (p:PM) (a w:Nat):BitVec 64:=zE (fun v=>decide (at0 (za p.cell a) v=at0 (za p.cell a) w∧at0 (za p.rank a) v≤at0 (za p.rank a) w)) p.W.toNat
theorem zw1 (p:PM) (hp:zas p.rank) (a w:Nat) (hat:At p a w):Fn Tryz.prog T zfJ [.d (dPM p),.d (.int .i64 (a:Int)),.d (.int .i64 (w:Int))] [] (.d (.u64 (zq3 p a w))) []:=by
 obtain ⟨hrow,hrank,hlen,hlen',h64,ha,-⟩:=hat.rows
 have hw1:=hat.w1
 rw [Int.toNat_natCast] at hrow hrank hlen hlen'
 refine zh zw zlH (by show 3≤56;decide) ?_
 (repeat' ((conv=>whnf);first|refine vA ?_|refine vT ?_));all_goals try conv=>whnf
 refine zn (fun ((k,o):Nat×BitVec 64)=>[(1,.d (.int .i64 ((a:Int)))),(2,.d (.int .i64 ((w:Int)))),(3,.ptr 0 0),(7,.d (.u64 (o))),(8,.d (.int .i64 ((k:Int))))]) (fun ((k,o):Nat×BitVec 64)=>[(0,some (zay p))]) 1 (fun ((k,o):Nat×BitVec 64)=>k≤p.W.toNat∧o=zE (fun v=>decide (at0 (za p.cell a) v=at0 (za p.cell a) w∧at0 (za p.rank a) v≤at0 (za p.rank a) w)) k) (fun ((k,o):Nat×BitVec 64)=>p.W.toNat - k) ((0,0#64)) [(0,0)] [] (⟨by simp,rfl⟩) (by (refine ⟨rfl,rfl,rfl,?_,?_⟩;repeat' first|exact trivial|exact rfl|refine And.intro ?_ ?_|refine ⟨_,rfl,?_⟩|decide)) ?_
 rintro ⟨k,o⟩ ⟨hk,hI⟩
 by_cases hkW:(k:Int) < p.W
 ·obtain ⟨x1,e1⟩ : ∃ x,(za p.cell a)[k]? = some x:=⟨_,List.getElem?_eq_getElem (by omega)⟩
  obtain ⟨x2,e2⟩ : ∃ x,(za p.cell a)[w]? = some x:=⟨_,List.getElem?_eq_getElem (by omega)⟩
  obtain ⟨x3,e3⟩ : ∃ x,(za p.rank a)[k]? = some x:=⟨_,List.getElem?_eq_getElem (by omega)⟩
  obtain ⟨x4,e4⟩ : ∃ x,(za p.rank a)[w]? = some x:=⟨_,List.getElem?_eq_getElem (by omega)⟩
  have f1:=zy e1
  have f2:=zy e2
  have f3:=zy e3
  have f4:=zy e4
  (repeat' ((conv=>whnf);first|refine vA ?_|(refine vF ?_ ?_<;>intro hc<;>try simp only [vL] at hc)|refine vT ?_|refine vN ‹_› ?_|((first|refine vO ?_ ?_|refine vP ?_ ?_);·omega)|(refine vU ?_ ?_;·kernel_rfl)|refine vY ?_));all_goals try conv=>whnf
  ·refine ⟨(k+1,_),[(0,0)],[],?_,?_,by (refine ⟨rfl,rfl,rfl,?_,?_⟩;repeat' first|exact trivial|exact rfl|refine And.intro ?_ ?_|refine ⟨_,rfl,?_⟩|decide)⟩
   ·exact ⟨by (omega),by rw [zE,if_pos (decide_eq_true ⟨by omega,by omega⟩),hI];rfl⟩
   ·((simp only [vM] at *;omega))
  ·exact ⟨(k+1,o),[(0,0)],[],⟨by (omega),by rw [zE,if_neg (by rw [decide_eq_true_eq];omega),hI]⟩,by ((simp only [vM] at *;omega)),by (refine ⟨rfl,rfl,rfl,?_,?_⟩;repeat' first|exact trivial|exact rfl|refine And.intro ?_ ?_|refine ⟨_,rfl,?_⟩|decide)⟩
  ·exact ⟨(k+1,o),[(0,0)],[],⟨by (omega),by rw [zE,if_neg (by rw [decide_eq_true_eq];omega),hI]⟩,by ((simp only [vM] at *;omega)),by (refine ⟨rfl,rfl,rfl,?_,?_⟩;repeat' first|exact trivial|exact rfl|refine And.intro ?_ ?_|refine ⟨_,rfl,?_⟩|decide)⟩
  all_goals omega
 ·(repeat' ((conv=>whnf);first|refine zO.decN (by omega) ?_|refine vA ?_|refine vT ?_|refine vY ?_));all_goals try conv=>whnf
  rw [hI,show k=p.W.toNat by omega];rfl
theorem zvn (p:PM) (hp:zas p.rank) (hc0:zm p=0) (a:Nat) (ha:a < p.cell.length) (s:BitVec 64):Fn Tryz.prog T ze8 [.d (dPM p),.d (.int .i64 (a:Int)),.d (.u64 s)] [] (.d (.u64 (zdw p a s))) []:=by
 have hgd:=zz hc0
 have h2:=hgd.w2
 have e:zdw p a s=zE (fun w=>decide (zq3 p a w &&& ~~~s=0#64)) p.W.toNat:=by
  refine zf1 fun w=>?_
  rw [zlV hc0 ha,zeI (W64 hc0)]
  refine and_congr_right fun hw=>?_
  rw [zeq]
  unfold zq3
  constructor
  ·intro h v hv
   rw [zeI (W64 hc0)] at hv
   exact h v ⟨hv.1,hv.2.1⟩ hv.2.2
  ·intro h v hv hr
   exact h v ((zeI (W64 hc0)).2 ⟨hv.1,hv.2,hr⟩)
 rw [e]
 refine zh zw zj5 (by show 3≤27;decide) ?_
 (repeat' ((conv=>whnf);first|refine vA ?_|refine vT ?_));all_goals try conv=>whnf
 refine zn (fun ((k,o):Nat×BitVec 64)=>[(1,.d (.int .i64 ((a:Int)))),(2,.d (.u64 (s))),(3,.ptr 0 0),(7,.d (.u64 (o))),(8,.d (.int .i64 ((k:Int))))]) (fun ((k,o):Nat×BitVec 64)=>[(0,some (zay p))]) 1 (fun ((k,o):Nat×BitVec 64)=>k≤p.W.toNat∧o=zE (fun w=>decide (zq3 p a w &&& ~~~s=0#64)) k) (fun ((k,o):Nat×BitVec 64)=>p.W.toNat - k) ((0,0#64)) [(0,0)] [] (⟨by simp,rfl⟩) (by (refine ⟨rfl,rfl,rfl,?_,?_⟩;repeat' first|exact trivial|exact rfl|refine And.intro ?_ ?_|refine ⟨_,rfl,?_⟩|decide)) ?_
 rintro ⟨k,o⟩ ⟨hk,hI⟩
 by_cases hkW:k < p.W.toNat
 ·have hat:At p a k:=⟨hc0,by omega,by omega,by omega,by omega⟩
  (repeat' ((conv=>whnf);first|refine vA ?_|(refine vF ?_ ?_<;>intro hc<;>try simp only [vL] at hc)|refine vT ?_|((first|refine vO ?_ ?_|refine vP ?_ ?_);·omega)|refine vY ?_|refine yD (zw1 p hp a k hat) ⟨⟨rfl,rfl⟩,⟨rfl,rfl⟩,⟨rfl,rfl⟩,rfl⟩ rfl ?_));all_goals try conv=>whnf
  ·refine ⟨(k+1,_),[(0,0)],[],?_,?_,by (refine ⟨rfl,rfl,rfl,?_,?_⟩;repeat' first|exact trivial|exact rfl|refine And.intro ?_ ?_|refine ⟨_,rfl,?_⟩|decide)⟩
   ·exact ⟨by (omega),by rw [zE,if_pos (decide_eq_true ‹_›),hI];rfl⟩
   ·((simp only [vM] at *;omega))
  ·exact ⟨(k+1,o),[(0,0)],[],⟨by (omega),by rw [zE,if_neg (by simpa using ‹¬_›),hI]⟩,by ((simp only [vM] at *;omega)),by (refine ⟨rfl,rfl,rfl,?_,?_⟩;repeat' first|exact trivial|exact rfl|refine And.intro ?_ ?_|refine ⟨_,rfl,?_⟩|decide)⟩
  all_goals omega
 ·(repeat' ((conv=>whnf);first|refine zO.decN (by omega) ?_|refine vA ?_|refine vT ?_|refine vY ?_));all_goals try conv=>whnf
  rw [hI,show k=p.W.toNat by omega]
def zfb (p:PM) (a:Nat):List (BitVec 64):=(List.range p.W.toNat).map fun (w:Nat)=>zaC p a w
def zah (p:PM):KM:=⟨p.W,p.val,(List.range p.cell.length).map (zfb p)⟩
theorem zwU (p:PM) (hp:zas p.rank) (hc0:zm p=0):Fn Tryz.prog T zd1 [.d (dPM p)] [] (.d (dKM (zah p))) []:=by
 have hgd:=zz hc0
 have h1:=hgd.w1
 have h2:=hgd.w2
 have n4:=hgd.n4
 have v8:=hgd.v8
 refine zh zw ziw (by show 1≤55;decide) ?_
 (repeat' ((conv=>whnf);first|refine vA ?_|refine vT ?_));all_goals try conv=>whnf
 refine zn (fun ((k,zs):Nat×List D)=>[(1,.ptr 0 0),(2,.ptr 1 0),(3,.ptr 2 0),(4,.d (.int .i64 ((k:Int))))]) (fun ((k,zs):Nat×List D)=>[(0,some (zay p)),(1,some (.box [.d (.int .i64 0),.nils 1,.nils 1])),(2,some (.box [.d (.int .i64 p.W),.own 3,.nils 1])),(3,some (.row 1 zs))]) 4 (fun ((k,zs):Nat×List D)=>k≤p.val.length∧zs=(p.val.take k).map D.u64) (fun ((k,zs):Nat×List D)=>p.val.length - k) ((0,[])) [(0,0),(1,1),(2,2)]   [3] (⟨by simp,rfl⟩) (by (refine ⟨rfl,rfl,rfl,?_,?_⟩;repeat' first|exact trivial|exact rfl|exact ⟨_,rfl⟩|refine And.intro ?_ ?_|refine ⟨_,rfl,?_⟩|decide)) ?_
 rintro ⟨k,zs⟩ ⟨hk,hI⟩
 have hzl:zs.length≤8:=by rw [hI];simp;omega
 (repeat' ((conv=>whnf);first|refine vA ?_|(refine vF ?_ ?_<;>intro hc<;>try simp only [vL] at hc)|refine vJ fun hg=>?_|refine vT ?_|(refine vQ ?_ fun x hx=>?_;·omega)|((first|refine vO ?_ ?_|refine vP ?_ ?_);·first|omega|(simp only [vM] at *;omega))|(refine vU ?_ ?_;·kernel_rfl)|fail));all_goals try conv=>whnf
 ·refine ⟨(k+1,_),[(0,0),(1,1),(2,2),(3,5)],[],?_,?_,by (refine ⟨rfl,rfl,rfl,?_,?_⟩;repeat' first|exact trivial|exact rfl|refine And.intro ?_ ?_|refine ⟨_,rfl,?_⟩|decide)⟩
  ·exact ⟨by (omega),by rw [List.take_add_one,List.map_append,hI,hx];rfl⟩
  ·((simp only [vM] at *;omega))
 ·rw [show k=p.val.length by omega,List.take_length] at hI
  subst hI
  refine zn (fun ((a,rs):Nat×List D)=>[(1,.ptr 0 0),(2,.ptr 1 0),(3,.ptr 2 0),(5,.d (.int .i64 ((a:Int))))]) (fun ((a,rs):Nat×List D)=>[(0,some (zay p)),(1,some (.box [.d (.int .i64 0),.nils 1,.nils 1])),(2,some (.box [.d (.int .i64 p.W),.own 3,.own 4])),(3,some (.row 1 (p.val.map D.u64))),(4,some (.row 1 rs))]) 5 (fun ((a,rs):Nat×List D)=>a≤p.cell.length∧rs=((List.range a).map (zfb p)).map dU) (fun ((a,rs):Nat×List D)=>p.cell.length - a) ((0,[])) [(0,0),(1,1),(2,2),(3,3)]   [4] (⟨by simp,rfl⟩) (by (refine ⟨rfl,rfl,rfl,?_,?_⟩;repeat' first|exact trivial|exact rfl|exact ⟨_,rfl⟩|refine And.intro ?_ ?_|refine ⟨_,rfl,?_⟩|decide)) ?_
  rintro ⟨a,rs⟩ ⟨ha,hR⟩
  have hrl:rs.length≤8:=by rw [hR];simp;omega
  (repeat' ((conv=>whnf);first|refine vA ?_|(refine vF ?_ ?_<;>intro hc<;>try simp only [vL] at hc)|refine vJ fun hg=>?_|refine vT ?_));all_goals try conv=>whnf
  ·refine zn (fun ((w,zs):Nat×List D)=>[(1,.ptr 0 0),(2,.ptr 1 0),(3,.ptr 2 0),(5,.d (.int .i64 ((a:Int)))),(6,.own 5),(7,.d (.int .i64 ((w:Int))))]) (fun ((w,zs):Nat×List D)=>[(0,some (zay p)),(1,some (.box [.d (.int .i64 0),.nils 1,.nils 1])),(2,some (.box [.d (.int .i64 p.W),.own 3,.own 4])),(3,some (.row 1 (p.val.map D.u64))),(4,some (.row 1 rs)),(5,some (.row 1 zs))]) 6 (fun ((w,zs):Nat×List D)=>w≤p.W.toNat∧zs=((List.range w).map fun (w:Nat)=>zaC p a w).map D.u64) (fun ((w,zs):Nat×List D)=>p.W.toNat - w) ((0,[])) [(0,0),(1,1),(2,2),(3,3),(4,4)]   [5] (⟨by simp,rfl⟩) (by (refine ⟨rfl,rfl,rfl,?_,?_⟩;repeat' first|exact trivial|exact rfl|exact ⟨_,rfl⟩|refine And.intro ?_ ?_|refine ⟨_,rfl,?_⟩|decide)) ?_
   rintro ⟨w,zs⟩ ⟨hw,hZ⟩
   have hzw:zs.length≤64:=by rw [hZ];simp;omega
   by_cases hwW:w < p.W.toNat
   ·have hat:At p a w:=⟨hc0,by omega,by omega,by omega,by omega⟩
    (repeat' ((conv=>whnf);first|refine zO.decY (by omega) ?_|refine vA ?_|refine vT ?_|((first|refine vO ?_ ?_|refine vP ?_ ?_);·first|omega|(simp only [vM] at *;omega))|refine yD (zrW p hp a w hat) ⟨⟨rfl,rfl⟩,⟨rfl,rfl⟩,⟨rfl,rfl⟩,rfl⟩ rfl ?_));all_goals try conv=>whnf
    refine ⟨(w+1,_),[(0,0),(1,1),(2,2),(3,3),(4,4),(5,7)],[],?_,?_,by (refine ⟨rfl,rfl,rfl,?_,?_⟩;repeat' first|exact trivial|exact rfl|refine And.intro ?_ ?_|refine ⟨_,rfl,?_⟩|decide)⟩
    ·exact ⟨by (omega),by rw [List.range_succ,List.map_append,List.map_append,hZ];rfl⟩
    ·((simp only [vM] at *;omega))
   ·(repeat' ((conv=>whnf);first|refine zO.decN (by omega) ?_|refine vA ?_|refine vT ?_|((first|refine vO ?_ ?_|refine vP ?_ ?_);·first|omega|(simp only [vM] at *;omega))|fail));all_goals try conv=>whnf
    have ew:w=p.W.toNat:=by omega
    subst ew
    refine ⟨(a+1,_),[(0,0),(1,1),(2,2),(3,3),(4,7)],[],?_,?_,by (refine ⟨rfl,rfl,rfl,?_,?_⟩;repeat' first|exact trivial|exact rfl|refine And.intro ?_ ?_|refine ⟨_,rfl,?_⟩|decide)⟩
    ·exact ⟨by (omega),by rw [List.range_succ,List.map_append,List.map_append,hR,hZ];rfl⟩
    ·((simp only [vM] at *;omega))
  ·have ea:a=p.cell.length:=by omega
   subst ea
   subst hR
   rfl
end Go.Ab
namespace Go.Ab
def zck (k:Nat) (n:Nd):Nd := { n with x:=if zae n.op=true then n.x+k else n.x,y:=if zT n.op=true then n.y+k else n.y }
def zdz (f c:List Nd):List Nd:=f++c.map (zck f.length)
theorem zxa {n:Nd} {j:Int} {k:Nat} (hj:0≤j) (h:zcr n j=0):zcr (zck k n) (k+j)=0:=by
 obtain ⟨h1,h2,h3,h4,h5⟩:=zbY.1 h
 refine zbY.2 ⟨h1,fun e=>?_,fun e=>?_,fun e=>?_,fun e=>?_⟩
 ·have e:zae n.op=true:=e
  have:=h2 e
  simp only [zck,e,if_true];omega
 ·have e:zae n.op=false:=e
  have:=h3 e
  simp only [zck,e];simpa using this
 ·have e:zT n.op=true:=e
  have:=h4 e
  simp only [zck,e,if_true];omega
 ·have e:zT n.op=false:=e
  have:=h5 e
  simp only [zck,e];simpa using this
theorem zrD {f c:List Nd} (hf:zax f) (hc:zax c):zax (zdz f c):=by
 intro k n hk
 unfold zdz at hk
 rw [List.getElem?_append] at hk
 split at hk
 ·exact hf k n hk
 ·rename_i h
  rw [List.getElem?_map,Option.map_eq_some_iff] at hk
  obtain ⟨m,hm,rfl⟩:=hk
  have:=zxa (k:=f.length) (by omega) (hc _ m hm)
  rwa [show ((f.length:Nat):Int)+((k - f.length:Nat):Int)=k by omega] at this
theorem ziM {f c:List Nd} (hf:zax f) (hc:zax c) : ∀ (m j:Nat),j < m→j < c.length→z7 (zdz f c) (f.length+j)=z7 c j
 | 0,j,h,_=>by omega
 | m+1,j,h,hj=>by
  have ho:=zrD hf hc
  have hl:f.length+j < (zdz f c).length:=by simp [zdz];omega
  have hg:(zdz f c).getD (f.length+j) default=zck f.length (c.getD j default):=by
   simp [zdz,List.getD,hj]
  rw [zer ho hl,zer hc hj,hg]
  have eo:(zck f.length (c.getD j default)).op=(c.getD j default).op:=rfl
  have eh:(zck f.length (c.getD j default)).hd=(c.getD j default).hd:=rfl
  rw [eo,eh]
  cases hy:zT (c.getD j default).op with
  | true =>
   have hx:=zaq hy
   have e1:=za7 hc hj hx
   have e2:=zd6 hc hj hy
   have x1:(zck f.length (c.getD j default)).x.toNat=f.length+(c.getD j default).x.toNat:=by simp only [zck,hx,if_true];omega
   have y1:(zck f.length (c.getD j default)).y.toNat=f.length+(c.getD j default).y.toNat:=by simp only [zck,hy,if_true];omega
   simp only [cond_true]
   rw [x1,y1,ziM hf hc m _ (by omega) (by omega),ziM hf hc m _ (by omega) (by omega)]
  | false =>
   cases hx:zae (c.getD j default).op with
   | true =>
    have e1:=za7 hc hj hx
    have x1:(zck f.length (c.getD j default)).x.toNat=f.length+(c.getD j default).x.toNat:=by simp only [zck,hx,if_true];omega
    simp only [cond_true,cond_false]
    rw [x1,ziM hf hc m _ (by omega) (by omega)]
   | false=>rfl
def zrd:Nat→List Nd→Nd→List (List Nd)→Option (Nd×List Nd)
 | _,f,x,[]=>some (x,f)
 | k,f,x,o::r=>if zbI o≠0 then none else
  zrd (k+1) (zdz f (cL o)) (if k=0 then { x with x:=((zdz f (cL o)).length:Int) - 1 } else { x with y:=((zdz f (cL o)).length:Int) - 1 }) r
def zh1 (x:Nd) (f:List Nd):List Nd:=if zcr x f.length≠0 then [] else if 200 < (zbU (f++[x]) f.length).length then [] else zbU (f++[x]) f.length
def zmC (x:Nd) (os:List (List Nd)):List Nd:=match zrd 0 [] x os with
 | none=>[]
 | some (x,f)=>zh1 x f
structure IsF (f:List Nd) (t:Tm):Prop where
 ok:zbI f=0
 tree:z7 f (f.length - 1)=t
theorem zCj {f:List Nd} (h:zbI f=0):IsF f (z7 f (f.length - 1)):=⟨h,rfl⟩
theorem IsF.canon {f:List Nd} {t:Tm} (h:IsF f t):zn8 t (cL f)∧(cL f).length≤f.length:=by
 have:=zkK h.ok
 rwa [h.tree] at this
theorem IsF.tok {f:List Nd} {t:Tm} (h:IsF f t):t.ok:=by
 obtain ⟨h1,h2,h3⟩:=zh0.1 h.ok
 rw [← h.tree]
 exact zh7 h3 f.length _ (by omega) (by omega)
theorem zwQ {x:Nd} {f:List Nd} (hf:zax f) (hx:zcr x f.length=0) (hl:f.length≤199):IsF (zh1 x f) (z7 (f++[x]) f.length)∧(zh1 x f).length≤f.length+1:=by
 have hok:zax (f++[x]):=by
  intro k n hk
  rw [List.getElem?_append] at hk
  split at hk
  ·exact hf k n hk
  ·rename_i h1
   have:k=f.length:=by have:=(List.getElem?_eq_some_iff.1 hk).1;simp at this;omega
   subst this
   simp at hk;subst hk;exact hx
 have hlt:f.length < (f++[x]).length:=by simp
 have h1:=zjC hok hlt
 have h2:=(zi9 hok hlt).2.1
 simp only [List.length_append,List.length_cons,List.length_nil] at h2
 have e:zh1 x f=zbU (f++[x]) f.length:=by
  unfold zh1
  rw [if_neg (by omega),if_neg (by omega)]
 rw [e]
 exact ⟨⟨zh0.2 ⟨h1.pos,by omega,h1.ok⟩,h1.tree⟩,h2⟩
theorem zBL {x:Nd} {f:List Nd} (hf:zax f) (hx:zcr x f.length=0):z7 (f++[x]) f.length=cond (zT x.op) (.b x.hd (z7 f x.x.toNat) (z7 f x.y.toNat)) (cond (zae x.op) (.u x.hd (z7 f x.x.toNat)) (.z x.hd)):=by
 have hok:zax (f++[x]):=by
  intro k n hk
  rw [List.getElem?_append] at hk
  split at hk
  ·exact hf k n hk
  ·rename_i h1
   have:k=f.length:=by have:=(List.getElem?_eq_some_iff.1 hk).1;simp at this;omega
   subst this
   simp at hk;subst hk;exact hx
 have hg:(f++[x]).getD f.length default=x:=by simp [List.getD]
 obtain ⟨-,h2,-,h4,-⟩:=zbY.1 hx
 rw [zer hok (by simp),hg]
 cases hy:zT x.op with
 | true =>
  have hxx:=zaq hy
  have e1:=h2 hxx
  have e2:=h4 hy
  simp only [cond_true]
  rw [za1 hf (by omega),za1 hf (by omega)]
 | false =>
  cases hxx:zae x.op with
  | true =>
   have e1:=h2 hxx
   simp only [cond_true,cond_false]
   rw [za1 hf (by omega)]
  | false=>rfl
theorem zxK {h:Hd} (hh:zgj h) (hx:zae h.op=true) (hy:zT h.op=false) {o:List Nd} {t:Tm} (ho:IsF o t) (hl:o.length≤199):IsF (zmC ⟨h.op,h.i,h.e,h.g,0,0⟩ [o]) (.u h t)∧(zmC ⟨h.op,h.i,h.e,h.g,0,0⟩ [o]).length≤o.length+1:=by
 obtain ⟨c1,c2⟩:=ho.canon
 have hp:=c1.pos
 have e0:(zdz [] (cL o)).length=(cL o).length:=by simp [zdz]
 have hok:=zrD zgC c1.ok
 have ht:z7 (zdz [] (cL o)) ((cL o).length - 1)=t:=by
  have:=ziM (f:=[]) zgC c1.ok (cL o).length ((cL o).length - 1) (by omega) (by omega)
  rw [List.length_nil,Nat.zero_add] at this
  rw [this];exact c1.tree
 have hn:zcr ⟨h.op,h.i,h.e,h.g,((zdz [] (cL o)).length:Int) - 1,0⟩ (zdz [] (cL o)).length=0:=zbY.2 ⟨hh,fun _=>by simp only;omega,fun e=>by simp [hx] at e,fun e=>by simp [hy] at e,fun _=>rfl⟩
 have e:zmC ⟨h.op,h.i,h.e,h.g,0,0⟩ [o]=zh1 ⟨h.op,h.i,h.e,h.g,((zdz [] (cL o)).length:Int) - 1,0⟩ (zdz [] (cL o)):=by
  simp [zmC,zrd,ho.ok]
 have h1:=zwQ hok hn (by omega)
 rw [zBL hok hn] at h1
 simp only [hx,hy,cond_false,cond_true] at h1
 rw [show (((zdz [] (cL o)).length:Int) - 1).toNat=(cL o).length - 1 by omega,ht] at h1
 rw [e]
 exact ⟨h1.1,by have:=h1.2;omega⟩
end Go.Ab
namespace Go.Ab
open Go
def zsR (h:Hd):Prop := ∀ i,(zbO h).testBit i=true→(59:Nat).testBit i=true
def zmw (p:PM) (h:Hd):Prop:=zam h < 2 ^ p.cell.length∧zbk h < 2 ^ p.val.length
theorem zue {c:List Nd} {t:Tm} (hc:zn8 t c):zbt .i64 (fun p q=>p &&& ~~~q) (uni zbO c:Int) 59=0↔t.all zsR:=by
 have hu:uni zbO c < 2 ^ 63:=Nat.lt_trans ((zf2 zbO).2 fun n _=>zle n.hd) (by decide)
 have:=zoJ (b:=59) hu (by decide)
 rw [show ((59:Nat):Int)=59 from rfl] at this
 rw [this,← hc.all]
 constructor
 ·intro h n hn i hi
  exact h i (by rw [zkq];exact List.any_eq_true.2 ⟨n,hn,hi⟩)
 ·intro h i hi
  rw [zkq,List.any_eq_true] at hi
  obtain ⟨n,hn,hi⟩:=hi
  exact h n hn i hi
theorem zoc {p q:Hd→Prop} : ∀ {t:Tm},t.all (fun h=>p h∧q h)↔t.all p∧t.all q
 | .z h=>Iff.rfl
 | .u h x=>by
  simp only [Tm.all,zoc (t:=x)]
  exact ⟨fun ⟨⟨a,b⟩,c,d⟩=>⟨⟨a,c⟩,b,d⟩,fun ⟨⟨a,c⟩,b,d⟩=>⟨⟨a,b⟩,c,d⟩⟩
 | .b h x y=>by
  simp only [Tm.all,zoc (t:=x),zoc (t:=y)]
  exact ⟨fun ⟨⟨a,b⟩,⟨c,d⟩,e,f⟩=>⟨⟨a,c,e⟩,b,d,f⟩,fun ⟨⟨a,c,e⟩,b,d,f⟩=>⟨⟨a,b⟩,⟨c,d⟩,e,f⟩⟩
theorem ztN {p:PM} (hg:zrb p) {f:List Nd} {t:Tm} (hf:IsF f t):zdH f p.cell.length p.val.length=true↔t.all (zmw p):=by
 have h4:=hg.n4
 have h8:=hg.v8
 have hc:=hf.canon.1
 unfold zmw
 rw [zoc,← hc.all,← hc.all,← zf2 zam,← zf2 zbk]
 simp only [zdH,zg4,Bool.and_eq_true,decide_eq_true_eq,Int.toNat_natCast]
 constructor
 ·rintro ⟨⟨-,h1⟩,h2⟩
  exact ⟨h1.resolve_left (by omega),h2.resolve_left (by omega)⟩
 ·rintro ⟨h1,h2⟩
  exact ⟨⟨hf.ok,.inr h1⟩,.inr h2⟩
theorem zt8 {p:PM} {f:List Nd} {t:Tm} (hf:IsF f t) (hc0:zm p=0) (h1:t.all zsR) (h2:t.all (zmw p)):zcE p f=(ev (zaL p) 0#64 t,0):=by
 have hc:=hf.canon.1
 have hg:=zz hc0
 rw [zcE,if_neg (not_not_intro hc0),if_neg (not_not_intro hf.ok),if_neg (not_not_intro ((zue hc).2 h1)),if_neg (by rw [(ztN hg hf).2 h2];decide),zyZ (zsz p) hc]
structure OkT (p:PM) (f:List Nd) (t:Tm):Prop where
 isF:IsF f t
 lang:t.all zsR
 fit:t.all (zmw p)
theorem OkT.holds {p:PM} {f:List Nd} {t:Tm} (h:OkT p f t) (hc0:zm p=0):zcE p f=(ev (zaL p) 0#64 t,0):=zt8 h.isF hc0 h.lang h.fit
theorem OkT.unary {p:PM} {f:List Nd} {t:Tm} (hf:OkT p f t) {h:Hd} (hh:zgj h) (hx:zae h.op=true) (hy:zT h.op=false) (ha:zsR h) (hp:zmw p h) (hl:f.length≤199) :
  OkT p (zmC ⟨h.op,h.i,h.e,h.g,0,0⟩ [f]) (.u h t):=⟨(zxK hh hx hy hf.isF hl).1,⟨ha,hf.lang⟩,⟨hp,hf.fit⟩⟩
end Go.Ab
namespace Go.Ab
open Go Go.Proofs
set_option maxRecDepth 10000
set_option maxHeartbeats 4000000
variable {T:Nat→Obj→Prop}
section
variable {p:PM} (hc0:zm p=0)
include hc0
theorem zB6 {s:BitVec 64} (h : ∀ i,s.getLsbD i=true→i < p.W.toNat):bad p.W s=false:=by
 have:s &&& ~~~zal p.W=0#64:=zeq.2 fun i hi=>(zed hc0).2 (h i hi)
 simp [bad,this]
theorem zqE {a w:Nat} (hw:w < p.W.toNat):(zfb p a).getD w 0#64=zaC p a w:=zaY (by simp [zfb,hw])
theorem zuc {a w:Nat} (ha:a < p.cell.length) (hw:w < p.W.toNat):zfY (zah p) a w=zaC p a w:=by
 rw [zfY,show (zah p).rel.getD a []=zfb p a from zaY (by simp [zah,ha]),zqE hc0 hw]
theorem zr9:zbq (zah p)=0:=by
 have hg:=zz hc0
 have h1:=hg.w1
 have h2:=hg.w2
 have e1:(zah p).rel.any (fun r=>decide ((r.length:Int)≠(zah p).W))=false:=by
  rw [List.any_eq_false]
  intro r hr
  obtain ⟨a,-,rfl⟩:=List.mem_map.1 hr
  simp [zfb,zah];omega
 have e2:(zah p).val.any (bad (zah p).W)=false:=by
  rw [List.any_eq_false]
  intro s hs
  show ¬bad p.W s=true
  rw [hg.val s hs];simp
 have e3:(zah p).rel.any (fun r=>r.any (bad (zah p).W))=false:=by
  rw [List.any_eq_false]
  intro r hr
  obtain ⟨a,ha,rfl⟩:=List.mem_map.1 hr
  rw [Bool.not_eq_true,List.any_eq_false]
  intro s hs
  obtain ⟨w,hw,rfl⟩:=List.mem_map.1 hs
  rw [List.mem_range] at ha hw
  rw [Bool.not_eq_true]
  exact zB6 hc0 fun i hi=>((zaS hc0 ha hw).1 hi).1
 have n4:=hg.n4
 have v8:=hg.v8
 rw [zbq,if_neg (by show ¬(p.W < 1∨64 < p.W);omega),if_neg (by show ¬(4 < ((List.range p.cell.length).map (zfb p)).length∨8 < p.val.length);simp;omega),e1,e2,e3]
 rfl
theorem zzM {a:Nat} (ha:a < p.cell.length) (s:BitVec 64):zfp ((zah p).rel.getD a []) p.W.toNat s=zc7 p a s:=by
 rw [show (zah p).rel.getD a []=zfb p a from zaY (by simp [zah,ha])]
 refine zf1 fun w=>?_
 unfold zfp zc7
 rw [zeI (W64 hc0),zeI (W64 hc0)]
 refine and_congr_right fun hw=>?_
 rw [zqE hc0 hw]
theorem zlh {g w v:Nat} (h1:1≤g) (h2:g < 2 ^ p.cell.length) (hw:w < p.W.toNat):((zcQ (zah p) g false).getD w 0#64).getLsbD v=true↔Suc p g w v:=by
 have el:(zah p).rel.length=p.cell.length:=by simp [zah]
 rw [zyj (zr9 hc0) h1 (by rw [el];exact h2) hw,zlg,el]
 constructor
 ·rintro ⟨a,ha,hga,hv⟩
  rw [zuc hc0 ha hw] at hv
  exact ⟨hw,a,ha,hga,(zaS hc0 ha hw).1 hv⟩
 ·rintro ⟨-,a,ha,hga,hv⟩
  exact ⟨a,ha,hga,by rw [zuc hc0 ha hw];exact (zaS hc0 ha hw).2 hv⟩
theorem zxJ {g:Nat} (h1:1≤g) (h2:g < 2 ^ p.cell.length) (s:BitVec 64):zfp (zcQ (zah p) g false) p.W.toNat s=zfw p g s:=by
 refine zf1 fun w=>?_
 unfold zfp
 rw [zeI (W64 hc0),ziS hc0]
 refine and_congr_right fun hw=>?_
 rw [zeq]
 exact forall_congr' fun v=>by rw [zlh hc0 h1 h2 hw]
theorem zwD {g:Nat} (h1:1≤g) (h2:g < 2 ^ p.cell.length) (c s:BitVec 64):zwC (zcQ (zah p) g false) p.W.toNat c s=zdu p g c s:=by
 have hs : ∀ v u,zec (zcQ (zah p) g false) p.W.toNat c v u↔Suc p g v u∧c.getLsbD u=true:=fun v u=>by
  unfold zec
  rw [BitVec.getLsbD_and,Bool.and_eq_true]
  constructor
  ·rintro ⟨hv,h,hc⟩;exact ⟨(zlh hc0 h1 h2 hv).1 h,hc⟩
  ·rintro ⟨h,hc⟩;exact ⟨h.1,(zlh hc0 h1 h2 h.1).2 h,hc⟩
 have hB:zhT (zcQ (zah p) g false) p.W.toNat:=fun v u hv hu=>((zlh hc0 h1 h2 hv).1 hu).lt
 refine zf1 fun w=>?_
 unfold zwC
 rw [zeI (W64 hc0),zdi hc0]
 refine and_congr_right fun hw=>?_
 rw [zeq]
 refine forall_congr' fun v=>?_
 rw [zsn (W64 hc0) hB]
 refine imp_congr ⟨fun h=>?_,fun h=>?_⟩ Iff.rfl
 ·induction h with
  | base h=>exact .base ((hs _ _).1 h).1 ((hs _ _).1 h).2
  | step _ h ih=>exact .step ih ((hs _ _).1 h).1 ((hs _ _).1 h).2
 ·induction h with
  | base h hc=>exact .base ((hs _ _).2 ⟨h,hc⟩)
  | step _ h hc ih=>exact .step ih ((hs _ _).2 ⟨h,hc⟩)
theorem zBE {n:Hd} {x y:BitVec 64} (hop:1≤n.op∧n.op≤13∧n.op≠12) (h9:n.op=9∨n.op=10→0≤n.i∧n.i < p.cell.length) (h11:11≤n.op→1≤n.g∧n.g.toNat < 2 ^ p.cell.length):zlM (zah p) n x y=zaL p n x y:=by
 obtain ⟨o1,o2,o3⟩:=hop
 have hcase:n.op=1∨n.op=2∨n.op=3∨n.op=4∨n.op=5∨n.op=6∨n.op=7∨n.op=8∨n.op=9∨n.op=10∨n.op=11∨n.op=13:=by omega
 have hb:n.op=9∨n.op=10 → ∀ s,zfp ((zah p).rel.getD n.i.toNat []) (zah p).W.toNat s=zc7 p n.i s:=fun h s=>by
  obtain ⟨i0,i1⟩:=h9 h
  have:=zzM hc0 (a:=n.i.toNat) (by omega) s
  rwa [show ((n.i.toNat:Nat):Int)=n.i by omega] at this
 unfold zlM zaL zsW
 rcases hcase with h|h|h|h|h|h|h|h|h|h|h|h
 all_goals simp only [h]
 all_goals first|rfl|skip
 ·exact hb (.inl h) x
 ·show zal p.W &&& ~~~_=_
  rw [hb (.inr h)];rfl
 ·obtain ⟨g1,g2⟩:=h11 (by omega)
  exact zxJ hc0 (by omega) g2 x
 ·obtain ⟨g1,g2⟩:=h11 (by omega)
  exact zwD hc0 (by omega) g2 x y
end
end Go.Ab
namespace Go.Ab
open Go Go.Proofs
set_option maxRecDepth 10000
set_option maxHeartbeats 4000000
set_option maxHeartbeats 40000000
variable {T:Nat→Obj→Prop}
theorem zzo (p:PM) (n:Nd) (a b:BitVec 64):zaL p n.hd (cond (zae n.op) a 0#64) (cond (zT n.op) b 0#64)=zaL p n.hd a b:=by
 have hu:=zsz p
 have h1:zaL p n.hd (cond (zae n.op) a 0#64) (cond (zT n.op) b 0#64)=zaL p n.hd a (cond (zT n.op) b 0#64):=by
  cases h:zae n.op with
  | true=>rfl
  | false=>exact hu.x n.hd _ _ _ h
 rw [h1]
 cases h:zT n.op with
 | true=>rfl
 | false=>exact hu.y n.hd _ _ _ h
theorem zqM {f:List Nd} (h:zbt .i64 (fun p q=>p &&& ~~~q) (uni zbO (cL f):Int) 59=0) {n:Nd} (hn:n∈cL f):1≤n.op∧n.op≤15∧n.op≠12:=by
 have hlt:uni zbO (cL f) < 2 ^ 63:=Nat.lt_trans ((zf2 zbO).2 fun n _=>zle n.hd) (by decide)
 have h1:=(zoJ hlt (b:=59) (by decide)).1 h
 have h2 : ∀ i,(zbO n.hd).testBit i=true→(59:Nat).testBit i=true:=fun i hi=>h1 i (by rw [zkq];exact List.any_eq_true.2 ⟨n,hn,hi⟩)
 have ho:=zA5 (zgP hn)
 have key : ∀ (o:Int) (i:Nat),n.op=o→((zeE o).toNat).testBit i=true→(59:Nat).testBit i=true:=fun o i e hi=>h2 i (by rw [zbO];show ((zeE n.op).toNat).testBit i=true;rw [e];exact hi)
 refine ⟨ho.1,?_,fun e=>absurd (key 12 2 e (by decide)) (by decide)⟩
 refine Classical.byContradiction fun hn=>?_
 have:n.op=16∨n.op=17∨n.op=18∨n.op=19∨n.op=20∨n.op=21:=by omega
 rcases this with e|e|e|e|e|e
 ·exact absurd (key 16 6 e (by decide)) (by decide)
 ·exact absurd (key 17 7 e (by decide)) (by decide)
 all_goals exact absurd (key _ 8 e (by decide)) (by decide)
theorem zqu (p:PM) (hp:zas p.rank) (f:List Nd):Fn Tryz.prog T zfI [.d (dPM p),.d (dF f)] [] (.d (dUE (zcE p f))) []:=by
 have hlen:=zqg f
 have hok:=zvM f
 refine zh zw zlG (by show 2≤126;decide) ?_
 (repeat' ((conv=>whnf);first|refine vA ?_|refine vE ?_|((first|refine vD ?_ ?_|refine vI ?_ ?_)<;>intro hc<;>try simp only [vL] at hc)|refine vJ fun hg=>?_|refine vT ?_|refine yD (zgr _ hp) ⟨⟨rfl,rfl⟩,rfl⟩ rfl ?_|refine yD (zjc _) ⟨⟨rfl,rfl⟩,rfl⟩ rfl ?_|refine yD (zr0 _) ⟨⟨rfl,rfl⟩,rfl⟩ rfl ?_|refine yD (zt2 _ _ _) ⟨⟨rfl,rfl⟩,⟨rfl,rfl⟩,⟨rfl,rfl⟩,rfl⟩ rfl ?_));all_goals try conv=>whnf
 ·have e:zcE p f=(0#64,zm p):=if_pos ‹_›
  rw [e];rfl
 ·have e:zcE p f=(0#64,zbI f):=by rw [zcE,if_neg (by omega),if_pos ‹_›]
  rw [e];rfl
 ·have e:zcE p f=(0#64,10):=by rw [zcE,if_neg (by omega),if_neg (by omega),if_pos ‹_›]
  rw [e];rfl
 ·have hc0:=‹zm p=0›
  have hf0:=‹zbI f=0›
  have hgd:=zz hc0
  have hfit:=‹zdH f _ _=true›
  have e:zcE p f=((zcj (zaL p) 0#64 (cL f) []).getD ((cL f).length - 1) 0#64,0):=by rw [zcE,if_neg (by omega),if_neg (by omega),if_neg (by omega),if_neg (by simp [hfit])]
  have hpos:=(zkK hf0).1.pos
  have hal : ∀ n,n∈cL f→1≤n.op∧n.op≤15∧n.op≠12:=fun n hn=>zqM ‹_› hn
  rw [e]
  (repeat' ((conv=>whnf);first|refine vA ?_|refine vT ?_|refine yN (zwU p hp hc0) ⟨⟨rfl,rfl⟩,rfl⟩ ?_|refine yN (zgV _) ⟨⟨rfl,rfl⟩,rfl⟩ ?_));all_goals try conv=>whnf
  refine zn (fun ((k,zs):Nat×List D)=>[(2,.ptr 0 0),(7,.ptr 1 0),(8,.d (dF (cL f))),(9,.own 2),(10,.d (.int .i64 ((k:Int))))]) (fun ((k,zs):Nat×List D)=>[(0,some (zay p)),(1,some (zqe (zah p))),(2,some (.row 1 zs))]) 3 (fun ((k,zs):Nat×List D)=>k≤(cL f).length∧zs=(zcj (zaL p) 0#64 ((cL f).take k) []).map D.u64) (fun ((k,zs):Nat×List D)=>(cL f).length - k) ((0,[])) [(0,0),(1,1)]   [2] (⟨by simp,rfl⟩) (by (refine ⟨rfl,rfl,rfl,?_,?_⟩;repeat' first|exact trivial|exact rfl|exact ⟨_,rfl⟩|refine And.intro ?_ ?_|refine ⟨_,rfl,?_⟩|decide)) ?_
  rintro ⟨k,zs⟩ ⟨hk,hI⟩
  subst hI
  have hl:(zcj (zaL p) 0#64 ((cL f).take k) []).length=k:=by rw [zuP];simp;omega
  by_cases hkl:k < (cL f).length
  ·obtain ⟨n,hn⟩ : ∃ n,(cL f)[k]? = some n:=⟨(cL f)[k],by simp [hkl]⟩
   have hnm:=List.mem_of_getElem? hn
   obtain ⟨f1,f2,f3⟩:=zCc hgd.n4 hgd.v8 hfit hnm
   have hh:=zgP hnm
   obtain ⟨o1,o2,o3⟩:=hal n hnm
   have hok1:=hok k n hn
   obtain ⟨-,x1,-,y1,-⟩:=zoo hok1
   have hst0:zcj (zaL p) 0#64 ((cL f).take (k+1)) []=zcj (zaL p) 0#64 ((cL f).take k) []++[zaL p n.hd (cond (zae n.op) ((zcj (zaL p) 0#64 ((cL f).take k) []).getD n.x.toNat 0#64) 0#64) (cond (zT n.op) ((zcj (zaL p) 0#64 ((cL f).take k) []).getD n.y.toNat 0#64) 0#64)]:=by
    rw [zzo,List.take_add_one,hn];exact zsq _ _ _ _ _
   generalize zcj (zaL p) 0#64 ((cL f).take k) []=S at hst0 hl
   have hSl:(S.map D.u64).length≤200:=by simp;omega
   have cO : ∀ x y,n.op≤13→Fn Tryz.prog T zd0 [.d (dKM (zah p)),.d (dNd n),.d (.u64 x),.d (.u64 y)] [] (.d (.u64 (zaL p n.hd x y))) []:=fun x y h13=>by
    have el:(zah p).rel.length=p.cell.length:=by simp [zah]
    have h9:n.op=9∨n.op=10→0≤n.i∧n.i < p.cell.length:=fun h=>f2 (decide_eq_true (by omega))
    have h11:11≤n.op→1≤n.g∧n.g.toNat < 2 ^ p.cell.length:=fun h=>by
     have hug:zaB n.op=true:=decide_eq_true (by omega)
     have:=hh.group hug
     exact ⟨this.1,f3 hug⟩
    rw [← zBE hc0 (n:=n.hd) ⟨o1,h13,o3⟩ h9 h11]
    exact zBr (zah p) (zr9 hc0) n x y f1 (by rw [el];exact h9) (fun h=>⟨o3,by rw [el];exact h11 h⟩)
   cases hx:zae n.op with
   | false =>
    have hy:zT n.op=false:=by
     cases hy:zT n.op with
     | true=>rw [zaq hy] at hx;cases hx
     | false=>rfl
    have hux:=hx▸zd2 (T:=T) n.op
    have huy:=hy▸zca (T:=T) n.op
    have h13:n.op≤13:=by have : ¬(4≤n.op∧n.op≤21):=of_decide_eq_false hx;omega
    have hst:=hst0
    rw [hx,hy] at hst
    have cO:=cO 0#64 0#64 h13
    (repeat' ((conv=>whnf);first|refine zO.decN (by omega) ?_|refine vA ?_|refine vH ?_|(refine vF ?_ ?_<;>intro hc<;>try simp only [vL] at hc)|refine vJ fun hg=>?_|refine vT ?_|refine vN ‹_› ?_|(refine vQ ?_ fun x hx=>?_;·omega)|((first|refine vO ?_ ?_|refine vP ?_ ?_);·first|omega|(simp only [vM] at *;omega))|(refine vU ?_ ?_;·kernel_rfl)|refine yD hux (by (repeat refine ⟨⟨rfl,rfl⟩,?_⟩);rfl) rfl ?_|refine yD huy (by (repeat refine ⟨⟨rfl,rfl⟩,?_⟩);rfl) rfl ?_|refine yD cO (by (repeat refine ⟨⟨rfl,rfl⟩,?_⟩);rfl) rfl ?_));all_goals try conv=>whnf
    all_goals try omega
    refine ⟨(k+1,_),[(0,0),(1,1),(2,4)],[],?_,?_,by (refine ⟨rfl,rfl,rfl,?_,?_⟩;repeat' first|exact trivial|exact rfl|refine And.intro ?_ ?_|refine ⟨_,rfl,?_⟩|decide)⟩
    ·exact ⟨hkl,by rw [hst,List.map_append];rfl⟩
    ·((simp only [vM] at *;omega))
   | true =>
    have hux:=hx▸zd2 (T:=T) n.op
    obtain ⟨x2,x3⟩:=x1 hx
    obtain ⟨a,ha⟩ : ∃ a,S[n.x.toNat]? = some a:=⟨_,List.getElem?_eq_getElem (by omega)⟩
    cases hy:zT n.op with
    | false =>
     have huy:=hy▸zca (T:=T) n.op
     have hst:=hst0
     rw [hx,hy,zaY ha] at hst
     have h14:n.op≠14:=fun h=>by rw [zT,h] at hy;revert hy;decide
     by_cases h15:n.op=15
     ·obtain ⟨i0,i1⟩:=f2 (decide_eq_true (by omega))
      have cS:=zvn (T:=T) p hp hc0 n.i.toNat (by omega) a
      rw [show ((n.i.toNat:Nat):Int)=n.i by omega,show zdw p n.i a=zaL p n.hd a 0#64 by unfold zaL;simp only [show n.hd.op=15 from h15];rfl] at cS
      (repeat' ((conv=>whnf);first|refine zO.decN (by omega) ?_|refine zO.decY (by omega) ?_|refine vA ?_|refine vG ?_|refine vH ?_|(refine vF ?_ ?_<;>intro hc<;>try simp only [vL] at hc)|refine vJ fun hg=>?_|refine vT ?_|refine vN ‹_› ?_|(refine vQ ?_ fun x hx=>?_;·omega)|((first|refine vO ?_ ?_|refine vP ?_ ?_);·first|omega|(simp only [vM] at *;omega))|(refine vU ?_ ?_;·kernel_rfl)|refine yD hux (by (repeat refine ⟨⟨rfl,rfl⟩,?_⟩);rfl) rfl ?_|refine yD huy (by (repeat refine ⟨⟨rfl,rfl⟩,?_⟩);rfl) rfl ?_|refine yD cS ⟨⟨rfl,rfl⟩,⟨rfl,rfl⟩,⟨rfl,rfl⟩,rfl⟩ rfl ?_));all_goals try conv=>whnf
      all_goals try omega
      refine ⟨(k+1,_),[(0,0),(1,1),(2,4)],[],?_,?_,by (refine ⟨rfl,rfl,rfl,?_,?_⟩;repeat' first|exact trivial|exact rfl|refine And.intro ?_ ?_|refine ⟨_,rfl,?_⟩|decide)⟩
      ·exact ⟨hkl,by rw [hst,List.map_append];rfl⟩
      ·((simp only [vM] at *;omega))
     ·have cO:=cO a 0#64 (by omega)
      (repeat' ((conv=>whnf);first|refine zO.decN (by omega) ?_|refine vA ?_|refine vG ?_|refine vH ?_|(refine vF ?_ ?_<;>intro hc<;>try simp only [vL] at hc)|refine vJ fun hg=>?_|refine vT ?_|refine vN ‹_› ?_|(refine vQ ?_ fun x hx=>?_;·omega)|((first|refine vO ?_ ?_|refine vP ?_ ?_);·first|omega|(simp only [vM] at *;omega))|(refine vU ?_ ?_;·kernel_rfl)|refine yD hux (by (repeat refine ⟨⟨rfl,rfl⟩,?_⟩);rfl) rfl ?_|refine yD huy (by (repeat refine ⟨⟨rfl,rfl⟩,?_⟩);rfl) rfl ?_|refine yD cO (by (repeat refine ⟨⟨rfl,rfl⟩,?_⟩);rfl) rfl ?_));all_goals try conv=>whnf
      all_goals try omega
      refine ⟨(k+1,_),[(0,0),(1,1),(2,4)],[],?_,?_,by (refine ⟨rfl,rfl,rfl,?_,?_⟩;repeat' first|exact trivial|exact rfl|refine And.intro ?_ ?_|refine ⟨_,rfl,?_⟩|decide)⟩
      ·exact ⟨hkl,by rw [hst,List.map_append];rfl⟩
      ·((simp only [vM] at *;omega))
    | true =>
     have huy:=hy▸zca (T:=T) n.op
     obtain ⟨y2,y3⟩:=y1 hy
     obtain ⟨b,hb⟩ : ∃ b,S[n.y.toNat]? = some b:=⟨_,List.getElem?_eq_getElem (by omega)⟩
     have hst:=hst0
     rw [hx,hy,zaY ha,zaY hb] at hst
     have h15:n.op≠15:=fun h=>by rw [zT,h] at hy;revert hy;decide
     by_cases h14:n.op=14
     ·obtain ⟨i0,i1⟩:=f2 (decide_eq_true (by omega))
      have cB:=zsJ (T:=T) p hp hc0 n.i i0 i1 a b
      rw [show zb7 p n.i a b=zaL p n.hd a b by unfold zaL;simp only [show n.hd.op=14 from h14];rfl] at cB
      (repeat' ((conv=>whnf);first|refine zO.decY (by omega) ?_|refine vA ?_|refine vG ?_|(refine vF ?_ ?_<;>intro hc<;>try simp only [vL] at hc)|refine vJ fun hg=>?_|refine vT ?_|refine vN ‹_› ?_|(refine vQ ?_ fun x hx=>?_;·omega)|((first|refine vO ?_ ?_|refine vP ?_ ?_);·first|omega|(simp only [vM] at *;omega))|(refine vU ?_ ?_;·kernel_rfl)|refine yD hux (by (repeat refine ⟨⟨rfl,rfl⟩,?_⟩);rfl) rfl ?_|refine yD huy (by (repeat refine ⟨⟨rfl,rfl⟩,?_⟩);rfl) rfl ?_|refine yD cB (by (repeat refine ⟨⟨rfl,rfl⟩,?_⟩);rfl) rfl ?_));all_goals try conv=>whnf
      all_goals try omega
      refine ⟨(k+1,_),[(0,0),(1,1),(2,4)],[],?_,?_,by (refine ⟨rfl,rfl,rfl,?_,?_⟩;repeat' first|exact trivial|exact rfl|refine And.intro ?_ ?_|refine ⟨_,rfl,?_⟩|decide)⟩
      ·exact ⟨hkl,by rw [hst,List.map_append];rfl⟩
      ·((simp only [vM] at *;omega))
     ·have cO:=cO a b (by omega)
      (repeat' ((conv=>whnf);first|refine zO.decN (by omega) ?_|refine vA ?_|refine vG ?_|(refine vF ?_ ?_<;>intro hc<;>try simp only [vL] at hc)|refine vJ fun hg=>?_|refine vT ?_|refine vN ‹_› ?_|(refine vQ ?_ fun x hx=>?_;·omega)|((first|refine vO ?_ ?_|refine vP ?_ ?_);·first|omega|(simp only [vM] at *;omega))|(refine vU ?_ ?_;·kernel_rfl)|refine yD hux (by (repeat refine ⟨⟨rfl,rfl⟩,?_⟩);rfl) rfl ?_|refine yD huy (by (repeat refine ⟨⟨rfl,rfl⟩,?_⟩);rfl) rfl ?_|refine yD cO (by (repeat refine ⟨⟨rfl,rfl⟩,?_⟩);rfl) rfl ?_));all_goals try conv=>whnf
      all_goals try omega
      refine ⟨(k+1,_),[(0,0),(1,1),(2,4)],[],?_,?_,by (refine ⟨rfl,rfl,rfl,?_,?_⟩;repeat' first|exact trivial|exact rfl|refine And.intro ?_ ?_|refine ⟨_,rfl,?_⟩|decide)⟩
      ·exact ⟨hkl,by rw [hst,List.map_append];rfl⟩
      ·((simp only [vM] at *;omega))
  ·have ek:k=(cL f).length:=by omega
   subst ek
   rw [List.take_length] at hl ⊢
   (repeat' ((conv=>whnf);first|refine vA ?_|(refine vF ?_ ?_<;>intro hc<;>try simp only [vL] at hc)|refine vJ fun hg=>?_|refine vT ?_|(refine vQ ?_ fun x hx=>?_;·first|omega|(simp only [vM] at *;omega))|((first|refine vO ?_ ?_|refine vP ?_ ?_);·(simp only [vM] at *;omega))|fail));all_goals try conv=>whnf
   all_goals try omega
   rw [show ((((zcj (zaL p) 0#64 (cL f) []).map D.u64).length:Int) - 1).toNat=(cL f).length - 1 by rw [List.length_map];omega] at hx
   rw [zaY hx];rfl
 ·have e:zcE p f=(0#64,2):=by rw [zcE,if_neg (by omega),if_neg (by omega),if_neg (by omega),if_pos ‹_›]
  rw [e];rfl
end Go.Ab
namespace Go.Ab
open Go
def zV (e:Nat→Nat→Bool) (w:Nat):Nat:=((List.range w).find? fun v=>e v w).getD w
theorem zh3 (e:Nat→Nat→Bool) (w:Nat):(zV e w < w∧e (zV e w) w=true∨zV e w=w) ∧ ∀ v,v < zV e w→e v w=false:=by
 unfold zV
 cases h:(List.range w).find? fun v=>e v w with
 | none =>
  refine ⟨.inr rfl,fun v hv=>?_⟩
  have:=List.find?_eq_none.1 h v (List.mem_range.2 hv)
  simpa using this
 | some u =>
  obtain ⟨h1,l1,l2,h2,h3⟩:=List.find?_eq_some_iff_append.1 h
  have hu:u∈List.range w:=by rw [h2];simp
  have hlen:l1.length=u:=by
   have h4:(List.range w)[l1.length]? = some u:=by rw [h2];simp
   rw [List.getElem?_range (by
    have:l1.length < (List.range w).length:=by rw [h2];simp
    simpa using this)] at h4
   exact Option.some.inj h4
  refine ⟨.inl ⟨List.mem_range.1 hu,h1⟩,fun v hv=>?_⟩
  have hv:v < u:=hv
  have hm:v∈l1:=by
   have h4:(List.range w)[v]? = some v:=List.getElem?_range (by have:=List.mem_range.1 hu;omega)
   rw [h2,List.getElem?_append_left (by omega)] at h4
   exact List.mem_of_getElem? h4
  simpa using h3 v hm
theorem zw9 (e:Nat→Nat→Bool) (w:Nat):zV e w≤w:=by
 rcases (zh3 e w).1 with h|h<;>omega
theorem zui {e:Nat→Nat→Bool} {w v:Nat} (h:v < zV e w):e v w=false:=(zh3 e w).2 v h
structure Eqv (e:Nat→Nat→Bool):Prop where
 refl : ∀ v,e v v=true
 symm : ∀ v w,e v w=true→e w v=true
 trans : ∀ u v w,e u v=true→e v w=true→e u w=true
section
variable {e:Nat→Nat→Bool} (he:Eqv e)
include he
theorem zru (w:Nat):e (zV e w) w=true:=by
 rcases (zh3 e w).1 with h|h
 ·exact h.2
 ·rw [h];exact he.refl w
theorem zka {v w:Nat} : zV e v=zV e w↔e v w=true:=by
 constructor
 ·intro h
  have h1:=zru he v
  rw [h] at h1
  exact he.trans _ _ _ (he.symm _ _ h1) (zru he w)
 ·intro h
  have a : ∀ {v w},e v w=true→zV e w≤zV e v:=by
   intro v w h
   rcases Nat.lt_or_ge (zV e v) (zV e w) with hl|hl
   ·have:=zui hl
    rw [he.trans _ _ _ (zru he v) h] at this;cases this
   ·exact hl
  have:=a h;have:=a (he.symm _ _ h);omega
theorem zCS (w:Nat):zV e (zV e w)=zV e w:=(zka he).2 (zru he w)
end
theorem zpG {e e':Nat→Nat→Bool} {w:Nat} (h : ∀ v,v≤w→e v w=e' v w):zV e w=zV e' w:=by
 have a : ∀ {e e':Nat→Nat→Bool},(∀ v,v≤w→e v w=e' v w)→zV e w≤zV e' w:=by
  intro e e' h
  rcases Nat.lt_or_ge (zV e' w) (zV e w) with hl|hl
  ·have h1:=zui hl
   have hle:=zw9 e w
   rcases (zh3 e' w).1 with h2|h2
   ·rw [h _ (by omega),h2.2] at h1;cases h1
   ·omega
  ·exact hl
 have:=a h;have:=a fun v hv=>(h v hv).symm;omega
structure zdM (n:Nat) (q:Nat→Nat):Prop where
 le : ∀ w,w < n→q w≤w
 idem : ∀ w,w < n→q (q w)=q w
theorem zpF {e:Nat→Nat→Bool} (he:Eqv e) (n:Nat):zdM n (zV e):=⟨fun w _=>zw9 e w,fun w _=>zCS he w⟩
def zew {α:Type} [DecidableEq α] (k:Nat→α) (v w:Nat):Bool:=decide (k v=k w)
theorem zlI {α:Type} [DecidableEq α] (k:Nat→α):Eqv (zew k) :=
 ⟨fun v=>by simp [zew],fun v w h=>by simp only [zew,decide_eq_true_eq] at h ⊢;exact h.symm,fun u v w h h'=>by simp only [zew,decide_eq_true_eq] at h h' ⊢;exact h.trans h'⟩
theorem zzO {n:Nat} {q:Nat→Nat} (h:zdM n q) {w:Nat} (hw:w < n):zV (zew q) w=q w:=by
 have h1:=h.le w hw
 have h2:=h.idem w hw
 have h3:zV (zew q) w≤q w:=by
  rcases Nat.lt_or_ge (q w) (zV (zew q) w) with hl|hl
  ·have:=zui hl
   simp [zew,h2] at this
  ·exact hl
 have h4:=zru (zlI q) w
 simp only [zew,decide_eq_true_eq] at h4
 have h5:=h.le (zV (zew q) w) (by omega)
 omega
def zZ (q:Nat→Nat) (s:BitVec 64) (k:Nat):BitVec 64:=(List.range k).foldl (fun o w=>if s.getLsbD w=true then o|||1#64 <<< q w else o) 0#64
theorem ziP (q:Nat→Nat) (s:BitVec 64) (k:Nat):zZ q s (k+1)=if s.getLsbD k=true then zZ q s k|||1#64 <<< q k else zZ q s k:=by
 unfold zZ;rw [List.range_succ,List.foldl_append];rfl
def za3 (n:Nat) (rels:List (Nat→BitVec 64)) (q:Nat→Nat) (v w:Nat):Bool:=decide (q v=q w)&&rels.all fun r=>decide (zZ q (r v) n=zZ q (r w) n)
theorem zfe (n:Nat) (rels:List (Nat→BitVec 64)) (q:Nat→Nat):Eqv (za3 n rels q):=by
 refine ⟨fun v=>by simp [za3],fun v w h=>?_,fun u v w h h'=>?_⟩
 ·simp only [za3,Bool.and_eq_true,decide_eq_true_eq,List.all_eq_true] at h ⊢
  exact ⟨h.1.symm,fun r hr=>(h.2 r hr).symm⟩
 ·simp only [za3,Bool.and_eq_true,decide_eq_true_eq,List.all_eq_true] at h h' ⊢
  exact ⟨h.1.trans h'.1,fun r hr=>(h.2 r hr).trans (h'.2 r hr)⟩
def zbR (n:Nat) (rels:List (Nat→BitVec 64)) (q:Nat→Nat):Nat→Nat:=zV (za3 n rels q)
theorem zpc (n:Nat) (rels:List (Nat→BitVec 64)) (q:Nat→Nat) (m:Nat):zdM m (zbR n rels q):=zpF (zfe n rels q) m
theorem zkI {q q':Nat→Nat} {s:BitVec 64} {n:Nat} (h : ∀ w,w < n→q w=q' w) : ∀ k,k≤n→zZ q s k=zZ q' s k
 | 0,_=>rfl
 | k+1,hk=>by rw [ziP,ziP,zkI h k (by omega),h k (by omega)]
theorem zvx {n:Nat} {rels:List (Nat→BitVec 64)} {q q':Nat→Nat} (h : ∀ w,w < n→q w=q' w) {w:Nat} (hw:w < n):zbR n rels q w=zbR n rels q' w:=by
 refine zpG fun v hv=>?_
 unfold za3
 rw [h v (by omega),h w hw]
 congr 1
 refine congrArg (fun f=>rels.all f) (funext fun r=>?_)
 rw [zkI h n (Nat.le_refl _),zkI h n (Nat.le_refl _)]
section
variable {n:Nat} {rels:List (Nat→BitVec 64)} {q:Nat→Nat} (hq:zdM n q)
include hq
theorem zoq {w:Nat} (hw:w < n):q (zbR n rels q w)=q w:=by
 have:=zru (zfe n rels q) w
 simp only [za3,Bool.and_eq_true,decide_eq_true_eq] at this
 exact this.1
theorem zzk {w:Nat} (hw:w < n) (h:q w=w):zbR n rels q w=w:=by
 have h1:=zw9 (za3 n rels q) w
 have h2:=zoq (rels:=rels) hq hw
 have h3:=hq.le (zbR n rels q w) (by unfold zbR;omega)
 unfold zbR at *;omega
theorem zxt (h : ∀ w,w < n→zbR n rels q w=w→q w=w) {w:Nat} (hw:w < n):zbR n rels q w=q w:=by
 have hc:=zpc n rels q n
 have h1:=h (zbR n rels q w) (by have:=hc.le w hw;omega) (hc.idem w hw)
 rw [← h1,zoq hq hw]
end
def zdS (n:Nat) (q:Nat→Nat):Nat:=((List.range n).filter fun w=>decide (q w=w)).length
theorem zrS {p p':Nat→Bool} (hi : ∀ w,p w=true→p' w=true) : ∀ l:List Nat,(l.filter p).length≤(l.filter p').length∧((∃ w∈l,p w=false∧p' w=true)→(l.filter p).length < (l.filter p').length)
 | []=>⟨Nat.le_refl _,fun ⟨w,h,_⟩=>by cases h⟩
 | x::l=>by
  obtain ⟨h1,h2⟩:=zrS hi l
  cases hp:p x with
  | true =>
   rw [List.filter_cons_of_pos hp,List.filter_cons_of_pos (hi x hp)]
   refine ⟨by simpa using h1,fun ⟨w,hw,h3,h4⟩=>?_⟩
   rcases List.mem_cons.1 hw with rfl|hw
   ·rw [hp] at h3;cases h3
   ·have:=h2 ⟨w,hw,h3,h4⟩;simpa using this
  | false =>
   rw [List.filter_cons_of_neg (by simp [hp])]
   cases hp':p' x with
   | true =>
    rw [List.filter_cons_of_pos hp',List.length_cons]
    exact ⟨by omega,fun _=>by omega⟩
   | false =>
    rw [List.filter_cons_of_neg (by simp [hp'])]
    refine ⟨h1,fun ⟨w,hw,h3,h4⟩=>?_⟩
    rcases List.mem_cons.1 hw with rfl|hw
    ·rw [hp'] at h4;cases h4
    ·exact h2 ⟨w,hw,h3,h4⟩
theorem zef (n:Nat) (q:Nat→Nat):zdS n q≤n:=by
 unfold zdS
 have:=List.length_filter_le (fun w=>decide (q w=w)) (List.range n)
 simpa using this
theorem zBi {n:Nat} {rels:List (Nat→BitVec 64)} {q:Nat→Nat} (hq:zdM n q) (h : ∃ w,w < n∧zbR n rels q w≠q w):zdS n q < zdS n (zbR n rels q):=by
 unfold zdS
 have e1:(List.range n).filter (fun w=>decide (q w=w))=(List.range n).filter fun w=>decide (w < n∧q w=w):=by
  refine List.filter_congr fun w hw=>?_
  have:=List.mem_range.1 hw
  simp [this]
 have e2:(List.range n).filter (fun w=>decide (zbR n rels q w=w))=(List.range n).filter fun w=>decide (w < n∧zbR n rels q w=w):=by
  refine List.filter_congr fun w hw=>?_
  have:=List.mem_range.1 hw
  simp [this]
 rw [e1,e2]
 refine (zrS (fun w hw=>?_) _).2 ?_
 ·simp only [decide_eq_true_eq] at hw ⊢
  exact ⟨hw.1,zzk hq hw.1 hw.2⟩
 ·obtain ⟨w,hw,hne⟩:=h
  by_cases hall : ∀ w,w < n→zbR n rels q w=w→q w=w
  ·exact absurd (zxt hq hall hw) hne
  ·simp only [Classical.not_forall] at hall
   obtain ⟨u,hu,h1,h2⟩:=hall
   exact ⟨u,List.mem_range.2 hu,by simp [h2],by simp [hu,h1]⟩
def zbl (n:Nat) (rels:List (Nat→BitVec 64)) (q0:Nat→Nat):Nat→Nat→Nat
 | 0=>q0
 | k+1=>zbR n rels (zbl n rels q0 k)
section
variable {n:Nat} {rels:List (Nat→BitVec 64)} {q0:Nat→Nat} (hq:zdM n q0)
include hq
theorem zgY : ∀ k,zdM n (zbl n rels q0 k)
 | 0=>hq
 | k+1=>zpc _ _ _ _
theorem zlo {k:Nat} (h : ∀ w,w < n→zbl n rels q0 (k+1) w=zbl n rels q0 k w) : ∀ j,k≤j → ∀ w,w < n→zbl n rels q0 j w=zbl n rels q0 k w:=by
 intro j hj
 induction j with
 | zero=>intro w hw;rw [show k=0 by omega]
 | succ j ih =>
  intro w hw
  by_cases e:k=j+1
  ·rw [e]
  ·have ih:=ih (by omega)
   rw [← h w hw]
   exact zvx ih hw
theorem zln {k:Nat} (h : ∀ j,j < k → ∃ w,w < n∧zbl n rels q0 (j+1) w≠zbl n rels q0 j w) : ∀ j,j≤k→zdS n q0+j≤zdS n (zbl n rels q0 j)
 | 0,_=>Nat.le_refl _
 | j+1,hj=>by
  have h1:=zln h j (by omega)
  have h2:=zBi (zgY hq j) (h j (by omega))
  show zdS n q0+(j+1)≤zdS n (zbR n rels (zbl n rels q0 j))
  omega
theorem zyo {j:Nat} (hn:0 < n) (hj:n≤j) {w:Nat} (hw:w < n):zbl n rels q0 j w=zbl n rels q0 n w:=by
 by_cases hall : ∀ i,i < n → ∃ w,w < n∧zbl n rels q0 (i+1) w≠zbl n rels q0 i w
 ·have h1:=zln hq hall n (Nat.le_refl _)
  have h2:=zef n (zbl n rels q0 n)
  have h3:0 < zdS n q0:=by
   unfold zdS
   have h0:q0 0=0:=by have:=hq.le 0 hn;omega
   exact List.length_pos_of_mem (List.mem_filter.2 ⟨List.mem_range.2 hn,by simp [h0]⟩)
  omega
 ·simp only [Classical.not_forall] at hall
  obtain ⟨i,hi,hs⟩:=hall
  have hst : ∀ w,w < n→zbl n rels q0 (i+1) w=zbl n rels q0 i w:=fun w hw=>by
   by_cases e:zbl n rels q0 (i+1) w=zbl n rels q0 i w
   ·exact e
   ·exact absurd ⟨w,hw,e⟩ hs
  rw [zlo hq hst j (by omega) w hw,zlo hq hst n (by omega) w hw]
end
end Go.Ab
namespace Go.Ab
open Go
structure Mn (p:PM) (a:Nat) (c:BitVec 64) (w v:Nat):Prop where
 cell:InC p a w v
 cond:c.getLsbD v=true
 best : ∀ u,InC p a w u→c.getLsbD u=true→rkA p a v≤rkA p a u
section
variable {p:PM} (hc0:zm p=0) {a:Nat} (ha:a < p.cell.length)
include hc0 ha
theorem zvH {c s:BitVec 64} {w:Nat} : (zb7 p a c s).getLsbD w=true↔w < p.W.toNat ∧ ∀ v,Mn p a c w v→s.getLsbD v=true:=by
 rw [ztj hc0 ha]
 exact and_congr_right fun _=>⟨fun h v hv=>h v hv.cell hv.cond hv.best,fun h v h1 h2 h3=>h v ⟨h1,h2,h3⟩⟩
theorem zyR {w:Nat} (hw:w < p.W.toNat) {v:Nat} (hv:InC p a w v):0≤rkA p a v :=
 zjh (zww hc0 ha hw) ((zaS hc0 ha hw).2 hv)
omit hc0 ha in
theorem zvD {x y:BitVec 64} {i:Nat} : (x&&&y).getLsbD i=true↔x.getLsbD i=true∧y.getLsbD i=true:=by
 rw [BitVec.getLsbD_and,Bool.and_eq_true]
omit hc0 ha in
theorem zyE {x y:BitVec 64} {i:Nat} : (x|||y).getLsbD i=true↔x.getLsbD i=true∨y.getLsbD i=true:=by
 rw [BitVec.getLsbD_or,Bool.or_eq_true]
omit hc0 ha in
theorem zv5 {x y:BitVec 64} {i:Nat} : (x &&& ~~~y).getLsbD i=true↔x.getLsbD i=true ∧ ¬y.getLsbD i=true:=by
 rw [BitVec.getLsbD_and,BitVec.getLsbD_not,Bool.and_eq_true]
 constructor
 ·rintro ⟨h1,h2⟩
  refine ⟨h1,fun h=>?_⟩
  rw [h] at h2;simp at h2
 ·rintro ⟨h1,h2⟩
  have:i < 64:=BitVec.lt_of_getLsbD h1
  refine ⟨h1,?_⟩
  rw [decide_eq_true this,Bool.true_and]
  cases hy:y.getLsbD i with
  | true=>exact absurd hy h2
  | false=>rfl
end
end Go.Ab
namespace Go.Ab
open Go
structure zib (p p':PM) (Z:Nat→Nat→Prop):Prop where
 n:p.cell.length=p'.cell.length
 lt : ∀ {v v'},Z v v'→v < p.W.toNat∧v' < p'.W.toNat
 fact : ∀ {v v'},Z v v' → ∀ i,(p.val.getD i 0#64).getLsbD v=true↔(p'.val.getD i 0#64).getLsbD v'=true
 cf : ∀ {a v v' u},a < p.cell.length→Z v v'→InC p a v u → ∃ u',InC p' a v' u'∧Z u u'
 cb : ∀ {a v v' u'},a < p.cell.length→Z v v'→InC p' a v' u' → ∃ u,InC p a v u∧Z u u'
 sf : ∀ {a v v' u},a < p.cell.length→Z v v'→InC p a v u→rkA p a u≤rkA p a v → ∃ u',InC p' a v' u'∧rkA p' a u'≤rkA p' a v'∧Z u u'
 sb : ∀ {a v v' u'},a < p.cell.length→Z v v'→InC p' a v' u'→rkA p' a u'≤rkA p' a v' → ∃ u,InC p a v u∧rkA p a u≤rkA p a v∧Z u u'
theorem zib.symm {p p':PM} {Z:Nat→Nat→Prop} (B:zib p p' Z):zib p' p (fun v' v=>Z v v') where
 n:=B.n.symm
 lt h:=(B.lt h).symm
 fact h i:=(B.fact h i).symm
 cf ha h hu:=B.cb (by have:=B.n;omega) h hu
 cb ha h hu:=B.cf (by have:=B.n;omega) h hu
 sf ha h hu hr:=B.sb (by have:=B.n;omega) h hu hr
 sb ha h hu hr:=B.sf (by have:=B.n;omega) h hu hr
def zY (Z:Nat→Nat→Prop) (x x':BitVec 64):Prop := ∀ v v',Z v v'→(x.getLsbD v=true↔x'.getLsbD v'=true)
theorem zY.symm {Z:Nat→Nat→Prop} {x x':BitVec 64} (h:zY Z x x'):zY (fun v' v=>Z v v') x' x:=fun v' v hz=>(h v v' hz).symm
section
variable {p p':PM} {Z:Nat→Nat→Prop} (hc0:zm p=0) (hc0':zm p'=0) (B:zib p p' Z)
include hc0 hc0' B
theorem zxA:zY Z (zal p.W) (zal p'.W):=fun v v' hz=>by
 rw [zed hc0,zed hc0'];exact ⟨fun _=>(B.lt hz).2,fun _=>(B.lt hz).1⟩
omit hc0 hc0' B in
theorem zxB {x x' y y':BitVec 64} (hx:zY Z x x') (hy:zY Z y y'):zY Z (x&&&y) (x'&&&y'):=fun v v' hz=>by
 rw [zvD,zvD,hx v v' hz,hy v v' hz]
omit hc0 hc0' B in
theorem ztf {x x' y y':BitVec 64} (hx:zY Z x x') (hy:zY Z y y'):zY Z (x|||y) (x'|||y'):=fun v v' hz=>by
 rw [zyE,zyE,hx v v' hz,hy v v' hz]
omit hc0 hc0' B in
theorem zij {x x' y y':BitVec 64} (hx:zY Z x x') (hy:zY Z y y'):zY Z (x &&& ~~~y) (x' &&& ~~~y'):=fun v v' hz=>by
 rw [zv5,zv5,hx v v' hz,hy v v' hz]
omit hc0 hc0' B in
theorem zxD {x x' y y':BitVec 64} (hx:zY Z x x') (hy:zY Z y y'):zY Z (x ^^^ y) (x' ^^^ y'):=fun v v' hz=>by
 have h1:=hx v v' hz
 have h2:=hy v v' hz
 rw [BitVec.getLsbD_xor,BitVec.getLsbD_xor]
 rw [show x.getLsbD v=x'.getLsbD v' from Bool.eq_iff_iff.2 h1,show y.getLsbD v=y'.getLsbD v' from Bool.eq_iff_iff.2 h2]
theorem zub {a:Nat} (ha:a < p.cell.length) {x x':BitVec 64} (h:zY Z x x') {v v':Nat} (hz:Z v v') (hk:(zc7 p a x).getLsbD v=true):(zc7 p' a x').getLsbD v'=true:=by
 rw [znC hc0 ha] at hk
 rw [znC hc0' (by have:=B.n;omega)]
 refine ⟨(B.lt hz).2,fun u' hu'=>?_⟩
 obtain ⟨u,hu,hzu⟩:=B.cb ha hz hu'
 exact (h u u' hzu).1 (hk.2 u hu)
theorem zuL {a:Nat} (ha:a < p.cell.length) {x x':BitVec 64} (h:zY Z x x') {v v':Nat} (hz:Z v v') (hk:(zdw p a x).getLsbD v=true):(zdw p' a x').getLsbD v'=true:=by
 rw [zlV hc0 ha] at hk
 rw [zlV hc0' (by have:=B.n;omega)]
 refine ⟨(B.lt hz).2,fun u' hu' hr=>?_⟩
 obtain ⟨u,hu,hr2,hzu⟩:=B.sb ha hz hu' hr
 exact (h u u' hzu).1 (hk.2 u hu hr2)
omit hc0 hc0' in
theorem zpY {g:Nat} {v v' u':Nat} (hz:Z v v') (h:Suc p' g v' u') : ∃ u,Suc p g v u∧Z u u':=by
 obtain ⟨h1,a,h2,h3,h4⟩:=h
 obtain ⟨u,hu,hzu⟩:=B.cb (by have:=B.n;omega) hz h4
 exact ⟨u,⟨(B.lt hz).1,a,by have:=B.n;omega,h3,hu⟩,hzu⟩
theorem zrQ {g:Nat} {x x':BitVec 64} (h:zY Z x x') {v v':Nat} (hz:Z v v') (hk:(zfw p g x).getLsbD v=true):(zfw p' g x').getLsbD v'=true:=by
 rw [ziS hc0] at hk
 rw [ziS hc0']
 refine ⟨(B.lt hz).2,fun u' hu'=>?_⟩
 obtain ⟨u,hu,hzu⟩:=zpY B hz hu'
 exact (h u u' hzu).1 (hk.2 u hu)
omit hc0 hc0' in
theorem zBj {g:Nat} {c c':BitVec 64} (hc:zY Z c c') {v v' u':Nat} (hz:Z v v') (h:CP p' g c' v' u') : ∃ u,CP p g c v u∧Z u u':=by
 induction h with
 | base h1 h2 =>
  obtain ⟨u,hu,hzu⟩:=zpY B hz h1
  exact ⟨u,.base hu ((hc _ _ hzu).2 h2),hzu⟩
 | step _ h1 h2 ih =>
  obtain ⟨u,hu,hzu⟩:=ih
  obtain ⟨t,ht,hzt⟩:=zpY B hzu h1
  exact ⟨t,.step hu ht ((hc _ _ hzt).2 h2),hzt⟩
theorem zqk {g:Nat} {c c' x x':BitVec 64} (hc:zY Z c c') (h:zY Z x x') {v v':Nat} (hz:Z v v') (hk:(zdu p g c x).getLsbD v=true):(zdu p' g c' x').getLsbD v'=true:=by
 rw [zdi hc0] at hk
 rw [zdi hc0']
 refine ⟨(B.lt hz).2,fun u' hu'=>?_⟩
 obtain ⟨u,hu,hzu⟩:=zBj B hc hz hu'
 exact (h u u' hzu).1 (hk.2 u hu)
omit hc0' in
theorem zxG {a:Nat} (ha:a < p.cell.length) {c c':BitVec 64} (hc:zY Z c c') {v v' u':Nat} (hz:Z v v') (h:Mn p' a c' v' u') : ∃ u,Mn p a c v u∧Z u u':=by
 have hv:=(B.lt hz).1
 obtain ⟨u0,hu0,hz0⟩:=B.cb ha hz h.cell
 obtain ⟨u,⟨h1,h2⟩,h3⟩:=zAa (K:=fun i=>InC p a v i∧Z i u') (R:=rkA p a) (fun i hi=>zyR hc0 ha hv hi.1) (rkA p a u0).toNat u0 ⟨hu0,hz0⟩ (Nat.le_refl _)
 refine ⟨u,⟨h1,(hc u u' h2).2 h.cond,fun t ht htc=>?_⟩,h2⟩
 rcases Int.lt_or_le (rkA p a t) (rkA p a u) with hlt|hle
 ·exfalso
  have htu:InC p a u t:=⟨ht.1,by have:=ht.2;have:=h1.2;omega⟩
  obtain ⟨t',ht',hrt,hzt⟩:=B.sf ha h2 htu (by omega)
  have hct':InC p' a v' t':=⟨ht'.1,by have:=ht'.2;have:=h.cell.2;omega⟩
  have hge:=h.best t' hct' ((hc t t' hzt).1 htc)
  have hut:InC p' a t' u':=⟨h.cell.1,ht'.2.symm⟩
  obtain ⟨w,hw,hrw,hzw⟩:=B.sb ha hzt hut (by omega)
  have hcw:InC p a v w:=⟨hw.1,by have:=hw.2;have:=ht.2;omega⟩
  have:=h3 w ⟨hcw,hzw⟩
  omega
 ·exact hle
theorem zvI {a:Nat} (ha:a < p.cell.length) {c c' x x':BitVec 64} (hc:zY Z c c') (h:zY Z x x') {v v':Nat} (hz:Z v v') (hk:(zb7 p a c x).getLsbD v=true):(zb7 p' a c' x').getLsbD v'=true:=by
 rw [zvH hc0 ha] at hk
 rw [zvH hc0' (by have:=B.n;omega)]
 refine ⟨(B.lt hz).2,fun u' hu'=>?_⟩
 obtain ⟨u,hu,hzu⟩:=zxG hc0 B ha hc hz hu'
 exact (h u u' hzu).1 (hk.2 u hu)
theorem zp6 {a:Nat} (ha:a < p.cell.length) {x x':BitVec 64} (h:zY Z x x'):zY Z (zc7 p a x) (zc7 p' a x'):=fun v v' hz =>
 ⟨zub hc0 hc0' B ha h hz,zub hc0' hc0 B.symm (by have:=B.n;omega) h.symm hz⟩
theorem zwr {a:Nat} (ha:a < p.cell.length) {x x':BitVec 64} (h:zY Z x x'):zY Z (zdw p a x) (zdw p' a x'):=fun v v' hz =>
 ⟨zuL hc0 hc0' B ha h hz,zuL hc0' hc0 B.symm (by have:=B.n;omega) h.symm hz⟩
theorem zu2 {g:Nat} {x x':BitVec 64} (h:zY Z x x'):zY Z (zfw p g x) (zfw p' g x'):=fun v v' hz =>
 ⟨zrQ hc0 hc0' B h hz,zrQ hc0' hc0 B.symm h.symm hz⟩
theorem zte {g:Nat} {c c' x x':BitVec 64} (hc:zY Z c c') (h:zY Z x x'):zY Z (zdu p g c x) (zdu p' g c' x'):=fun v v' hz =>
 ⟨zqk hc0 hc0' B hc h hz,zqk hc0' hc0 B.symm hc.symm h.symm hz⟩
theorem zxC {a:Nat} (ha:a < p.cell.length) {c c' x x':BitVec 64} (hc:zY Z c c') (h:zY Z x x'):zY Z (zb7 p a c x) (zb7 p' a c' x'):=fun v v' hz =>
 ⟨zvI hc0 hc0' B ha hc h hz,zvI hc0' hc0 B.symm (by have:=B.n;omega) hc.symm h.symm hz⟩
theorem zmB {h:Hd} (hh:zgj h) (hf:zmw p h) {x x' y y':BitVec 64} (hx:zY Z x x') (hy:zY Z y y'):zY Z (zaL p h x y) (zaL p' h x' y'):=by
 have hA:=zxA hc0 hc0' B
 have hag:zap h.op=true → ∃ a:Nat,h.i=(a:Int)∧a < p.cell.length:=fun e=>by
  have h3:0≤h.i∧h.i≤3:=hh.agent e
  have h1:=hf.1
  rw [zam,if_pos e] at h1
  have:=(Nat.pow_lt_pow_iff_right (by decide:1 < 2)).1 h1
  exact ⟨h.i.toNat,by omega,this⟩
 unfold zaL
 by_cases h1:h.op=1
 ·rw [if_pos h1,if_pos h1];exact hA
 rw [if_neg h1,if_neg h1]
 by_cases h3:h.op=3
 ·rw [if_pos h3,if_pos h3];exact fun v v' hz=>B.fact hz _
 rw [if_neg h3,if_neg h3]
 by_cases h4:h.op=4
 ·rw [if_pos h4,if_pos h4];exact zij hA hx
 rw [if_neg h4,if_neg h4]
 by_cases h5:h.op=5
 ·rw [if_pos h5,if_pos h5];exact zxB hx hy
 rw [if_neg h5,if_neg h5]
 by_cases h6:h.op=6
 ·rw [if_pos h6,if_pos h6];exact ztf hx hy
 rw [if_neg h6,if_neg h6]
 by_cases h7:h.op=7
 ·rw [if_pos h7,if_pos h7];exact ztf (zij hA hx) hy
 rw [if_neg h7,if_neg h7]
 by_cases h8:h.op=8
 ·rw [if_pos h8,if_pos h8];exact zij hA (zxD hx hy)
 rw [if_neg h8,if_neg h8]
 by_cases h9:h.op=9
 ·rw [if_pos h9,if_pos h9];obtain ⟨a,ha,hl⟩:=hag (decide_eq_true (by omega));rw [ha];exact zp6 hc0 hc0' B hl hx
 rw [if_neg h9,if_neg h9]
 by_cases h10:h.op=10
 ·rw [if_pos h10,if_pos h10];obtain ⟨a,ha,hl⟩:=hag (decide_eq_true (by omega));rw [ha];exact zij hA (zp6 hc0 hc0' B hl (zij hA hx))
 rw [if_neg h10,if_neg h10]
 by_cases h11:h.op=11
 ·rw [if_pos h11,if_pos h11];exact zu2 hc0 hc0' B hx
 rw [if_neg h11,if_neg h11]
 by_cases h13:h.op=13
 ·rw [if_pos h13,if_pos h13];exact zte hc0 hc0' B hx hy
 rw [if_neg h13,if_neg h13]
 by_cases h14:h.op=14
 ·rw [if_pos h14,if_pos h14];obtain ⟨a,ha,hl⟩:=hag (decide_eq_true (by omega));rw [ha];exact zxC hc0 hc0' B hl hx hy
 rw [if_neg h14,if_neg h14]
 by_cases h15:h.op=15
 ·rw [if_pos h15,if_pos h15];obtain ⟨a,ha,hl⟩:=hag (decide_eq_true (by omega));rw [ha];exact zwr hc0 hc0' B hl hx
 rw [if_neg h15,if_neg h15]
 intro v v' hz;simp
omit hc0 hc0' B in
theorem zkC:zY Z 0#64 0#64:=fun v v' hz=>by simp
theorem zkB : ∀ (t:Tm),t.all zgj→t.all (zmw p)→zY Z (ev (zaL p) 0#64 t) (ev (zaL p') 0#64 t)
 | .z h,h1,h2=>zmB hc0 hc0' B h1 h2 zkC zkC
 | .u h x,h1,h2=>zmB hc0 hc0' B h1.1 h2.1 (zkB x h1.2 h2.2) zkC
 | .b h x y,h1,h2=>zmB hc0 hc0' B h1.1 h2.1 (zkB x h1.2.1 h2.2.1) (zkB y h1.2.2 h2.2.2)
end
end Go.Ab
namespace Go.Ab
open Go Go.Proofs
set_option maxRecDepth 10000
set_option maxHeartbeats 4000000
variable {T:Nat→Obj→Prop}
def zgn (r c:List (BitVec 64)) (w v:Nat):Bool:=rb r w v||rb c w v
def zwm (r c:List (BitVec 64)):Prop:=ztb r 2∧ztb r 4 ∧ ∀ w,w < r.length → ∀ v,v < r.length→zgn r c w v=true → ∀ i,zgn r c w i=true→zgn r c v i=true
noncomputable def zft (r c:List (BitVec 64)):Bool := @decide (zwm r c) (Classical.propDecidable _)
theorem zmU {r c:List (BitVec 64)} : zft r c=true↔zwm r c:=by simp [zft]
theorem zpq {r c:List (BitVec 64)} : zft r c=false ↔ ¬zwm r c:=by simp [zft]
theorem zri {r c:List (BitVec 64)} {w:Nat} {x y:BitVec 64} (h1:r[w]? = some x) (h2:c[w]? = some y) (v:Nat):zgn r c w v=(x|||y).getLsbD v:=by rw [zgn,zaO h1,zaO h2,BitVec.getLsbD_or]
theorem ztY (hT:zeO T) (r c:List (BitVec 64)) (hl:c.length=r.length):Fn Tryz.prog T zhF [.d (dU r),.d (dU c)] [] (.d (.bool (zft r c))) []:=by
 refine zh zw zoD (by show 2≤56;decide) ?_
 (repeat' ((conv=>whnf);first|refine vA ?_|refine vE ?_|(refine vI ?_ ?_<;>intro hc)|refine vJ fun hg=>?_|refine vT ?_|refine vZ ?_|refine yD (zCe hT _ _) ⟨⟨rfl,rfl⟩,⟨rfl,rfl⟩,rfl⟩ rfl ?_));all_goals try conv=>whnf
 ·have h2:=zeU.1 ‹zlj r 2=true›
  have h4:=zeU.1 ‹zlj r 4=true›
  have hs:=zbE.1 h2.1
  refine zP (fun (k:Nat)=>[(0,.d (dU r)),(1,.d (dU c)),(17,.d (.int .i64 ((r.map D.u64).length:Int))),(18,.d (.int .i64 ((k:Int))))]) (fun (k:Nat)=>k≤r.length ∧ ∀ w,w < k → ∀ v,v < r.length→zgn r c w v=true → ∀ i,zgn r c w i=true→zgn r c v i=true) (fun (k:Nat)=>r.length - k) (0) (⟨by simp,by simp⟩) (by (repeat' first|exact trivial|exact rfl|refine And.intro ?_ ?_)) ?_
  rintro k ⟨hk,hI⟩
  (repeat' ((conv=>whnf);first|refine vA ?_|(refine vF ?_ ?_<;>intro hc<;>try simp only [vL] at hc)|refine vJ fun hg=>?_|refine vT ?_|(refine vQ ?_ fun x hx=>?_;·omega)|(refine vU ?_ ?_;·kernel_rfl)|refine vZ ?_));all_goals try conv=>whnf
  ·rename_i a ha
   have e1:=zri ha hx
   refine zP (fun (j:Nat)=>[(0,.d (dU r)),(1,.d (dU c)),(17,.d (.int .i64 ((r.map D.u64).length:Int))),(18,.d (.int .i64 ((k:Int)))),(6,.d (.u64 (a|||x))),(31,.d (.int .i64 ((r.map D.u64).length:Int))),(32,.d (.int .i64 ((j:Int))))]) (fun (j:Nat)=>j≤r.length ∧ ∀ v,v < j→zgn r c k v=true → ∀ i,zgn r c k i=true→zgn r c v i=true) (fun (j:Nat)=>r.length - j) (0) (⟨by simp,by simp⟩) (by (repeat' first|exact trivial|exact rfl|refine And.intro ?_ ?_)) ?_
   rintro j ⟨hj,hJ⟩
   (repeat' ((conv=>whnf);first|refine vA ?_|((first|refine vD ?_ ?_|refine vF ?_ ?_)<;>intro hc<;>try simp only [vL] at hc)|refine vT ?_|(refine vQ ?_ fun x hx=>?_;·omega)|((first|refine vO ?_ ?_|refine vP ?_ ?_);·omega)|(refine vU ?_ ?_;·kernel_rfl)|refine vZ ?_));all_goals try conv=>whnf
   ·rename_i b hb
    symm;rw [zpq]
    have e2:=zri hb hx
    have hn:=mt zdt.2 ‹_≠_›
    refine fun h=>hn fun i hi=>?_
    rw [← e2]
    exact h.2.2 k (by omega) j (by omega) (by rw [e1];exact (zee _ _).1 ‹_=_›) i (by rw [e1];exact hi)
   ·rename_i b hb
    have e2:=zri hb hx
    have hn:=zdt.1 ‹_ &&& ~~~_=_›
    exact ⟨j+1,[],[],⟨by (omega),fun v hv h i hi=>by
     by_cases e:v=j
     ·subst e
      rw [e2]
      exact hn i (by rw [← e1];exact hi)
     ·exact hJ v (by omega) h i hi⟩,by (omega),by (refine ⟨rfl,rfl,rfl,?_,?_⟩;repeat' first|exact trivial|exact rfl|refine And.intro ?_ ?_)⟩
   ·exact ⟨j+1,[],[],⟨by (omega),fun v hv h i hi=>by
     by_cases e:v=j
     ·subst e
      rw [e1] at h
      exact absurd ((zee _ _).2 h) ‹¬_=_›
     ·exact hJ v (by omega) h i hi⟩,by (omega),by (refine ⟨rfl,rfl,rfl,?_,?_⟩;repeat' first|exact trivial|exact rfl|refine And.intro ?_ ?_)⟩
   ·exact ⟨k+1,[],[],⟨by (omega),fun w hw v hv h i hi=>by
     by_cases e:w=k
     ·subst e;exact hJ v (by omega) h i hi
     ·exact hI w (by omega) v hv h i hi⟩,by (omega),by (refine ⟨rfl,rfl,rfl,?_,?_⟩;repeat' first|exact trivial|exact rfl|refine And.intro ?_ ?_)⟩
  ·symm;rw [zmU]
   exact ⟨h2,h4,fun w hw=>hI w (by omega)⟩
 ·symm;rw [zpq]
  exact fun h=>zgt.1 ‹zlj r 4=false› h.2.1
 ·symm;rw [zpq]
  exact fun h=>zgt.1 ‹zlj r 2=false› h.1
end Go.Ab
namespace Go.Proofs
def Tryz.lays129_ren:Go.Shelf.Ren:=⟨fun|129=>159|n=>n,fun|53=>44|3=>3|4=>4|46=>101|5=>5|9=>9|n=>n,fun|n=>n⟩
theorem Tryz.lays129:Go.Proofs.Lays.n129 Tryz.prog Tryz.lays129_ren := {
 mixed:=by kernel_rfl
 f129:=Tryz.func159.trans (congrArg some (by kernel_rfl))
 t3:=Tryz.underlying3
 a3:=Tryz.isAgg3
 z3:=Tryz.sizeOf3
 v3:=Tryz.zeroValue3
 t4:=Tryz.underlying4
 a4:=Tryz.isAgg4
 z4:=Tryz.sizeOf4
 v4:=Tryz.zeroValue4
 t5:=Tryz.underlying5
 a5:=Tryz.isAgg5
 z5:=Tryz.sizeOf5
 v5:=Tryz.zeroValue5
 t9:=Tryz.underlying9
 a9:=Tryz.isAgg9
 z9:=Tryz.sizeOf9
 v9:=Tryz.zeroValue9
 t46:=Tryz.underlying101
 a46:=Tryz.isAgg101
 z46:=Tryz.sizeOf101
 v46:=Tryz.zeroValue101
 t53:=Tryz.underlying44
 a53:=Tryz.isAgg44
 z53:=Tryz.sizeOf44
 v53:=Tryz.zeroValue44 }
end Go.Proofs
namespace Go.Ab
open Go Go.Proofs
set_option maxRecDepth 10000
set_option maxHeartbeats 4000000
variable {T:Nat→Obj→Prop}
theorem zwA:zcO Tryz.prog zcY:=⟨_,Tryz.func159,by kernel_rfl,by kernel_rfl⟩
theorem ztW (x:BitVec 64):Fn Tryz.prog T zcY [.d (.u64 x)] [] (.d (.int .i64 (Sort.bitsLen x.toNat:Int))) []:=by
 refine zvT (ds:=[.u64 x]) zwA fun w args hw hsz hargs=>?_
 obtain ⟨X,hX⟩:=hargs 0 (by simp)
 have ha:args = #[.int .u64 (x.toNat:Int)]:=by
  have h0:args.getD 0 undef = .int .u64 (x.toNat:Int):=by
   generalize args.getD 0 undef=y at hX
   cases hX;rfl
  obtain ⟨l⟩:=args
  match l,hsz with
  | [y],_=>rw [← h0];rfl
 rw [ha]
 have:=Any.bits_Len64 Tryz.lays129 (x.toNat:Int) w (by omega) (by have:=x.isLt;omega)
 refine this.mono fun e w' he=>⟨_,he.1,he.2,fun X=>?_⟩
 rw [Int.toNat_natCast,Go.Proofs.bitLen_eq _ x.isLt]
 exact .int _ _ (by decide)
theorem zx0 (x:BitVec 64):Fn Tryz.prog T zdG [.d (.u64 x)] [] (.d (.int .i64 (Sort.bitsLen x.toNat:Int))) []:=by
 refine zh zw zqD (by show 1≤8;decide) ?_
 (repeat' ((conv=>whnf);first|refine vT ?_|refine vX ?_|refine yD (ztW _) ⟨⟨rfl,rfl⟩,rfl⟩ rfl ?_));all_goals try conv=>whnf
end Go.Ab
namespace Go.Ab
open Go Go.Proofs
set_option maxRecDepth 10000
set_option maxHeartbeats 4000000
variable {T:Nat→Obj→Prop}
section
variable {α:Type} [Inhabited α] {lt:α→α→Bool}
end
section
variable {α:Type} [Inhabited α] {p:α→Bool}
end
section
open Go.Sort
variable {α:Type} [Inhabited α] (lt:α→α→Bool)
def zgE (d:Array α) (a b p lim:Nat) (wb wp:Bool):Array α :=
 if a > 0∧lt d[a - 1]! d[p]! = false then pdq lt (partitionEqual lt d a b p).2 (partitionEqual lt d a b p).1 b lim wb wp
 else if (partition lt d a b p).1 - a < b - (partition lt d a b p).1 then
  pdq lt (pdq lt (partition lt d a b p).2.2 a (partition lt d a b p).1 lim true true) ((partition lt d a b p).1+1) b lim (decide ((partition lt d a b p).1 - a ≥ (b - a) / 8)) (partition lt d a b p).2.1
 else pdq lt (pdq lt (partition lt d a b p).2.2 ((partition lt d a b p).1+1) b lim true true) a (partition lt d a b p).1 lim (decide (b - (partition lt d a b p).1 ≥ (b - a) / 8)) (partition lt d a b p).2.1
def zuA (d:Array α) (a b p lim:Nat) (wb wp:Bool) (hint:Hint):Array α :=
 if wb=true∧wp=true∧hint = .increasing then (if (partialInsertionSort lt d a b).2=true then (partialInsertionSort lt d a b).1 else zgE lt (partialInsertionSort lt d a b).1 a b p lim wb wp)
 else zgE lt d a b p lim wb wp
def zpO (d:Array α) (a b lim:Nat) (wb wp:Bool):Array α :=
 if (choosePivot lt d a b).2 = .decreasing then zuA lt (reverseRange d a b) a b ((b - 1) - ((choosePivot lt d a b).1 - a)) lim wb wp .increasing
 else zuA lt d a b (choosePivot lt d a b).1 lim wb wp (choosePivot lt d a b).2
variable {lt}
theorem zo7 {d:Array α} {a b p:Nat} (hab:a < b) (hb:b≤d.size):a < (partitionEqual lt d a b p).1∧(partitionEqual lt d a b p).1≤b∧(partitionEqual lt d a b p).2.size=d.size:=by
 obtain ⟨h1,h2,h3,_⟩:=partEqLoop_spec lt a b (b - 1+1 - (a+1)) (a+1) (b - 1) (Sort.swp d a p) (Nat.le_refl _) (by omega) (by omega) (by omega) (by rw [Ab.swp_size];exact hb) (fun t _ _=>by omega) (fun t _ _=>by omega)
 exact ⟨h1,h2,by rw [show (partitionEqual lt d a b p).2=(partEqLoop lt a (a+1) (b - 1) (Sort.swp d a p)).2 from rfl,h3.1,Ab.swp_size]⟩
theorem zAu (hS:SWO lt) {d:Array α} {a b p lim:Nat} {wb wp:Bool} (ha:a≤p) (hp:p < b) (hb:b≤d.size) :
  (if a > 0 && !lt d[a - 1]! d[p]! then
   match partitionEqual lt d a b p with
   | (mid,d4)=>if _h:a < mid∧mid≤b then pdq lt d4 mid b lim wb wp else d4
  else
   match partition lt d a b p with
   | (mid,ap,d4) =>
    if _h:a≤mid∧mid < b then
     if mid - a < b - mid then pdq lt (pdq lt d4 a mid lim true true) (mid+1) b lim (decide (mid - a ≥ (b - a) / 8)) ap
     else pdq lt (pdq lt d4 (mid+1) b lim true true) a mid lim (decide (b - mid ≥ (b - a) / 8)) ap
    else d4)=zgE lt d a b p lim wb wp:=by
 obtain ⟨e1,e2,_⟩:=zo7 (lt:=lt) (p:=p) (show a < b by omega) hb
 obtain ⟨q1,q2,_⟩:=partition_holds lt hS d a b p ha hp hb
 unfold zgE
 by_cases h:a > 0∧lt d[a - 1]! d[p]! = false
 ·rw [if_pos h,if_pos (by simpa using h)]
  exact dif_pos ⟨e1,e2⟩
 ·rw [if_neg h,if_neg (by simpa using h)]
  exact dif_pos ⟨q1,q2⟩
theorem zkp : ∀ {j:Nat} {d:Array α},(Sort.shiftDown lt j d).size=d.size
 | 0,d=>rfl
 | j+1,d=>by
  unfold Sort.shiftDown
  split
  ·rfl
  ·rw [zkp,Ab.swp_size]
theorem zn0 {b:Nat} : ∀ (n j:Nat) (d:Array α),b - j≤n→(Sort.shiftUp lt b j d).size=d.size
 | 0,j,d,h=>by rw [Sort.shiftUp,if_neg (by omega)]
 | n+1,j,d,h=>by
  rw [Sort.shiftUp]
  split
  ·split
   ·rfl
   ·rw [zn0 n _ _ (by omega),Ab.swp_size]
  ·rfl
theorem zqO {a b:Nat} : ∀ (s i:Nat) (d:Array α),(Sort.partialIns lt a b s i d).1.size=d.size
 | 0,i,d=>rfl
 | s+1,i,d=>by
  rw [Sort.partialIns_succ]
  split
  ·rfl
  ·split
   ·rfl
   ·rw [zqO s]
    unfold Sort.fixUp Sort.fixDown
    split<;>split<;>simp [zn0 _ _ _ (Nat.le_refl _),zkp,Ab.swp_size]
theorem znO {a b:Nat} {d:Array α} : (Sort.partialInsertionSort lt d a b).1.size=d.size:=zqO _ _ _
theorem zCp (hS:SWO lt) {d:Array α} {a b limit:Nat} {wb wp:Bool} (h12 : ¬b - a≤12) (h0:limit≠0) (hb:b≤d.size) :
  pdq lt d a b limit wb wp=if wb=true then zpO lt d a b limit wb wp else zpO lt (breakPatterns d a b) a b (limit - 1) wb wp:=by
 have key : ∀ (d1:Array α) (lim:Nat),d1.size=d.size →
   (if (if (wb&&wp&&decide ((if (choosePivot lt d1 a b).2 = .decreasing then Hint.increasing else (choosePivot lt d1 a b).2) = .increasing))=true then partialInsertionSort lt (if (choosePivot lt d1 a b).2 = .decreasing then reverseRange d1 a b else d1) a b else ((if (choosePivot lt d1 a b).2 = .decreasing then reverseRange d1 a b else d1),false)).2=true then
    (if (wb&&wp&&decide ((if (choosePivot lt d1 a b).2 = .decreasing then Hint.increasing else (choosePivot lt d1 a b).2) = .increasing))=true then partialInsertionSort lt (if (choosePivot lt d1 a b).2 = .decreasing then reverseRange d1 a b else d1) a b else ((if (choosePivot lt d1 a b).2 = .decreasing then reverseRange d1 a b else d1),false)).1
   else zgE lt (if (wb&&wp&&decide ((if (choosePivot lt d1 a b).2 = .decreasing then Hint.increasing else (choosePivot lt d1 a b).2) = .increasing))=true then partialInsertionSort lt (if (choosePivot lt d1 a b).2 = .decreasing then reverseRange d1 a b else d1) a b else ((if (choosePivot lt d1 a b).2 = .decreasing then reverseRange d1 a b else d1),false)).1 a b
    (if (choosePivot lt d1 a b).2 = .decreasing then (b - 1) - ((choosePivot lt d1 a b).1 - a) else (choosePivot lt d1 a b).1) lim wb wp)=zpO lt d1 a b lim wb wp:=by
  intro d1 lim _
  unfold zpO zuA
  by_cases hc:(choosePivot lt d1 a b).2 = .decreasing
  ·simp only [hc,if_true]
   by_cases hw:wb=true∧wp=true
   ·simp [hw.1,hw.2]
   ·have:(wb&&wp)=false:=by
     cases wb<;>cases wp<;>simp_all
    simp [this,hw]
  ·simp only [hc,if_false]
   by_cases hw:wb=true∧wp=true∧(choosePivot lt d1 a b).2 = .increasing
   ·simp [hw.1,hw.2.1,hw.2.2]
   ·have:(wb&&wp&&decide ((choosePivot lt d1 a b).2 = .increasing))=false:=by
     cases wb<;>cases wp<;>simp_all
    simp only [this,Bool.false_eq_true,if_false,if_neg hw]
 have fin : ∀ (d1:Array α) (lim:Nat),PermIn a b d d1→(let c:=choosePivot lt d1 a b
  let d2:=if c.2 = .decreasing then reverseRange d1 a b else d1
  let pivot:=if c.2 = .decreasing then (b - 1) - (c.1 - a) else c.1
  let hint:=if c.2 = .decreasing then Hint.increasing else c.2
  let pi:=if wb&&wp&&hint = .increasing then partialInsertionSort lt d2 a b else (d2,false)
  if pi.2 then pi.1 else
  let d3:=pi.1
  if a > 0 && !lt d3[a - 1]! d3[pivot]! then
   match partitionEqual lt d3 a b pivot with
   | (mid,d4)=>if _h:a < mid∧mid≤b then pdq lt d4 mid b lim wb wp else d4
  else
   match partition lt d3 a b pivot with
   | (mid,ap,d4) =>
    if _h:a≤mid∧mid < b then
     if mid - a < b - mid then pdq lt (pdq lt d4 a mid lim true true) (mid+1) b lim (decide (mid - a ≥ (b - a) / 8)) ap
     else pdq lt (pdq lt d4 (mid+1) b lim true true) a mid lim (decide (b - mid ≥ (b - a) / 8)) ap
    else d4)=zpO lt d1 a b lim wb wp:=by
  intro d1 lim hp1
  rw [← key d1 lim hp1.1]
  have hc:=choosePivot_holds lt d1 a b (by omega)
  have hpv:=pivot_range hc.1 hc.2 ((choosePivot lt d1 a b).2 = .decreasing)
  have hr:(if (choosePivot lt d1 a b).2 = .decreasing then reverseRange d1 a b else d1).size=d.size:=by
   split
   ·rw [(reverseRange_holds d1 a b (by omega) (by rw [hp1.1];exact hb)).1,hp1.1]
   ·exact hp1.1
  refine ite_congr rfl (fun _=>rfl) fun _=>zAu hS ?_ ?_ ?_
  ·exact hpv.1
  ·exact hpv.2
  ·by_cases hw:(wb&&wp&&decide ((if (choosePivot lt d1 a b).2 = .decreasing then Hint.increasing else (choosePivot lt d1 a b).2) = .increasing))=true
   ·rw [if_pos hw,znO,hr];exact hb
   ·rw [if_neg hw]
    show b≤(if (choosePivot lt d1 a b).2 = .decreasing then reverseRange d1 a b else d1).size
    rw [hr];exact hb
 rw [Sort.pdq,if_neg h12,if_neg h0]
 cases wb with
 | true=>exact fin d limit (permIn_refl d a b)
 | false=>exact fin (breakPatterns d a b) (limit - 1) (breakPatterns_holds d a b (by omega) hb)
theorem znm {a b:Nat} : ∀ (n i:Nat) (d:Array α),b - i≤n→(Sort.insOuter lt a b i d).size=d.size
 | 0,i,d,h=>by rw [Ab.insOuter_stop (by omega)]
 | n+1,i,d,h=>by
  by_cases h1:i < b
  ·rw [Ab.insOuter_step h1,znm n _ _ (by omega),Ab.insInner_size]
  ·rw [Ab.insOuter_stop h1]
theorem zuB {first:Nat} : ∀ (k:Nat) (d:Array α),(Sort.heapPop lt first k d).size=d.size
 | 0,d=>rfl
 | k+1,d=>by rw [Sort.heapPop,zuB k,Ab.siftDown_size,Ab.swp_size]
theorem zAt (hS:SWO lt) : ∀ (N:Nat) (d:Array α) (a b limit:Nat) (wb wp:Bool),b - a≤N→a≤b→b≤d.size→(pdq lt d a b limit wb wp).size=d.size:=by
 intro N
 induction N using Nat.strongRecOn with
 | _ N ih =>
 intro d a b limit wb wp hN hab hb
 by_cases h12:b - a≤12
 ·rw [Sort.pdq,if_pos h12];exact znm _ _ _ (Nat.le_refl _)
 by_cases h0:limit=0
 ·rw [Sort.pdq,if_neg h12,if_pos h0,Sort.heapSort,zuB,Ab.build_size]
 have tail : ∀ (u:Array α) (p lim:Nat),u.size=d.size→a≤p→p < b→(zgE lt u a b p lim wb wp).size=d.size:=by
  intro u p lim hu h1 h2
  obtain ⟨e1,e2,e3⟩:=zo7 (lt:=lt) (p:=p) (show a < b by omega) (show b≤u.size by omega)
  obtain ⟨q1,q2,q3,_⟩:=partition_holds lt hS u a b p h1 h2 (by omega)
  unfold zgE
  split
  ·rw [ih (b - (partitionEqual lt u a b p).1) (by omega) _ _ _ _ _ _ (Nat.le_refl _) e2 (by omega),e3,hu]
  ·split
   ·rw [ih (b - ((partition lt u a b p).1+1)) (by omega) _ _ _ _ _ _ (Nat.le_refl _) (by omega) (by rw [ih ((partition lt u a b p).1 - a) (by omega) _ _ _ _ _ _ (Nat.le_refl _) q1 (by rw [q3.1];omega),q3.1];omega),
     ih ((partition lt u a b p).1 - a) (by omega) _ _ _ _ _ _ (Nat.le_refl _) q1 (by rw [q3.1];omega),q3.1,hu]
   ·rw [ih ((partition lt u a b p).1 - a) (by omega) _ _ _ _ _ _ (Nat.le_refl _) (by omega) (by rw [ih (b - ((partition lt u a b p).1+1)) (by omega) _ _ _ _ _ _ (Nat.le_refl _) (by omega) (by rw [q3.1];omega),q3.1];omega),
     ih (b - ((partition lt u a b p).1+1)) (by omega) _ _ _ _ _ _ (Nat.le_refl _) (by omega) (by rw [q3.1];omega),q3.1,hu]
 have goD : ∀ (u:Array α) (p lim:Nat) (hint:Hint),u.size=d.size→a≤p→p < b→(zuA lt u a b p lim wb wp hint).size=d.size:=by
  intro u p lim hint hu h1 h2
  unfold zuA
  split
  ·split
   ·rw [znO,hu]
   ·exact tail _ _ _ (by rw [znO,hu]) h1 h2
  ·exact tail _ _ _ hu h1 h2
 have goC : ∀ (u:Array α) (lim:Nat),u.size=d.size→(zpO lt u a b lim wb wp).size=d.size:=by
  intro u lim hu
  have hc:=choosePivot_holds lt u a b (by omega)
  unfold zpO
  split
  ·refine goD _ _ _ _ (by rw [(reverseRange_holds u a b hab (by omega)).1,hu]) (by omega) (by omega)
  ·exact goD _ _ _ _ hu hc.1 hc.2
 rw [zCp hS h12 h0 hb]
 split
 ·exact goC _ _ rfl
 ·exact goC _ _ (breakPatterns_holds d a b hab hb).1
end
end Go.Ab
namespace Go.Ab
open Go Go.Proofs
set_option maxRecDepth 10000
set_option maxHeartbeats 4000000
variable {T:Nat→Obj→Prop}
def ltU (x y:BitVec 64):Bool:=decide (x.toNat < y.toNat)
abbrev zcK (d:Array ((BitVec 64))):Ob := .row 1 (d.toList.map D.u64)
theorem zvh (x y:(BitVec 64)):Fn Tryz.prog T zha [.d (.u64 x),.d (.u64 y)] [] (.d (.bool (ltU x y))) []:=by
 have hn : ∀ z:(BitVec 64),Fn Tryz.prog T zf8 [.d (.u64 z)] [] (.d (.bool false)) []:=fun z=>by
  refine zh zw zmk (by show 1≤6;decide) ?_
  (repeat' ((conv=>whnf);first|refine vT ?_|refine vZ ?_));all_goals try conv=>whnf
  simp
 refine zh zw zno (by show 2≤17;decide) ?_
 (repeat' ((conv=>whnf);first|refine vA ?_|refine vH ?_|refine vT ?_|refine vZ ?_|refine yD (hn _) (by (repeat refine ⟨⟨rfl,rfl⟩,?_⟩);rfl) rfl ?_));all_goals try conv=>whnf
 rfl
theorem zwT (d:Array ((BitVec 64))) (a b:Nat) (hb:b≤d.size) (hs:d.size≤1073741824) (ha:a≤b) :
  Fn Tryz.prog T zaI [.own 0,.d (.int .i64 (a:Int)),.d (.int .i64 (b:Int))] [zcK d] (.tup []) [some (zcK (Sort.insertionSort ltU d a b))]:=by
 refine zag zw zdK (by show 3≤49;decide) _ (fun e env mem n h=>h) ?_
 (repeat' ((conv=>whnf);first|refine vT ?_|(refine vO ?_ ?_;·omega)|fail));all_goals try conv=>whnf
 refine zn (fun ((ii,xs):Int×List D)=>[(0,.own 0),(1,.d (.int .i64 ((a:Int)))),(2,.d (.int .i64 ((b:Int)))),(6,.d (.int .i64 (ii))),(zc,.own 0)]) (fun ((ii,xs):Int×List D)=>[(0,some (.row 1 xs))]) 1 (fun ((ii,xs):Int×List D) => ∃ (i:Nat) (e:Array ((BitVec 64))),ii=i∧xs=e.toList.map D.u64∧a < i∧i≤b+1∧e.size=d.size∧Sort.insOuter ltU a b i e=Sort.insertionSort ltU d a b) (fun ((ii,xs):Int×List D)=>(b - ii).toNat) (((a:Int)+1,d.toList.map D.u64)) [(0,0)] [] (⟨a+1,d,by omega,rfl,by omega,by omega,rfl,rfl⟩) (by (refine ⟨rfl,rfl,rfl,?_,?_⟩;repeat' first|exact trivial|exact rfl|refine And.intro ?_ ?_|refine ⟨_,rfl,?_⟩|decide)) ?_
 rintro ⟨_,_⟩ ⟨i,e,rfl,rfl,hi,hi2,he,hI⟩
 (repeat' ((conv=>whnf);first|refine vA ?_|(refine vF ?_ ?_<;>intro hc<;>try simp only [vL] at hc)|refine vT ?_));all_goals try conv=>whnf
 ·refine zn (fun ((jj,xs):Int×List D)=>[(0,.own 0),(1,.d (.int .i64 ((a:Int)))),(2,.d (.int .i64 ((b:Int)))),(6,.d (.int .i64 ((i:Int)))),(7,.d (.int .i64 (jj))),(zc,.own 0)]) (fun ((jj,xs):Int×List D)=>[(0,some (.row 1 xs))]) 1 (fun ((jj,xs):Int×List D) => ∃ (j:Nat) (g:Array ((BitVec 64))),jj=j∧xs=g.toList.map D.u64∧j≤i∧g.size=d.size∧Sort.insInner ltU a j g=Sort.insInner ltU a i e) (fun ((jj,xs):Int×List D)=>jj.toNat) (((i:Int),e.toList.map D.u64)) [(0,0)] [] (⟨i,e,rfl,rfl,by omega,he,rfl⟩) (by (refine ⟨rfl,rfl,rfl,?_,?_⟩;repeat' first|exact trivial|exact rfl|refine And.intro ?_ ?_|refine ⟨_,rfl,?_⟩|decide)) ?_
  rintro ⟨_,_⟩ ⟨j,g,rfl,rfl,hj,hg,hJ⟩
  have hgl:g.toList.length=d.size:=by rw [Array.length_toList];exact hg
  have stop : ¬(a < j∧ltU g[j]! g[j - 1]! = true)→Sort.insOuter ltU a b (i+1) g=Sort.insertionSort ltU d a b:=fun h=>by
   rw [← hI,Sort.insOuter.eq_def ltU a b i,if_pos (by omega),← hJ,zsL h]
  (repeat' ((conv=>whnf);first|refine vA ?_|(refine vF ?_ ?_<;>intro hc<;>try simp only [vL] at hc)|refine vT ?_|refine vN ‹_› ?_|(refine vQ ?_ fun x hx=>?_;·omega)|((first|refine vO ?_ ?_|refine vP ?_ ?_);·first|omega|(simp only [vM] at *;omega))|(refine vU ?_ ?_;·kernel_rfl)|refine yD (zvh _ _) ⟨⟨rfl,rfl⟩,⟨rfl,rfl⟩,rfl⟩ rfl ?_));all_goals try conv=>whnf
  ·have e1:((j:Int) - 1).toNat=j - 1:=by omega
   have hx1:g.toList[j]? = some _:=‹g.toList[(j:Int).toNat]? = some _›
   have hx2:g.toList[j - 1]? = some x:=by rw [← e1];exact hx
   refine ⟨(_,_),[(0,0)],[],?_,?_,by (refine ⟨rfl,rfl,rfl,?_,?_⟩;repeat' first|exact trivial|exact rfl|refine And.intro ?_ ?_|refine ⟨_,rfl,?_⟩|decide)⟩
   ·refine ⟨j - 1,Sort.swp g j (j - 1),by omega,?_,by omega,by rw [swp_size,hg],?_⟩
    ·rw [e1];exact zBZ hx1 hx2
    ·exact (zsK (d:=g) (j:=j) (by omega) (by rw [(zat hx1).1,(zat hx2).1];exact decide_eq_true hc)).symm.trans hJ
   ·((simp only [vM] at *;omega))
  ·have e1:((j:Int) - 1).toNat=j - 1:=by omega
   have hx1:g.toList[j]? = some _:=‹g.toList[(j:Int).toNat]? = some _›
   have hx2:g.toList[j - 1]? = some x:=by rw [← e1];exact hx
   refine ⟨(_,_),[(0,0)],[],?_,?_,by (refine ⟨rfl,rfl,rfl,?_,?_⟩;repeat' first|exact trivial|exact rfl|refine And.intro ?_ ?_|refine ⟨_,rfl,?_⟩|decide)⟩
   ·exact ⟨i+1,g,by omega,rfl,by omega,by omega,hg,stop fun h=>by
     rw [(zat hx1).1,(zat hx2).1] at h
     have:=of_decide_eq_true h.2;omega⟩
   ·((simp only [vM] at *;omega))
  ·refine ⟨(_,_),[(0,0)],[],?_,?_,by (refine ⟨rfl,rfl,rfl,?_,?_⟩;repeat' first|exact trivial|exact rfl|refine And.intro ?_ ?_|refine ⟨_,rfl,?_⟩|decide)⟩
   ·exact ⟨i+1,g,by omega,rfl,by omega,by omega,hg,stop fun h=>by omega⟩
   ·((simp only [vM] at *;omega))
 ·have e0:Sort.insertionSort ltU d a b=e:=by
   rw [← hI,Sort.insOuter,if_neg (by omega)]
  rw [e0]
  refine ⟨trivial,_,[(0,0)],[],rfl,.inl (by (repeat' first|exact rfl|refine ⟨_,rfl,?_⟩)),⟨by rfl,by rfl,by rfl,trivial,by (repeat' first|exact trivial|exact rfl|refine And.intro ?_ ?_|refine ⟨_,rfl,?_⟩|exact of_decide_eq_true rfl)⟩,by (repeat' first|exact trivial|exact rfl|refine And.intro ?_ ?_)⟩
theorem zvk (d:Array (BitVec 64)) {a b:Nat} {ai bi:Int} (ea:ai=a) (eb:bi=b) (hb:b≤d.size) (hs:d.size≤1073741824) (ha:a≤b) :
  Fn Tryz.prog T zaI [.own 0,.d (.int .i64 ai),.d (.int .i64 bi)] [zcK d] (.tup []) [some (zcK (Sort.insertionSort ltU d a b))]:=by
 subst ea;subst eb;exact zwT d a b hb hs ha
end Go.Ab
namespace Go.Ab
open Go Go.Proofs
set_option maxRecDepth 10000
set_option maxHeartbeats 4000000
variable {T:Nat→Obj→Prop}
theorem zwk:Sort.SWO ltU:=⟨fun x=>by simp [ltU],fun x y z h1 h2=>by simp [ltU] at *;omega,fun x y z h1 h2=>by simp [ltU] at *;omega⟩
theorem zwW (d:Array (BitVec 64)) {b l:Nat} {bi li:Int} (eb:bi=b) (el:li=l) (h12:b≤12) (hb:b≤d.size) (hs:d.size≤536870912) :
  Fn Tryz.prog T zco [.own 0,.d (.int .i64 0),.d (.int .i64 bi),.d (.int .i64 li)] [zcK d] (.tup []) [some (zcK (Sort.pdq ltU d 0 b l true true))]:=by
 subst eb;subst el
 have hR:Sort.pdq ltU d 0 b l true true=Sort.insertionSort ltU d 0 b:=by rw [Sort.pdq,if_pos (by omega)]
 rw [hR]
 refine zag zw zfk (by show 4≤134;decide) _ (fun e env mem n h=>h) ?_
 (repeat' ((conv=>whnf);refine vT ?_));all_goals try conv=>whnf
 refine zn (fun (u:Unit)=>[(0,.own 0),(1,.d (.int .i64 (0))),(2,.d (.int .i64 ((b:Int)))),(3,.d (.int .i64 ((l:Int)))),(8,.d (.bool (true))),(9,.d (.bool (true))),(zc,.own 0)]) (fun (u:Unit)=>[(0,some (zcK d))]) 1 (fun (u:Unit)=>True) (fun (u:Unit)=>0) (()) [(0,0)] [] (trivial) (by (refine ⟨rfl,rfl,rfl,?_,?_⟩;repeat' first|exact trivial|exact rfl|exact .inr (.inl ⟨rfl,rfl⟩)|refine And.intro ?_ ?_|refine ⟨_,rfl,?_⟩|decide)) ?_
 rintro u -
 (repeat' ((conv=>whnf);first|refine zdN.but 35 rfl ?_|(refine vF ?_ ?_<;>intro hc<;>try simp only [vL] at hc)|refine vT ?_|(refine vO ?_ ?_;·omega)|fail));all_goals try conv=>whnf
 ·refine zN.objs [0] (zvk d (a:=0) (b:=b) rfl rfl (by omega) (by omega) (by omega)) (by (repeat' first|exact rfl|refine And.intro ?_ ?_|refine ⟨_,rfl,?_⟩)) (by (repeat' first|exact rfl|refine And.intro ?_ ?_)) (by rfl) (by rfl) (by simp) ?_
  (repeat' ((conv=>whnf);refine vT ?_));all_goals try conv=>whnf
  refine ⟨trivial,_,[(0,0)],[],rfl,.inl (by (repeat' first|exact rfl|refine ⟨_,rfl,?_⟩)),⟨by rfl,by rfl,by rfl,trivial,by (repeat' first|exact trivial|exact rfl|refine And.intro ?_ ?_|refine ⟨_,rfl,?_⟩|exact of_decide_eq_true rfl)⟩,by (repeat' first|exact trivial|exact rfl|refine And.intro ?_ ?_)⟩
 all_goals (exfalso;omega)
end Go.Ab
namespace Go.Ab
open Go Go.Proofs
set_option maxRecDepth 10000
set_option maxHeartbeats 4000000
section
variable {α:Type} [Inhabited α] [DecidableEq α]
def ddA (d:Array α):Nat→List α
 | 0=>[]
 | n+1=>if 0 < n∧d[n]! = d[n - 1]! then ddA d n else ddA d n++[d[n]!]
def Steps (d:Array α):Prop := ∀ j,0 < j→j < d.size→d[j]! ≠ d[j - 1]!
theorem zzl {d:Array α} {n:Nat} (h:n < d.size):d.toList.take (n+1)=d.toList.take n++[d[n]!]:=by
 rw [List.take_add_one,zBb h];rfl
theorem zof {d:Array α} : ∀ {n:Nat},n≤d.size→(∀ j,0 < j→j < n→d[j]! ≠ d[j - 1]!)→ddA d n=d.toList.take n
 | 0,_,_=>rfl
 | n+1,h,hs=>by
  rw [ddA,if_neg (fun hh=>hs n hh.1 (by omega) hh.2),zof (by omega) (fun j h0 h1=>hs j h0 (by omega)),zzl (by omega)]
theorem ztA {d:Array α} {k:Nat} (h0:0 < k) (h1:k < d.size) (hk : ∀ j,0 < j→j < k→d[j]! ≠ d[j - 1]!) (he:d[k]! = d[k - 1]!):d.toList.take k=ddA d (k+1):=by
 rw [ddA,if_pos ⟨h0,he⟩,zof (by omega) hk]
theorem zuO {e:Array α} {a:Nat} {x:α} (h:a < e.size):(e.setIfInBounds a x).toList.take (a+1)=e.toList.take a++[x]:=by
 have hl:a < e.toList.length:=by simpa using h
 rw [Array.toList_setIfInBounds,List.take_add_one,List.getElem?_set_self hl,List.take_set_of_le (Nat.le_refl a)];rfl
theorem zwc {e:Array α} {a j:Nat} {x:α} (h:a≠j):(e.setIfInBounds a x)[j]! = e[j]! := by
 simp [getElem!_def,Array.getElem?_setIfInBounds_ne h]
theorem zvR {d:Array α} {n:Nat} (h:0 < n) (he:d[n]! = d[n - 1]!):ddA d (n+1)=ddA d n:=by rw [ddA,if_pos ⟨h,he⟩]
theorem zxR {d:Array α} {n:Nat} (he:d[n]! ≠ d[n - 1]!):ddA d (n+1)=ddA d n++[d[n]!]:=by rw [ddA,if_neg (fun h=>he h.2)]
theorem zvQ {enc:α→D} {e:Array α} {z:D} {a n:Nat} (h:a≤e.size):((List.take a (e.toList.map enc))++(List.replicate n z++List.drop (a+n) (e.toList.map enc))).take a=(e.toList.take a).map enc:=by
 rw [List.take_append_of_le_length (by simp;omega),List.take_take,Nat.min_self,List.map_take]
end
end Go.Ab
namespace Go.Ab
open Go Go.Proofs
set_option maxRecDepth 10000
set_option maxHeartbeats 4000000
variable {T:Nat→Obj→Prop}
set_option maxHeartbeats 1000000 in
theorem zvj (d:Array (BitVec 64)) (hs:d.size≤12):Fn Tryz.prog T zcW [.own 0] [zcK d] (.tup []) [some (zcK (Sort.sort ltU d))]:=by
 have hn:((BitVec.ofInt 64 (d.size:Int)).toNat)=d.size:=by simp;omega
 refine zag zw zf7 (by show 1≤11;decide) _ (fun e env mem n h=>h) ?_
 (repeat' ((conv=>whnf);first|refine vJ fun hg=>?_|refine vT ?_|refine yD (zx0 _) ⟨⟨rfl,rfl⟩,rfl⟩ rfl ?_));all_goals try conv=>whnf
 refine zN.objs [0] (zwW d (b:=d.size) (l:=Sort.bitsLen d.size) (bi:=((d.toList.map D.u64).length:Int)) (li:=((Sort.bitsLen (BitVec.ofInt 64 ((d.toList.map D.u64).length:Int)).toNat:Nat):Int)) (by simp) (by rw [List.length_map,Array.length_toList,hn]) hs (Nat.le_refl _) (by omega)) (by (repeat' first|exact rfl|refine And.intro ?_ ?_|refine ⟨_,rfl,?_⟩)) (by (repeat' first|exact rfl|refine And.intro ?_ ?_)) (by rfl) (by rfl) (by simp) ?_
 (repeat' ((conv=>whnf);refine vT ?_));all_goals try conv=>whnf
 refine ⟨trivial,_,[(0,0)],[],rfl,.inl (by (repeat' first|exact rfl|refine ⟨_,rfl,?_⟩)),⟨by rfl,by rfl,by rfl,trivial,by (repeat' first|exact trivial|exact rfl|refine And.intro ?_ ?_|refine ⟨_,rfl,?_⟩|exact of_decide_eq_true rfl)⟩,by (repeat' first|exact trivial|exact rfl|refine And.intro ?_ ?_)⟩
set_option maxHeartbeats 1000000 in
theorem zoA (d:Array (BitVec 64)) (hs:d.size≤536870912) (hd:Steps d):Fn Tryz.prog T za4 [.own 0] [zcK d] (.own 0) [some (zcK d)]:=by
 have hln:d.toList.length=d.size:=Array.length_toList
 refine zag zw zch (by show 1≤61;decide) _ (fun e env mem n h=>h) ?_
 (repeat' ((conv=>whnf);first|refine vA ?_|(refine vF ?_ ?_<;>intro hc<;>try simp only [vL] at hc)|refine vJ fun hg=>?_|refine vT ?_));all_goals try conv=>whnf
 ·refine ⟨trivial,_,[(0,0)],[],rfl,.inl (by (repeat' exact rfl)),⟨by rfl,by rfl,by rfl,trivial,by (repeat' first|exact trivial|exact rfl|refine And.intro ?_ ?_|refine ⟨_,rfl,?_⟩|exact of_decide_eq_true rfl)⟩,by (repeat' first|exact trivial|exact rfl|refine And.intro ?_ ?_)⟩
 refine zn (fun (i:Int)=>[(0,.own 0),(3,.d (.int .i64 (i))),(zc,.own 0)]) (fun (i:Int)=>[(0,some (zcK d))]) 1 (fun (i:Int) => ∃ k:Nat,i=k∧0 < k∧k≤d.size) (fun (i:Int)=>(d.size - i).toNat) (1) [(0,0)] [] (⟨1,rfl,by omega,by omega⟩) (by (refine ⟨rfl,rfl,rfl,?_,?_⟩;repeat' first|exact trivial|exact rfl|refine And.intro ?_ ?_|refine ⟨_,rfl,?_⟩|decide)) ?_
 rintro _ ⟨k,rfl,hk0,hk1⟩
 (repeat' ((conv=>whnf);first|refine vA ?_|(refine vF ?_ ?_<;>intro hc<;>try simp only [vL] at hc)|refine vJ fun hg=>?_|refine vT ?_|(refine vQ ?_ fun x hx=>?_;·omega)|((first|refine vO ?_ ?_|refine vP ?_ ?_);·first|omega|(simp only [vM] at *;omega))|(refine vU ?_ ?_;·kernel_rfl)|fail));all_goals try conv=>whnf
 ·have g1:=zat (zb0 k ‹d.toList[(k:Int).toNat]? = some _› rfl)
  have g2:=zat (zb0 (k - 1) ‹d.toList[((k:Int) - 1).toNat]? = some _› (by omega))
  exact absurd (g1.1.trans (‹_=_›.trans g2.1.symm)) (hd k hk0 g1.2)
 ·refine ⟨_,[(0,0)],[],?_,?_,by (refine ⟨rfl,rfl,rfl,?_,?_⟩;repeat' first|exact trivial|exact rfl|refine And.intro ?_ ?_|refine ⟨_,rfl,?_⟩|decide)⟩
  ·exact ⟨k+1,by omega,by omega,by omega⟩
  ·(omega)
 ·refine ⟨trivial,_,[(0,0)],[],rfl,.inl (by (repeat' exact rfl)),⟨by rfl,by rfl,by rfl,trivial,by (repeat' first|exact trivial|exact rfl|refine And.intro ?_ ?_|refine ⟨_,rfl,?_⟩|exact of_decide_eq_true rfl)⟩,by (repeat' first|exact trivial|exact rfl|refine And.intro ?_ ?_)⟩
set_option maxHeartbeats 1000000 in
theorem znc (d:Array (BitVec 64)) (hs:d.size≤536870912) (hd : ¬Steps d):Fn Tryz.prog T za4 [.own 0] [zcK d] (.own 1) [none,some (.row 1 ((ddA d d.size).map D.u64))]:=by
 generalize hR:(ddA d d.size).map D.u64=R
 have hln:d.toList.length=d.size:=Array.length_toList
 refine zag zw zch (by show 1≤61;decide) _ (fun e env mem n h=>h) ?_
 (repeat' ((conv=>whnf);first|refine vA ?_|(refine vF ?_ ?_<;>intro hc<;>try simp only [vL] at hc)|refine vJ fun hg=>?_|refine vT ?_));all_goals try conv=>whnf
 ·exact absurd (fun j hj0 hj1=>by omega) hd
 refine zn (fun (i:Int)=>[(0,.own 0),(3,.d (.int .i64 (i))),(zc,.own 0)]) (fun (i:Int)=>[(0,some (zcK d))]) 1 (fun (i:Int) => ∃ k:Nat,i=k∧0 < k∧k≤d.size ∧ ∀ j,0 < j→j < k→d[j]! ≠ d[j - 1]!) (fun (i:Int)=>(d.size - i).toNat) (1) [(0,0)] [] (⟨1,rfl,by omega,by omega,fun j _ _=>by omega⟩) (by (refine ⟨rfl,rfl,rfl,?_,?_⟩;repeat' first|exact trivial|exact rfl|refine And.intro ?_ ?_|refine ⟨_,rfl,?_⟩|decide)) ?_
 rintro _ ⟨k,rfl,hk0,hk1,hk⟩
 (repeat' ((conv=>whnf);first|refine vA ?_|(refine vF ?_ ?_<;>intro hc<;>try simp only [vL] at hc)|refine vJ fun hg=>?_|refine vT ?_|(refine vQ ?_ fun x hx=>?_;·omega)|((first|refine vO ?_ ?_|refine vP ?_ ?_);·first|omega|(simp only [vM] at *;omega))|(refine vU ?_ ?_;·kernel_rfl)|fail));all_goals try conv=>whnf
 ·have g1:=zat (zb0 k ‹d.toList[(k:Int).toNat]? = some _› rfl)
  have g2:=zat (zb0 (k - 1) ‹d.toList[((k:Int) - 1).toNat]? = some _› (by omega))
  have hkk:d[k]! = d[k - 1]! := g1.1.trans (‹_=_›.trans g2.1.symm)
  refine zn (fun ((w,q,xs):Int×Int×List D)=>[(0,.own 0),(3,.d (.int .i64 (w))),(4,.view 0 k ((d.toList.map D.u64).length - k)),(5,.d (.int .i64 (q))),(zc,.own 0)]) (fun ((w,q,xs):Int×Int×List D)=>[(0,some (.row 1 xs))]) 1 (fun ((w,q,xs):Int×Int×List D) => ∃ (a b:Nat) (e:Array (BitVec 64)),w=a∧q=b∧xs=e.toList.map D.u64∧0 < b∧k+b≤d.size∧a < k+b∧e.size=d.size∧e.toList.take a=ddA d (k+b) ∧ ∀ j,k+b - 1≤j→j < d.size→e[j]! = d[j]!) (fun ((w,q,xs):Int×Int×List D)=>(d.size - k - q).toNat) (((k:Int),(1:Int),d.toList.map D.u64)) [(0,0)] [] (⟨k,1,d,rfl,rfl,rfl,by omega,by omega,by omega,rfl,ztA hk0 g1.2 hk hkk,fun _ _ _=>rfl⟩) (by (refine ⟨rfl,rfl,rfl,?_,?_⟩;repeat' first|exact trivial|exact rfl|refine And.intro ?_ ?_|refine ⟨_,rfl,?_⟩|decide)) ?_
  rintro ⟨_,_,_⟩ ⟨a,b,e,rfl,rfl,rfl,hb0,hb1,hab,he,ha,hj⟩
  have hle:e.toList.length=e.size:=Array.length_toList
  (repeat' ((conv=>whnf);first|refine vA ?_|((first|refine vD ?_ ?_|refine vF ?_ ?_)<;>intro hc<;>try simp only [vL] at hc)|refine vT ?_|refine vN ‹_› ?_|(refine vQ ?_ fun x hx=>?_;·omega)|((first|refine vO ?_ ?_|refine vP ?_ ?_);·first|omega|(simp only [vM] at *;omega))|(refine vU ?_ ?_;·kernel_rfl)|fail));all_goals try conv=>whnf
  ·have h1:=zat ‹e.toList[k+((b:Nat):Int).toNat]? = some _›
   have h2:=zat (zb0 (i:=((k+b - 1:Nat):Int)) (k+b - 1) (by rw [← ‹e.toList[k+(((b:Nat):Int) - 1).toNat]? = some _›];congr 1;omega) rfl)
   simp only [Int.toNat_natCast] at h1
   have e1:=hj (k+b) (by omega) (by omega)
   have e2:=hj (k+b - 1) (by omega) (by omega)
   refine ⟨(_,_,_),[(0,0)],[],?_,?_,by (refine ⟨rfl,rfl,rfl,?_,?_⟩;repeat' first|exact trivial|exact rfl|refine And.intro ?_ ?_|refine ⟨_,rfl,?_⟩|decide)⟩
   ·exact ⟨a+1,b+1,e.setIfInBounds a e[k+b]!,by omega,by omega,by rw [h1.1];simp [List.map_set],by omega,by omega,by omega,by simp [he],
     by rw [zuO (by omega),ha,← Nat.add_assoc,zxR (by rw [← e1,← e2,h1.1,h2.1];assumption),e1],
     fun j h0 h1=>by rw [zwc (by omega)];exact hj j (by omega) h1⟩
   ·((simp only [vM] at *;omega))
  ·have h1:=zat ‹e.toList[k+((b:Nat):Int).toNat]? = some _›
   have h2:=zat (zb0 (i:=((k+b - 1:Nat):Int)) (k+b - 1) (by rw [← ‹e.toList[k+(((b:Nat):Int) - 1).toNat]? = some _›];congr 1;omega) rfl)
   simp only [Int.toNat_natCast] at h1
   have e1:=hj (k+b) (by omega) (by omega)
   have e2:=hj (k+b - 1) (by omega) (by omega)
   refine ⟨(_,_,_),[(0,0)],[],?_,?_,by (refine ⟨rfl,rfl,rfl,?_,?_⟩;repeat' first|exact trivial|exact rfl|refine And.intro ?_ ?_|refine ⟨_,rfl,?_⟩|decide)⟩
   ·exact ⟨a,b+1,e,rfl,by omega,rfl,by omega,by omega,by omega,he,
     by rw [ha,← Nat.add_assoc,zvR (by omega) (by rw [← e1,← e2,h1.1,h2.1];assumption)],
     fun j h0 h1=>hj j (by omega) h1⟩
   ·((simp only [vM] at *;omega))
  ·have hE:=zvQ (enc:=D.u64) (e:=e) (z:=D.u64 0) (a:=a) (n:=(e.toList.map D.u64).length - a) (by omega)
   rw [ha,show k+b=d.size by omega,hR] at hE
   subst hE
   refine zkz.mk (by simp only [List.length_append,List.length_take,List.length_replicate,List.length_drop,List.length_map,hle];omega) ?_
   (repeat' ((conv=>whnf);refine vT ?_));all_goals try conv=>whnf
   refine ⟨trivial,_,[(1,1)],[],rfl,.inl (by (repeat' exact rfl)),⟨by rfl,by rfl,by rfl,trivial,by (repeat' first|exact trivial|exact rfl|refine And.intro ?_ ?_|refine ⟨_,rfl,?_⟩|exact of_decide_eq_true rfl)⟩,by (repeat' first|exact trivial|refine And.intro ?_ ?_)⟩
 ·refine ⟨_,[(0,0)],[],?_,?_,by (refine ⟨rfl,rfl,rfl,?_,?_⟩;repeat' first|exact trivial|exact rfl|refine And.intro ?_ ?_|refine ⟨_,rfl,?_⟩|decide)⟩
  ·exact ⟨k+1,by omega,by omega,by omega,fun j h0 h1=>by
    by_cases hjk:j=k
    ·subst hjk
     have g1:=zat (zb0 j ‹d.toList[(j:Int).toNat]? = some _› rfl)
     have g2:=zat (zb0 (j - 1) ‹d.toList[((j:Int) - 1).toNat]? = some _› (by omega))
     rw [g1.1,g2.1];assumption
    ·exact hk j h0 (by omega)⟩
  ·(omega)
 ·exact absurd (fun j h0 h1=>hk j h0 (by omega)) hd
end Go.Ab
namespace Go.Ab
open Go Go.Proofs
set_option maxRecDepth 10000
set_option maxHeartbeats 4000000
variable {T:Nat→Obj→Prop}
def zfK (zs:List (BitVec 64)):List (BitVec 64):=ddA (Sort.sort ltU zs.toArray) (Sort.sort ltU zs.toArray).size
def uAt (r:List (BitVec 64)) (w:Nat):BitVec 64:=r.getD w 0
def zjj (n:Int) (r:List (BitVec 64)):Int:=if n < 0∨64 < n then 2 else if (r.length:Int)≠n then 3 else if r.any (bad n) then 1 else 0
def zcX (r:List (BitVec 64)):List Int:=(List.range r.length).map fun w=>(Lib.ctz 64 (uAt r w|||uAt (zbz r) w).toNat:Int)
def zU (r:List (BitVec 64)) (w n:Nat):List (BitVec 64):=((List.range n).filter fun v=>rb r w v && !rb r v w).map (uAt r)
def zdn (r:List (BitVec 64)):List Int:=(List.range r.length).map fun w=>((zfK (zU r w r.length)).length:Int)
noncomputable def zgA (W:Int) (val:List (BitVec 64)) (acc:List (List (BitVec 64))):PM×Int :=
 if z6 W acc.length val≠0 then (⟨0,[],[],[]⟩,z6 W acc.length val) else if acc.any (fun r=>decide (zjj W r≠0)) then (⟨0,[],[],[]⟩,3) else
  if acc.any (fun r => !zft r (zbz r)) then (⟨0,[],[],[]⟩,12) else (⟨W,val,acc.map zcX,acc.map zdn⟩,0)
abbrev dPI (x:PM×Int):D := .tup [dPM x.1,.int .i64 x.2]
theorem zry {n:Int} {r:List (BitVec 64)} (h:zjj n r=0):(r.length:Int)=n∧zaz r=0:=by
 unfold zjj at h
 split at h
 ·cases h
 ·split at h
  ·cases h
  ·rename_i h1 h2
   have e:(r.length:Int)=n:=by omega
   subst e
   refine ⟨rfl,?_⟩
   unfold zaz
   split at h
   ·cases h
   ·rename_i h3
    rw [if_neg (by omega),if_neg (by simpa using h3)]
theorem zBo (hT:zeO T) {r:List (BitVec 64)} (h:zaz r=0):Fn Tryz.prog T zdB [.d (dU r)] [] (.d (dUI (zbz r,0))) []:=by
 have:=zvg hT r
 rwa [if_neg (not_not_intro h)] at this
theorem zfh {α:Type} {l:List α} {k:Nat} {x:α} (h:l[k]? = some x):l.take (k+1)=l.take k++[x]:=by rw [List.take_add_one,h];rfl
abbrev cD (r:List (BitVec 64)):D:=dI (zcX r)
abbrev rD (r:List (BitVec 64)):D:=dI (zdn r)
abbrev zpn:Ob := .box [.d (.int .i64 0),.nils 1,.nils 1,.nils 1]
theorem zi6 {r:List (BitVec 64)} {w n:Nat} : zU r w (n+1)=zU r w n++(if (rb r w n && !rb r n w)=true then [uAt r n] else []):=by
 unfold zU
 rw [List.range_succ,List.filter_append,List.map_append]
 congr 1
 by_cases h:(rb r w n && !rb r n w)=true
 ·rw [if_pos h,List.filter_cons,if_pos h];rfl
 ·rw [if_neg h,List.filter_cons,if_neg h];rfl
theorem zqa {r:List (BitVec 64)} {w n:Nat} : (zU r w n).length≤n:=by
 unfold zU
 rw [List.length_map]
 have:=List.length_filter_le (fun v=>rb r w v && !rb r v w) (List.range n)
 rwa [List.length_range] at this
theorem zn4 {r:List (BitVec 64)} {w:Nat} {x:BitVec 64} (h:r[w]? = some x):uAt r w=x:=by simp [uAt,List.getD,h]
theorem zxW {zs:List (BitVec 64)} (h:Steps (Sort.sort ltU zs.toArray)):zfK zs=(Sort.sort ltU zs.toArray).toList:=by
 rw [zfK,zof (Nat.le_refl _) (fun j h1 h2=>h j h1 h2),List.take_of_length_le (by simp)]
theorem zxr {d:Array (BitVec 64)} (h:d.size≤12):(Sort.sort ltU d).size=d.size:=by rw [Sort.sort,Sort.pdq,if_pos (by omega)];exact znm _ _ _ (Nat.le_refl _)
theorem zCf (hT:zeO T) (W:Int) (hW:W≤12) (val:List (BitVec 64)) (acc:List (List (BitVec 64))):Fn Tryz.prog T zoN [.d (.int .i64 W),.d (dU val),.d (dUU acc)] [] (.d (dPI (zgA W val acc))) []:=by
 refine zh zw zvp (by show 3≤136;decide) ?_
 (repeat' ((conv=>whnf);first|refine vA ?_|(refine vD ?_ ?_<;>intro hc<;>try simp only [vL] at hc)|refine vJ fun hg=>?_|refine vT ?_|refine yD (zjS _ _ _) ⟨⟨rfl,rfl⟩,⟨rfl,rfl⟩,⟨rfl,rfl⟩,rfl⟩ rfl ?_));all_goals try conv=>whnf
 ·rw [zgA,if_pos hc,show (acc.length:Int)=((acc.map dU).length:Int) by simp];rfl
 have hs0:=‹z6 W acc.length val=0›
 obtain ⟨hw1,hw2,hv8,hn4,-⟩:=zi3 hs0
 refine zn (fun (k:Nat)=>[(0,.d (.int .i64 (W))),(1,.d (dU val)),(2,.d (dUU acc)),(6,.ptr 0 0),(30,.d (dUU acc)),(31,.d (.int .i64 ((acc.map dU).length:Int))),(32,.d (.int .i64 ((k:Int))))]) (fun (k:Nat)=>[(0,some (.box [.d (.int .i64 0),.nils 1,.nils 1,.nils 1]))]) 1 (fun (k:Nat)=>k≤acc.length ∧ ∀ r,r∈acc.take k→zjj W r=0) (fun (k:Nat)=>acc.length - k) (0) [(0,0)] [] (⟨by simp,by simp⟩) (by (refine ⟨rfl,rfl,rfl,?_,?_⟩;repeat' first|exact trivial|exact rfl|refine And.intro ?_ ?_|refine ⟨_,rfl,?_⟩|decide)) ?_
 rintro k ⟨hk,hI⟩
 (repeat' ((conv=>whnf);first|refine vA ?_|((first|refine vD ?_ ?_|refine vF ?_ ?_)<;>intro hc<;>try simp only [vL] at hc)|refine vJ fun hg=>?_|refine vT ?_|(refine vQ ?_ fun x hx=>?_;·omega)|(refine vO ?_ ?_;·omega)|refine yD (zhH _ _) ⟨⟨rfl,rfl⟩,⟨rfl,rfl⟩,rfl⟩ rfl ?_|(refine yN (ztS _ ?_) ⟨⟨rfl,rfl⟩,rfl⟩ ?_;(·omega))|fail));all_goals try conv=>whnf
 ·rw [zgA,if_neg (not_not_intro hs0),if_pos (List.any_eq_true.2 ⟨_,List.mem_of_getElem? hx,decide_eq_true ‹_≠(0:Int)›⟩)];rfl
 ·exact ⟨k+1,[(0,0)],[],⟨by (omega),fun r hr=>by
   rw [zfh hx] at hr
   rcases List.mem_append.1 hr with h|h
   ·exact hI r h
   ·simp at h;subst h;assumption⟩,by (omega),by (refine ⟨rfl,rfl,rfl,?_,?_⟩;repeat' first|exact trivial|exact rfl|refine And.intro ?_ ?_|refine ⟨_,rfl,?_⟩|decide)⟩
 have hr0 : ∀ r∈acc,zjj W r=0:=fun r hr=>hI r (by rw [List.take_of_length_le (by omega)];exact hr)
 have hacc : ¬(acc.any fun r=>decide (zjj W r≠0))=true:=fun h=>by
  obtain ⟨r,h1,h2⟩:=List.any_eq_true.1 h
  exact of_decide_eq_true h2 (hr0 r h1)
 refine zn (fun ((k,xs,ys):Nat×List D×List D)=>[(0,.d (.int .i64 (W))),(6,.ptr 0 0),(11,.ptr 1 0),(46,.d (dUU acc)),(47,.d (.int .i64 ((acc.map dU).length:Int))),(48,.d (.int .i64 ((k:Int))))]) (fun ((k,xs,ys):Nat×List D×List D)=>[(0,some zpn),(1,some (.box [.d (.int .i64 W),.d (dU val),.own 2,.own 3])),(2,some (.row 1 xs)),(3,some (.row 1 ys))]) 4 (fun ((k,xs,ys):Nat×List D×List D)=>k≤acc.length∧xs=(acc.take k).map cD∧ys=(acc.take k).map rD ∧ ∀ r,r∈acc.take k→zft r (zbz r)=true) (fun ((k,xs,ys):Nat×List D×List D)=>acc.length - k) ((0,[],[])) [(0,0),(1,1)]   [2,3] (⟨by simp,rfl,rfl,by simp⟩) (by (refine ⟨rfl,rfl,rfl,?_,?_⟩;repeat' first|exact trivial|exact rfl|exact ⟨_,rfl⟩|refine And.intro ?_ ?_|refine ⟨_,rfl,?_⟩|decide)) ?_
 rintro ⟨k,_,_⟩ ⟨hk,rfl,rfl,hI⟩
 (repeat' ((conv=>whnf);first|refine vA ?_|(refine vF ?_ ?_<;>intro hc<;>try simp only [vL] at hc)|refine vT ?_|(refine vQ ?_ fun x hx=>?_;·omega)|fail));all_goals try conv=>whnf
 ·obtain ⟨y,hy⟩ : ∃ y,y=x:=⟨_,rfl⟩
  subst hy
  have hrm:=List.mem_of_getElem? hx
  obtain ⟨hrl,hrc⟩:=zry (hr0 y hrm)
  have hrv:(zbz y).length=y.length:=by simp [zbz]
  refine zN.dataN (zBo hT hrc) (by (repeat refine ⟨⟨rfl,rfl⟩,?_⟩);rfl) ?_
  (repeat' ((conv=>whnf);first|refine vA ?_|refine vE ?_|(refine vI ?_ ?_<;>intro hc)|refine vT ?_|(refine vP ?_ ?_;·omega)|(refine vU ?_ ?_;·kernel_rfl)|refine yD (ztY hT _ _ hrv) ⟨⟨rfl,rfl⟩,⟨rfl,rfl⟩,rfl⟩ rfl ?_));all_goals try conv=>whnf
  ·have hcn:=‹zft y (zbz y)=true›
   refine zn (fun ((j,us,vs):Nat×List D×List D)=>[(0,.d (.int .i64 (W))),(6,.ptr 0 0),(11,.ptr 1 0),(13,.d (dU y)),(14,.d (dU (zbz y))),(16,.own 4),(17,.own 5),(46,.d (dUU acc)),(47,.d (.int .i64 ((acc.map dU).length:Int))),(48,.d (.int .i64 ((k:Int)))),(66,.d (.int .i64 (W))),(67,.d (.int .i64 ((j:Int))))]) (fun ((j,us,vs):Nat×List D×List D)=>[(0,some zpn),(1,some (.box [.d (.int .i64 W),.d (dU val),.own 2,.own 3])),(2,some (.row 1 ((acc.take k).map cD))),(3,some (.row 1 ((acc.take k).map rD))),(4,some (.row 1 us)),(5,some (.row 1 vs))]) 6 (fun ((j,us,vs):Nat×List D×List D)=>j≤y.length∧us=(List.range y.length).map (fun u=>D.int .i64 (if u < j then (Lib.ctz 64 (uAt y u|||uAt (zbz y) u).toNat:Int) else 0))∧vs=(List.range y.length).map (fun u=>D.int .i64 (if u < j then ((zfK (zU y u y.length)).length:Int) else 0))) (fun ((j,us,vs):Nat×List D×List D)=>y.length - j) ((0,List.replicate W.toNat (D.int .i64 0),List.replicate W.toNat (D.int .i64 0))) [(0,0),(1,1),(2,2),(3,3),(4,4),(5,5)] [] (⟨by simp,by simp [← hrl,List.map_const'],by simp [← hrl,List.map_const']⟩) (by (refine ⟨rfl,rfl,rfl,?_,?_⟩;repeat' first|exact trivial|exact rfl|refine And.intro ?_ ?_|refine ⟨_,rfl,?_⟩|decide)) ?_
   rintro ⟨j,_,_⟩ ⟨hj,rfl,rfl⟩
   (repeat' ((conv=>whnf);first|refine vA ?_|(refine vF ?_ ?_<;>intro hc<;>try simp only [vL] at hc)|refine vT ?_|(refine vQ ?_ fun x hx=>?_;·omega)|(refine vP ?_ ?_;·(simp only [vM] at *;omega))|(refine vU ?_ ?_;·kernel_rfl)|refine yD (hT _) (by (repeat refine ⟨⟨rfl,rfl⟩,?_⟩);rfl) rfl ?_));all_goals try conv=>whnf
   ·rename_i b hb
    refine zn (fun ((i,zs):Nat×List D)=>[(0,.d (.int .i64 (W))),(6,.ptr 0 0),(11,.ptr 1 0),(13,.d (dU y)),(14,.d (dU (zbz y))),(16,.own 4),(17,.own 5),(18,.d (.int .i64 ((j:Int)))),(19,.own 6),(46,.d (dUU acc)),(47,.d (.int .i64 ((acc.map dU).length:Int))),(48,.d (.int .i64 ((k:Int)))),(66,.d (.int .i64 (W))),(67,.d (.int .i64 ((j:Int)))),(83,.d (.int .i64 (W))),(84,.d (.int .i64 ((i:Int))))]) (fun ((i,zs):Nat×List D)=>[(0,some zpn),(1,some (.box [.d (.int .i64 W),.d (dU val),.own 2,.own 3])),(2,some (.row 1 ((acc.take k).map cD))),(3,some (.row 1 ((acc.take k).map rD))),(4,some (.row 1 (((List.range y.length).map (fun u=>D.int .i64 (if u < j then (Lib.ctz 64 (uAt y u|||uAt (zbz y) u).toNat:Int) else 0))).set j (D.int .i64 (Lib.ctz 64 (b|||x).toNat:Int))))),(5,some (.row 1 ((List.range y.length).map (fun u=>D.int .i64 (if u < j then ((zfK (zU y u y.length)).length:Int) else 0))))),(6,some (.row 1 zs))]) 7 (fun ((i,zs):Nat×List D)=>i≤y.length∧zs=(zU y j i).map D.u64) (fun ((i,zs):Nat×List D)=>y.length - i) ((0,[])) [(0,0),(1,1),(2,2),(3,3),(4,4),(5,5)]   [6] (⟨by simp,rfl⟩) (by (refine ⟨rfl,rfl,rfl,?_,?_⟩;repeat' first|exact trivial|exact rfl|exact ⟨_,rfl⟩|refine And.intro ?_ ?_|refine ⟨_,rfl,?_⟩|decide)) ?_
    rintro ⟨i,_⟩ ⟨hi,rfl⟩
    (repeat' ((conv=>whnf);first|refine vA ?_|(refine vF ?_ ?_<;>intro hc<;>try simp only [vL] at hc)|refine vT ?_|refine vN ‹_› ?_|(refine vQ ?_ fun x hx=>?_;·omega)|((first|refine vO ?_ ?_|refine vP ?_ ?_);·omega)|fail));all_goals try conv=>whnf
    ·have hbl:=zqa (r:=y) (w:=j) (n:=i)
     refine zkz.mk (by simp only [List.length_map,zgz,List.length_set,List.length_replicate];omega) ?_
     (repeat' ((conv=>whnf);first|refine vT ?_|(refine vO ?_ ?_;·omega)|fail));all_goals try conv=>whnf
     refine ⟨(i+1,_),[(0,0),(1,1),(2,2),(3,3),(4,4),(5,5),(6,8)],[],?_,?_,by (refine ⟨rfl,rfl,rfl,?_,?_⟩;repeat' first|exact trivial|exact rfl|refine And.intro ?_ ?_|refine ⟨_,rfl,?_⟩|decide)⟩
     ·have hyi:=zn4 hx
      have c1:rb y j i=true:=by rw [zaO hb];exact (zee b i).1 ‹b >>> ((i:Nat):Int).toNat&&&1#64=1#64›
      have c2:rb y i j=false:=by rw [zaO hx];exact zvL.1 ‹x >>> ((j:Nat):Int).toNat&&&1#64=0#64›
      refine ⟨by (omega),?_⟩
      rw [zi6,c1,c2,List.map_append,hyi];rfl
     ·((simp only [vM] at *;omega))
    ·have c2:rb y i j=true:=by rw [zaO hx];exact ztn ‹¬x >>> ((j:Nat):Int).toNat&&&1#64=0#64›
     refine ⟨(i+1,_),[(0,0),(1,1),(2,2),(3,3),(4,4),(5,5),(6,6)],[],?_,?_,by (refine ⟨rfl,rfl,rfl,?_,?_⟩;repeat' first|exact trivial|exact rfl|refine And.intro ?_ ?_|refine ⟨_,rfl,?_⟩|decide)⟩
     ·refine ⟨by (omega),?_⟩
      rw [zi6,c2];simp
     ·((simp only [vM] at *;omega))
    ·have c1:rb y j i=false:=by
      rw [zaO hb]
      have:=mt (zee b i).2 ‹¬b >>> ((i:Nat):Int).toNat&&&1#64=1#64›
      simpa using this
     refine ⟨(i+1,_),[(0,0),(1,1),(2,2),(3,3),(4,4),(5,5),(6,6)],[],?_,?_,by (refine ⟨rfl,rfl,rfl,?_,?_⟩;repeat' first|exact trivial|exact rfl|refine And.intro ?_ ?_|refine ⟨_,rfl,?_⟩|decide)⟩
     ·refine ⟨by (omega),?_⟩
      rw [zi6,c1];simp
     ·((simp only [vM] at *;omega))
    obtain rfl:i=y.length:=by omega
    have hbl:=zqa (r:=y) (w:=j) (n:=y.length)
    have h12:(zU y j y.length).toArray.size≤12:=by simp;omega
    have hsz:=zxr h12
    have hsz2:(Sort.sort ltU (zU y j y.length).toArray).size=(zU y j y.length).length:=hsz
    refine zN.objs [6] (zvj (zU y j y.length).toArray h12) (by (repeat' first|exact rfl|refine And.intro ?_ ?_|refine ⟨_,rfl,?_⟩)) (by (repeat' first|exact rfl|refine And.intro ?_ ?_)) (by rfl) (by rfl) (by simp) ?_
    (repeat' ((conv=>whnf);refine vT ?_));all_goals try conv=>whnf
    by_cases hst:Steps (Sort.sort ltU (zU y j y.length).toArray)
    ·have hfs:=zxW hst
     refine zN.objs [6] (zoA (Sort.sort ltU (zU y j y.length).toArray) (by omega) hst) (by (repeat' first|exact rfl|refine And.intro ?_ ?_|refine ⟨_,rfl,?_⟩)) (by (repeat' first|exact rfl|refine And.intro ?_ ?_)) (by rfl) (by rfl) (by simp) ?_
     (repeat' ((conv=>whnf);first|refine vJ fun hg=>?_|refine vT ?_|((first|refine vO ?_ ?_|refine vP ?_ ?_);·first|omega|(simp only [vM] at *;omega))|fail));all_goals try conv=>whnf
     refine ⟨(j+1,_,_),[(0,0),(1,1),(2,2),(3,3),(4,4),(5,5)],[],?_,?_,by (refine ⟨rfl,rfl,rfl,?_,?_⟩;repeat' first|exact trivial|exact rfl|refine And.intro ?_ ?_|refine ⟨_,rfl,?_⟩|decide)⟩
     ·refine ⟨by (omega),(zbs _).trans (zt fun u hu=>?_),(zbs _).trans (zt fun u hu=>?_)⟩
      ·show (if u=j then _ else _)=_
       by_cases e:u=j
       ·subst e;rw [if_pos rfl,if_pos (Nat.lt_succ_self _),zn4 hb,zn4 hx]
       ·by_cases e1:u < j
        ·simp [e1,e,show u < j+1 by omega]
        ·simp [e1,e,show ¬ u < j+1 by omega]
      ·show (if u=j then _ else _)=_
       by_cases e:u=j
       ·subst e;rw [if_pos rfl,if_pos (Nat.lt_succ_self _)];exact congrArg (fun z:Nat=>D.int .i64 (z:Int)) (by rw [hfs,List.length_map])
       ·by_cases e1:u < j
        ·simp [e1,e,show u < j+1 by omega]
        ·simp [e1,e,show ¬ u < j+1 by omega]
     ·((simp only [vM] at *;omega))
    ·refine zN.objs [6] (znc (Sort.sort ltU (zU y j y.length).toArray) (by omega) hst) (by (repeat' first|exact rfl|refine And.intro ?_ ?_|refine ⟨_,rfl,?_⟩)) (by (repeat' first|exact rfl|refine And.intro ?_ ?_)) (by rfl) (by rfl) (by simp) ?_
     (repeat' ((conv=>whnf);first|refine vJ fun hg=>?_|refine vT ?_|((first|refine vO ?_ ?_|refine vP ?_ ?_);·first|omega|(simp only [vM] at *;omega))|fail));all_goals try conv=>whnf
     refine ⟨(j+1,_,_),[(0,0),(1,1),(2,2),(3,3),(4,4),(5,5)],[],?_,?_,by (refine ⟨rfl,rfl,rfl,?_,?_⟩;repeat' first|exact trivial|exact rfl|refine And.intro ?_ ?_|refine ⟨_,rfl,?_⟩|decide)⟩
     ·refine ⟨by (omega),(zbs _).trans (zt fun u hu=>?_),(zbs _).trans (zt fun u hu=>?_)⟩
      ·show (if u=j then _ else _)=_
       by_cases e:u=j
       ·subst e;rw [if_pos rfl,if_pos (Nat.lt_succ_self _),zn4 hb,zn4 hx]
       ·by_cases e1:u < j
        ·simp [e1,e,show u < j+1 by omega]
        ·simp [e1,e,show ¬ u < j+1 by omega]
      ·show (if u=j then _ else _)=_
       by_cases e:u=j
       ·subst e;rw [if_pos rfl,if_pos (Nat.lt_succ_self _)];exact congrArg (fun z:Nat=>D.int .i64 (z:Int)) (by rw [List.length_map];rfl)
       ·by_cases e1:u < j
        ·simp [e1,e,show u < j+1 by omega]
        ·simp [e1,e,show ¬ u < j+1 by omega]
     ·((simp only [vM] at *;omega))
   ·have hkt:(acc.take k).length=k:=List.length_take_of_le hk
    refine zkz.mk (by simp only [List.length_append,List.length_map,hkt,zgz,List.length_set,List.length_replicate,List.length_cons,List.length_nil];omega) ?_
    (repeat' ((conv=>whnf);first|refine vT ?_|((first|refine vO ?_ ?_|refine vP ?_ ?_);·first|omega|(simp only [vM] at *;omega))|(refine vU ?_ ?_;·kernel_rfl)|fail));all_goals try conv=>whnf
    obtain rfl:j=y.length:=by omega
    refine ⟨(k+1,_,_),[(0,0),(1,1),(2,7),(3,9)],[],?_,?_,by (refine ⟨rfl,rfl,rfl,?_,?_⟩;repeat' first|exact trivial|exact rfl|refine And.intro ?_ ?_|refine ⟨_,rfl,?_⟩|decide)⟩
    ·refine ⟨by (omega),?_,?_,fun r hr=>?_⟩
     ·rw [zfh hx,List.map_append]
      refine congrArg (_++[D.arr 1 ·]) ?_
      rw [zcX,List.map_map]
      exact zt fun u hu=>by rw [if_pos hu];rfl
     ·rw [zfh hx,List.map_append]
      refine congrArg (_++[D.arr 1 ·]) ?_
      rw [zdn,List.map_map]
      exact zt fun u hu=>by rw [if_pos hu];rfl
     ·rw [zfh hx] at hr
      rcases List.mem_append.1 hr with h|h
      ·exact hI r h
      ·simp at h;subst h;exact hcn
    ·((simp only [vM] at *;omega))
  ·rw [zgA,if_neg (not_not_intro hs0),if_neg hacc,if_pos (List.any_eq_true.2 ⟨y,hrm,by simpa using ‹zft y (zbz y)=false›⟩)];rfl
 ·have hke:acc.take k=acc:=List.take_of_length_le (by omega)
  rw [zgA,if_neg (not_not_intro hs0),if_neg hacc,if_neg (fun h=>by
   obtain ⟨r,h1,h2⟩:=List.any_eq_true.1 h
   rw [hI r (by rw [hke];exact h1)] at h2;cases h2)]
  rw [hke]
  show some (D.tup [D.agg [.int .i64 W,dU val,.arr 1 (acc.map cD),.arr 1 (acc.map rD)],.int .i64 0])=some (D.tup [D.agg [.int .i64 W,dU val,.arr 1 ((acc.map zcX).map dI),.arr 1 ((acc.map zdn).map dI)],.int .i64 0])
  rw [List.map_map,List.map_map];rfl
end Go.Ab
namespace Go.Ab
open Go Go.Proofs Go.MapKept
abbrev GI := List (Int × List Int)
theorem ztM : ∀ (l : List MapEntry) (ks : List Int) (i : Nat) (c : Int), ks.length = l.length → (∀ j, j < ks.length → (l.getD j default).key = .int .i64 (ks.getD j 0)) →
    (c ∉ ks ∧ Instr.findNow (.int .i64) (.int .i64 c) l i = some none) ∨ ∃ j, j < ks.length ∧ ks.getD j 0 = c ∧ Instr.findNow (.int .i64) (.int .i64 c) l i = some (some (i + j, (l.getD j default).val))
  | [], [], i, c, _, _ => .inl ⟨by simp, rfl⟩
  | [], _ :: _, _, _, h, _ => by simp at h
  | _ :: _, [], _, _, h, _ => by simp at h
  | e :: l, k :: ks, i, c, h, hk => by
    have h0 : e.key = .int .i64 k := by simpa using hk 0 (by simp)
    have hs : Instr.sameNow (.int .i64) (.int .i64 c) e.key = some (decide (c = k)) := by rw [h0]; simp [Instr.sameNow, zh2]
    by_cases hc : c = k
    · refine .inr ⟨0, by simp, by simp [hc], ?_⟩
      subst hc
      simp [Instr.findNow, hs]
    · rcases ztM l ks (i + 1) c (by simpa using h) (fun j hj => by simpa using hk (j + 1) (by simpa using hj)) with ⟨h1, h2⟩ | ⟨j, h1, h2, h3⟩
      · exact .inl ⟨by simp [hc, h1], by simp [Instr.findNow, hs, hc, h2]⟩
      · exact .inr ⟨j + 1, by simpa using h1, by simpa using h2, by simp [Instr.findNow, hs, hc, h3]; omega⟩
theorem zso {w : World} {m : Nat} {es : Array MapEntry} {clock : Nat} (hm : w.heap[m]? = some (.map es clock)) {c : Int} {v : Value} {r : Option (Nat × Value)} (hf : Instr.findNow (.int .i64) (.int .i64 c) es.toList 0 = some r)
    (hr : ∀ j u, r = some (j, u) → j < es.size ∧ (es.getD j default).key = .int .i64 c) :
    (Instr.mapUpdate 90 (.map (some m)) (.int .i64 c) v).run Tryz.prog w = .ok () { w with heap := w.heap.setIfInBounds m (match r with
      | none => .map (es.push { key := .int .i64 c, val := v, born := clock }) (clock + 1)
      | some p => .map (es.modify p.1 fun e => { e with key := .int .i64 c, val := v }) clock) } := by
  have hik : IsKey (.int .i64) (.int .i64 c) := rfl
  have hck := fun b => run_checkKey (w := w) Tryz.underlying3 hik b 9999
  have hfk := run_findKey (w := w) Tryz.underlying3 hf
  cases r with
  | none =>
    have hset := run_setObj_map (P := Tryz.prog) (.map (es.push { key := .int .i64 c, val := v, born := clock }) (clock + 1)) hm
    simp [Instr.mapUpdate, run_underlying Tryz.underlying90, zbm hm, hck, hfk, hset]
  | some p =>
    obtain ⟨j, u⟩ := p
    obtain ⟨hj, hkj⟩ := hr j u rfl
    have hold : ((es[j]?).map (·.key)).getD (.int .i64 c) = .int .i64 c := by
      rw [← hkj]; simp [Array.getD_eq_getD_getElem?, hj]
    have hset := run_setObj_map (P := Tryz.prog) (.map (es.modify j fun e => { e with key := .int .i64 c, val := v }) clock) hm
    simp [Instr.mapUpdate, run_underlying Tryz.underlying90, zbm hm, hck, hfk, hold, Instr.keyThatStays, znY hik, hset]
structure Grp (O : World → Value → Nat → List Int → Prop) (w : World) (m : Nat) (gs : GI) (es : Array MapEntry) (clock : Nat) (blk : Nat → Nat) : Prop where
  heap : w.heap[m]? = some (.map es clock)
  st : zez es clock
  size : es.size = gs.length
  key : ∀ i, i < gs.length → (es.getD i default).key = .int .i64 (gs.getD i default).1
  val : ∀ i, i < gs.length → O w (es.getD i default).val (blk i) (gs.getD i default).2
  apart : ∀ i j, i < gs.length → j < gs.length → blk i = blk j → i = j
section
variable {O : World → Value → Nat → List Int → Prop} {w : World} {m : Nat} {gs : GI} {es : Array MapEntry} {clock : Nat} {blk : Nat → Nat}
theorem Grp.find (h : Grp O w m gs es clock blk) (c : Int) : (c ∉ gs.map Prod.fst ∧ Instr.findNow (.int .i64) (.int .i64 c) es.toList 0 = some none) ∨
    ∃ j, j < gs.length ∧ (gs.getD j default).1 = c ∧ Instr.findNow (.int .i64) (.int .i64 c) es.toList 0 = some (some (j, (es.getD j default).val)) := by
  have hg : ∀ j, j < gs.length → (gs.map Prod.fst).getD j 0 = (gs.getD j default).1 := fun j hj => by simp [List.getD, hj]
  rcases ztM es.toList (gs.map Prod.fst) 0 c (by simp [h.size]) (fun j hj => by
    rw [List.length_map] at hj
    rw [zbC, h.key j hj, hg j hj]) with h1 | ⟨j, h1, h2, h3⟩
  · exact .inl h1
  · rw [List.length_map] at h1
    rw [hg j h1] at h2
    refine .inr ⟨j, h1, h2, ?_⟩
    rw [h3, Nat.zero_add, zbC]
theorem zko {P : Program} {w : World} {t kt e : TypeId} {d : TypeDesc} {kv : Value} (ht : P.underlying t = some (.map kt e)) (hkd : P.underlying kt = some d) (hik : IsKey d kv) {zv : Value} (hz : ∀ w, (zeroValue e).run P w = .ok zv w)
    {ok : Bool} {m : Nat} {ents : Array MapEntry} {clock : Nat} (hm : w.heap[m]? = some (.map ents clock)) {r : Option (Nat × Value)} (hf : Instr.findNow d kv ents.toList 0 = some r) :
    (Instr.lookup t (.map (some m)) kv ok).run P w = .ok (if ok then .tuple #[zdq r zv, .bool r.isSome] else zdq r zv) w := by
  have hfk := run_findKey (w := w) hkd hf
  have hck : ∀ b, (Instr.checkKey b 10000 kt kv).run P w = .ok () w := fun b => run_checkKey hkd hik b 9999
  cases r with
  | none => simp [Instr.lookup, run_underlying ht, zbm hm, hck, hfk, hz, zdq]
  | some p => obtain ⟨i, v⟩ := p; simp [Instr.lookup, run_underlying ht, zbm hm, hck, hfk, zdq]
theorem zw5 {w : World} {m : Nat} {es : Array MapEntry} {clock : Nat} (h : w.heap[m]? = some (.map es clock)) {c : Int} (hf : Instr.findNow (.int .i64) (.int .i64 c) es.toList 0 = some none) : (Instr.lookup 90 (.map (some m)) (.int .i64 c) false).run Tryz.prog w = .ok (.slice none 0 0) w := by
  have hz : ∀ w, (zeroValue 28).run Tryz.prog w = .ok (.slice none 0 0) w := fun w => by kernel_rfl
  simpa [zdq] using zko (ok := false) Tryz.underlying90 Tryz.underlying3 (show IsKey (.int .i64) (.int .i64 c) from rfl) hz h hf
theorem zw6 {w : World} {m : Nat} {es : Array MapEntry} {clock : Nat} (h : w.heap[m]? = some (.map es clock)) {c : Int} {j : Nat} {v : Value} (hf : Instr.findNow (.int .i64) (.int .i64 c) es.toList 0 = some (some (j, v))) : (Instr.lookup 90 (.map (some m)) (.int .i64 c) false).run Tryz.prog w = .ok v w := by
  have hz : ∀ w, (zeroValue 28).run Tryz.prog w = .ok (.slice none 0 0) w := fun w => by kernel_rfl
  simpa [zdq] using zko (ok := false) Tryz.underlying90 Tryz.underlying3 (show IsKey (.int .i64) (.int .i64 c) from rfl) hz h hf
theorem zt6 {i j : Nat} {x : Int × List Int} (hi : i < gs.length) : (gs.set i x).getD j default = if j = i then x else gs.getD j default := by
  by_cases h : j = i
  · subst h; simp [List.getD, hi]
  · rw [if_neg h]; simp [List.getD, Ne.symm h]
theorem zt5 {j : Nat} {x : Int × List Int} (hj : j < gs.length + 1) : (gs ++ [x]).getD j default = if j = gs.length then x else gs.getD j default := by
  by_cases h : j = gs.length
  · subst h; simp [List.getD]
  · rw [if_neg h]; simp [List.getD, List.getElem?_append_left (show j < gs.length by omega)]
theorem Grp.set {w1 : World} (h : Grp O w m gs es clock blk) {c : Int} {i : Nat} {u v : Value} {g : Nat} {zs : List Int} (hi : i < gs.length) (hc : (gs.getD i default).1 = c)
    (hf : Instr.findNow (.int .i64) (.int .i64 c) es.toList 0 = some (some (i, u))) (hm : w1.heap[m]? = some (.map es clock))
    (hv : ∀ o, O { w1 with heap := w1.heap.setIfInBounds m o } v g zs)
    (ho : ∀ o j, j < gs.length → j ≠ i → O { w1 with heap := w1.heap.setIfInBounds m o } (es.getD j default).val (blk j) (gs.getD j default).2) (hg : ∀ j, j < gs.length → j ≠ i → blk j ≠ g) :
    ∃ es', (Instr.mapUpdate 90 (.map (some m)) (.int .i64 c) v).run Tryz.prog w1 = .ok () { w1 with heap := w1.heap.setIfInBounds m (.map es' clock) } ∧
      Grp O { w1 with heap := w1.heap.setIfInBounds m (.map es' clock) } m (gs.set i (c, zs)) es' clock (fun j => if j = i then g else blk j) ∧ ∀ j, j < gs.length → (es'.getD j default).born = (es.getD j default).born := by
  have hj : i < es.size := by rw [h.size]; exact hi
  have hmod : ∀ j, (es.modify i fun e => { e with key := .int .i64 c, val := v }).getD j default = if j = i then { key := .int .i64 c, val := v, born := (es.getD i default).born } else es.getD j default := fun j => zo5 hj
  refine ⟨es.modify i fun e => { e with key := .int .i64 c, val := v }, zso hm hf (fun j u' e => ?_), ⟨?_, ?_, ?_, fun j hj' => ?_, fun j hj' => ?_, fun j k hj' hk' e => ?_⟩, fun j hj' => ?_⟩
  · cases e; exact ⟨hj, by rw [h.key i hi, hc]⟩
  · simp [zg hm]
  · refine ⟨fun p q hp hq he => ?_, fun p hp => ?_⟩
    · simp only [Array.size_modify] at hp hq
      rw [hmod, hmod] at he
      refine h.st.inj p q hp hq ?_
      split at he <;> split at he <;> simp_all
    · simp only [Array.size_modify] at hp
      rw [hmod p]
      by_cases e : p = i
      · rw [if_pos e]; exact h.st.lt i hj
      · rw [if_neg e]; exact h.st.lt p hp
  · simp [h.size]
  · rw [List.length_set] at hj'
    rw [hmod, zt6 hi]
    split
    · rfl
    · exact h.key j hj'
  · rw [List.length_set] at hj'
    rw [hmod, zt6 hi]
    split
    · exact hv _
    · exact ho _ j hj' ‹_›
  · rw [List.length_set] at hj' hk'
    by_cases e1 : j = i <;> by_cases e2 : k = i
    · omega
    · rw [if_pos e1, if_neg e2] at e; exact absurd e.symm (hg k hk' e2)
    · rw [if_neg e1, if_pos e2] at e; exact absurd e (hg j hj' e1)
    · rw [if_neg e1, if_neg e2] at e; exact h.apart j k hj' hk' e
  · rw [hmod j]
    by_cases e : j = i
    · rw [if_pos e, e]
    · rw [if_neg e]
theorem Grp.add {w1 : World} (h : Grp O w m gs es clock blk) {c : Int} {v : Value} {g : Nat} {zs : List Int}
    (hf : Instr.findNow (.int .i64) (.int .i64 c) es.toList 0 = some none) (hm : w1.heap[m]? = some (.map es clock))
    (hv : ∀ o, O { w1 with heap := w1.heap.setIfInBounds m o } v g zs)
    (ho : ∀ o j, j < gs.length → O { w1 with heap := w1.heap.setIfInBounds m o } (es.getD j default).val (blk j) (gs.getD j default).2) (hg : ∀ j, j < gs.length → blk j ≠ g) :
    ∃ es', (Instr.mapUpdate 90 (.map (some m)) (.int .i64 c) v).run Tryz.prog w1 = .ok () { w1 with heap := w1.heap.setIfInBounds m (.map es' (clock + 1)) } ∧
      Grp O { w1 with heap := w1.heap.setIfInBounds m (.map es' (clock + 1)) } m (gs ++ [(c, zs)]) es' (clock + 1) (fun j => if j = gs.length then g else blk j) := by
  have hget : ∀ j, (es.push { key := .int .i64 c, val := v, born := clock }).getD j default = if j = gs.length then { key := .int .i64 c, val := v, born := clock } else es.getD j default := by
    intro j
    rw [← h.size]
    simp only [Array.getD_eq_getD_getElem?, Array.getElem?_push]
    split <;> rfl
  refine ⟨es.push { key := .int .i64 c, val := v, born := clock }, zso hm hf (fun j u' e => by cases e), ⟨?_, zpb h.st _ _, ?_, fun j hj' => ?_, fun j hj' => ?_, fun j k hj' hk' e => ?_⟩⟩
  · simp [zg hm]
  · simp [h.size]
  · simp only [List.length_append, List.length_cons, List.length_nil] at hj'
    rw [hget, zt5 hj']
    split
    · rfl
    · exact h.key j (by omega)
  · simp only [List.length_append, List.length_cons, List.length_nil] at hj'
    rw [hget, zt5 hj']
    split
    · exact hv _
    · exact ho _ j (by omega)
  · simp only [List.length_append, List.length_cons, List.length_nil] at hj' hk'
    by_cases e1 : j = gs.length <;> by_cases e2 : k = gs.length
    · omega
    · rw [if_pos e1, if_neg e2] at e; exact absurd e.symm (hg k (by omega))
    · rw [if_neg e1, if_pos e2] at e; exact absurd e (hg j (by omega))
    · rw [if_neg e1, if_neg e2] at e; exact h.apart j k (by omega) (by omega) e
end
end Go.Ab
namespace Go.Ab
open Go Go.Proofs
set_option maxRecDepth 10000
set_option maxHeartbeats 4000000
variable {T:Nat→Obj→Prop}
abbrev znV (d:Array (Int)):Ob := .row 1 (d.toList.map (D.int .i64))
end Go.Ab
namespace Go.Ab
open Go Go.Proofs
set_option maxRecDepth 10000
set_option maxHeartbeats 4000000
variable {T:Nat→Obj→Prop}
set_option maxHeartbeats 1000000 in
theorem zoz (d:Array Int) (hs:d.size≤536870912) (hd:Steps d):Fn Tryz.prog T zbV [.own 0] [znV d] (.own 0) [some (znV d)]:=by
 have hln:d.toList.length=d.size:=Array.length_toList
 refine zag zw zdr (by show 1≤61;decide) _ (fun e env mem n h=>h) ?_
 (repeat' ((conv=>whnf);first|refine vA ?_|(refine vF ?_ ?_<;>intro hc<;>try simp only [vL] at hc)|refine vJ fun hg=>?_));all_goals try conv=>whnf
 ·refine ⟨trivial,_,[(0,0)],[],rfl,.inl (by (repeat' exact rfl)),⟨by rfl,by rfl,by rfl,trivial,by (repeat' first|exact trivial|exact rfl|refine And.intro ?_ ?_|refine ⟨_,rfl,?_⟩|exact of_decide_eq_true rfl)⟩,by (repeat' first|exact trivial|exact rfl|refine And.intro ?_ ?_)⟩
 refine zn (fun (i:Int)=>[(0,.own 0),(3,.d (.int .i64 (i))),(zc,.own 0)]) (fun (i:Int)=>[(0,some (znV d))]) 1 (fun (i:Int) => ∃ k:Nat,i=k∧0 < k∧k≤d.size) (fun (i:Int)=>(d.size - i).toNat) (1) [(0,0)] [] (⟨1,rfl,by omega,by omega⟩) (by (refine ⟨rfl,rfl,rfl,?_,?_⟩;repeat' first|exact trivial|exact rfl|refine And.intro ?_ ?_|refine ⟨_,rfl,?_⟩|decide)) ?_
 rintro _ ⟨k,rfl,hk0,hk1⟩
 (repeat' ((conv=>whnf);first|refine vA ?_|(refine vF ?_ ?_<;>intro hc<;>try simp only [vL] at hc)|refine vJ fun hg=>?_|(refine vQ ?_ fun x hx=>?_;·omega)|((first|refine vO ?_ ?_|refine vP ?_ ?_);·first|omega|(simp only [vM] at *;omega))|(refine vU ?_ ?_;·kernel_rfl)|fail));all_goals try conv=>whnf
 ·have g1:=zat (zb0 k ‹d.toList[(k:Int).toNat]? = some _› rfl)
  have g2:=zat (zb0 (k - 1) ‹d.toList[((k:Int) - 1).toNat]? = some _› (by omega))
  exact absurd (g1.1.trans (‹_=_›.trans g2.1.symm)) (hd k hk0 g1.2)
 ·refine ⟨_,[(0,0)],[],?_,?_,by (refine ⟨rfl,rfl,rfl,?_,?_⟩;repeat' first|exact trivial|exact rfl|refine And.intro ?_ ?_|refine ⟨_,rfl,?_⟩|decide)⟩
  ·exact ⟨k+1,by omega,by omega,by omega⟩
  ·(omega)
 ·refine ⟨trivial,_,[(0,0)],[],rfl,.inl (by (repeat' exact rfl)),⟨by rfl,by rfl,by rfl,trivial,by (repeat' first|exact trivial|exact rfl|refine And.intro ?_ ?_|refine ⟨_,rfl,?_⟩|exact of_decide_eq_true rfl)⟩,by (repeat' first|exact trivial|exact rfl|refine And.intro ?_ ?_)⟩
set_option maxHeartbeats 1000000 in
theorem znb (d:Array Int) (hs:d.size≤536870912) (hd : ¬Steps d):Fn Tryz.prog T zbV [.own 0] [znV d] (.own 1) [none,some (.row 1 ((ddA d d.size).map (D.int .i64)))]:=by
 generalize hR:(ddA d d.size).map (D.int .i64)=R
 have hln:d.toList.length=d.size:=Array.length_toList
 refine zag zw zdr (by show 1≤61;decide) _ (fun e env mem n h=>h) ?_
 (repeat' ((conv=>whnf);first|refine vA ?_|(refine vF ?_ ?_<;>intro hc<;>try simp only [vL] at hc)|refine vJ fun hg=>?_));all_goals try conv=>whnf
 ·exact absurd (fun j hj0 hj1=>by omega) hd
 refine zn (fun (i:Int)=>[(0,.own 0),(3,.d (.int .i64 (i))),(zc,.own 0)]) (fun (i:Int)=>[(0,some (znV d))]) 1 (fun (i:Int) => ∃ k:Nat,i=k∧0 < k∧k≤d.size ∧ ∀ j,0 < j→j < k→d[j]! ≠ d[j - 1]!) (fun (i:Int)=>(d.size - i).toNat) (1) [(0,0)] [] (⟨1,rfl,by omega,by omega,fun j _ _=>by omega⟩) (by (refine ⟨rfl,rfl,rfl,?_,?_⟩;repeat' first|exact trivial|exact rfl|refine And.intro ?_ ?_|refine ⟨_,rfl,?_⟩|decide)) ?_
 rintro _ ⟨k,rfl,hk0,hk1,hk⟩
 (repeat' ((conv=>whnf);first|refine vA ?_|(refine vF ?_ ?_<;>intro hc<;>try simp only [vL] at hc)|refine vJ fun hg=>?_|(refine vQ ?_ fun x hx=>?_;·omega)|((first|refine vO ?_ ?_|refine vP ?_ ?_);·first|omega|(simp only [vM] at *;omega))|(refine vU ?_ ?_;·kernel_rfl)|fail));all_goals try conv=>whnf
 ·have g1:=zat (zb0 k ‹d.toList[(k:Int).toNat]? = some _› rfl)
  have g2:=zat (zb0 (k - 1) ‹d.toList[((k:Int) - 1).toNat]? = some _› (by omega))
  have hkk:d[k]! = d[k - 1]! := g1.1.trans (‹_=_›.trans g2.1.symm)
  refine zn (fun ((w,q,xs):Int×Int×List D)=>[(0,.own 0),(3,.d (.int .i64 (w))),(4,.view 0 k ((d.toList.map (D.int .i64)).length - k)),(5,.d (.int .i64 (q))),(zc,.own 0)]) (fun ((w,q,xs):Int×Int×List D)=>[(0,some (.row 1 xs))]) 1 (fun ((w,q,xs):Int×Int×List D) => ∃ (a b:Nat) (e:Array Int),w=a∧q=b∧xs=e.toList.map (D.int .i64)∧0 < b∧k+b≤d.size∧a < k+b∧e.size=d.size∧e.toList.take a=ddA d (k+b) ∧ ∀ j,k+b - 1≤j→j < d.size→e[j]! = d[j]!) (fun ((w,q,xs):Int×Int×List D)=>(d.size - k - q).toNat) (((k:Int),(1:Int),d.toList.map (D.int .i64))) [(0,0)] [] (⟨k,1,d,rfl,rfl,rfl,by omega,by omega,by omega,rfl,ztA hk0 g1.2 hk hkk,fun _ _ _=>rfl⟩) (by (refine ⟨rfl,rfl,rfl,?_,?_⟩;repeat' first|exact trivial|exact rfl|refine And.intro ?_ ?_|refine ⟨_,rfl,?_⟩|decide)) ?_
  rintro ⟨_,_,_⟩ ⟨a,b,e,rfl,rfl,rfl,hb0,hb1,hab,he,ha,hj⟩
  have hle:e.toList.length=e.size:=Array.length_toList
  (repeat' ((conv=>whnf);first|refine vA ?_|((first|refine vD ?_ ?_|refine vF ?_ ?_)<;>intro hc<;>try simp only [vL] at hc)|refine vN ‹_› ?_|(refine vQ ?_ fun x hx=>?_;·omega)|((first|refine vO ?_ ?_|refine vP ?_ ?_);·first|omega|(simp only [vM] at *;omega))|(refine vU ?_ ?_;·kernel_rfl)|fail));all_goals try conv=>whnf
  ·have h1:=zat ‹e.toList[k+((b:Nat):Int).toNat]? = some _›
   have h2:=zat (zb0 (i:=((k+b - 1:Nat):Int)) (k+b - 1) (by rw [← ‹e.toList[k+(((b:Nat):Int) - 1).toNat]? = some _›];congr 1;omega) rfl)
   simp only [Int.toNat_natCast] at h1
   have e1:=hj (k+b) (by omega) (by omega)
   have e2:=hj (k+b - 1) (by omega) (by omega)
   refine ⟨(_,_,_),[(0,0)],[],?_,?_,by (refine ⟨rfl,rfl,rfl,?_,?_⟩;repeat' first|exact trivial|exact rfl|refine And.intro ?_ ?_|refine ⟨_,rfl,?_⟩|decide)⟩
   ·exact ⟨a+1,b+1,e.setIfInBounds a e[k+b]!,by omega,by omega,by rw [h1.1];simp [List.map_set],by omega,by omega,by omega,by simp [he],
     by rw [zuO (by omega),ha,← Nat.add_assoc,zxR (by rw [← e1,← e2,h1.1,h2.1];assumption),e1],
     fun j h0 h1=>by rw [zwc (by omega)];exact hj j (by omega) h1⟩
   ·((simp only [vM] at *;omega))
  ·have h1:=zat ‹e.toList[k+((b:Nat):Int).toNat]? = some _›
   have h2:=zat (zb0 (i:=((k+b - 1:Nat):Int)) (k+b - 1) (by rw [← ‹e.toList[k+(((b:Nat):Int) - 1).toNat]? = some _›];congr 1;omega) rfl)
   simp only [Int.toNat_natCast] at h1
   have e1:=hj (k+b) (by omega) (by omega)
   have e2:=hj (k+b - 1) (by omega) (by omega)
   refine ⟨(_,_,_),[(0,0)],[],?_,?_,by (refine ⟨rfl,rfl,rfl,?_,?_⟩;repeat' first|exact trivial|exact rfl|refine And.intro ?_ ?_|refine ⟨_,rfl,?_⟩|decide)⟩
   ·exact ⟨a,b+1,e,rfl,by omega,rfl,by omega,by omega,by omega,he,
     by rw [ha,← Nat.add_assoc,zvR (by omega) (by rw [← e1,← e2,h1.1,h2.1];assumption)],
     fun j h0 h1=>hj j (by omega) h1⟩
   ·((simp only [vM] at *;omega))
  ·have hE:=zvQ (enc:=(D.int .i64)) (e:=e) (z:=(D.int .i64) 0) (a:=a) (n:=(e.toList.map (D.int .i64)).length - a) (by omega)
   rw [ha,show k+b=d.size by omega,hR] at hE
   subst hE
   refine zkz.mk (by simp only [List.length_append,List.length_take,List.length_replicate,List.length_drop,List.length_map,hle];omega) ?_
   (repeat' ((conv=>whnf);fail));all_goals try conv=>whnf
   refine ⟨trivial,_,[(1,1)],[],rfl,.inl (by (repeat' exact rfl)),⟨by rfl,by rfl,by rfl,trivial,by (repeat' first|exact trivial|exact rfl|refine And.intro ?_ ?_|refine ⟨_,rfl,?_⟩|exact of_decide_eq_true rfl)⟩,by (repeat' first|exact trivial|refine And.intro ?_ ?_)⟩
 ·refine ⟨_,[(0,0)],[],?_,?_,by (refine ⟨rfl,rfl,rfl,?_,?_⟩;repeat' first|exact trivial|exact rfl|refine And.intro ?_ ?_|refine ⟨_,rfl,?_⟩|decide)⟩
  ·exact ⟨k+1,by omega,by omega,by omega,fun j h0 h1=>by
    by_cases hjk:j=k
    ·subst hjk
     have g1:=zat (zb0 j ‹d.toList[(j:Int).toNat]? = some _› rfl)
     have g2:=zat (zb0 (j - 1) ‹d.toList[((j:Int) - 1).toNat]? = some _› (by omega))
     rw [g1.1,g2.1];assumption
    ·exact hk j h0 (by omega)⟩
  ·(omega)
 ·exact absurd (fun j h0 h1=>hk j h0 (by omega)) hd
end Go.Ab
namespace Go.Ab
open Go Go.Proofs Go.MapKept
variable {T : Nat → Obj → Prop}
def O2 (base : Nat) (w : World) (v : Value) (g : Nat) (zs : List Int) : Prop := ∃ cap c e, v = .slice (some ⟨g, 0, none⟩) zs.length cap ∧ base ≤ g ∧ w.heap[g]? = some (.cells c e (0, 0)) ∧ zs.length ≤ cap ∧ cap ≤ c.size ∧ zs.length ≤ 536870912 ∧
  ∀ j, j < zs.length → c.getD j undef = .int .i64 (zs.getD j 0)
def zaJ (zs : List Int) : Ob := .row 1 (zs.map (D.int .i64))
theorem O2.kept {base : Nat} {w w' : World} {v : Value} {g : Nat} {zs : List Int} (h : O2 base w v g zs) (hg : w'.heap[g]? = w.heap[g]?) : O2 base w' v g zs := by
  obtain ⟨cap, c, e, h1, h2, h3, h4⟩ := h
  exact ⟨cap, c, e, h1, h2, hg.trans h3, h4⟩
def zsY (T : Nat → Obj → Prop) (w : World) (g : Nat) : zu where
  w0 := w
  O := fun b => b < w.heap.size ∧ b ≠ g
  R := fun b => b = g
  nt := 0
  pin := fun b o => T b o ∧ w.heap[b]? = some o ∧ b ≠ g
  pinO := fun b o h => ⟨zg h.2.1, h.2.2⟩
  ghost := fun _ => undef
  small := Nat.zero_le _
  dfr := []
  inv := fun _ _ _ _ => True
  stab := fun _ _ _ _ _ _ _ _ _ _ _ _ => trivial
  mono := fun _ _ _ _ _ _ _ => trivial
theorem zC1 {base : Nat} {w : World} {v : Value} {g : Nat} {zs : List Int} (h : O2 base w v g zs) :
    Sim (zsY T w g) (fun _ => .undef) (zq [some (zaJ zs)]) (fun i => 1 ≤ i) (fun _ => some g) ⟨#[], []⟩ w ∧
    VSim (fun _ => some g) (zq [some (zaJ zs)]) (fun i => 1 ≤ i) ((zsY T w g).X (fun _ => some g) (zq [some (zaJ zs)])) w (.own 0) v := by
  obtain ⟨cap, c, e, rfl, h2, h3, h4, h5, h6, h7⟩ := h
  have hm : ∀ i, zq [some (zaJ zs)] i = if i = 0 then some (zaJ zs) else none := fun i => by
    match i with
    | 0 => rfl
    | i + 1 => rfl
  have e0 : ∀ i, zq [some (zaJ zs)] i ≠ none → i = 0 := fun i hi => by
    rw [hm] at hi
    by_cases h : i = 0
    · exact h
    · rw [if_neg h] at hi; exact absurd rfl hi
  refine ⟨⟨fun t => .undef _, fun id ob hid => ?_, fun i j b hi hj _ _ => by rw [e0 i hi, e0 j hj], fun id b hi hb => ?_, fun id hid => by rw [hm, if_neg (by omega)], ⟨rfl, rfl, rfl, Nat.le_refl _, fun _ _ _ => rfl, fun b c e h => ⟨c, h, rfl⟩⟩, ⟨rfl, rfl⟩, fun b hb => hb.1, fun b o h => h.2.1, fun _ _ _ => trivial⟩, ?_⟩
  · rw [hm] at hid
    by_cases h : id = 0
    · rw [if_pos h] at hid
      cases hid
      refine .row 1 (zs.map (D.int .i64)) g c e rfl h3 (by rw [List.length_map]; omega) (by rw [List.length_map]; omega) (fun x hx => ?_) (fun i j hi hj => ?_)
      · obtain ⟨y, -, rfl⟩ := List.mem_map.1 hx
        rfl
      · rw [List.length_map] at hi
        have : j = 0 := by omega
        subst this
        rw [Nat.mul_one, Nat.add_zero, h7 i hi]
        rw [show (zs.map (D.int .i64)).getD i .nil = .int .i64 (zs.getD i 0) by simp [List.getD, hi]]
        exact .int .i64 _ (by simp)
    · rw [if_neg h] at hid; cases hid
  · cases hb
    exact ⟨fun h => h.2 rfl, .inl rfl⟩
  · have := VSim.own (σ := fun _ => some g) (M := zq [some (zaJ zs)]) (F := fun i => 1 ≤ i) (X := (zsY T w g).X (fun _ => some g) (zq [some (zaJ zs)])) (w := w) 0 1 (zs.map (D.int .i64)) g cap c e rfl rfl h3 (by rw [List.length_map]; omega) (by omega)
    rwa [List.length_map] at this
theorem zw3 {w w' : World} {g : Nat} (h : zwo (fun b => b = g) w w') : w.grownBy w' (some g) :=
  ⟨h.os, h.tape, h.output, h.size, fun b hb hne => h.block b hb (fun e => hne (by rw [e]))⟩
theorem zrz {σ : Nat → Option Nat} {M : Nat → Option Ob} {F X : Nat → Prop} {w : World} {id : Nat} {ys : List Int} {v : Value} (hV : VSim σ M F X w (.own id) v) (hO : zbg σ M F X w id (zaJ ys)) (hm : M id = some (zaJ ys)) (hl : ys.length ≤ 536870912) (h0 : ys ≠ []) :
    ∃ g, σ id = some g ∧ O2 0 w v g ys := by
  have hlen : (ys.map (D.int .i64)).length = ys.length := List.length_map _
  unfold zaJ at hm hO
  have pos : 0 < ys.length := List.length_pos_iff.2 h0
  cases hV with
  | ownDead _ ad l c h1 => rw [hm] at h1; cases h1
  | ownNil _ s h1 => rw [hm] at h1; simp at h1; exact absurd h1.2 h0
  | own _ s xs b cap c e h1 h2 h3 h4 h5 =>
    rw [hm] at h1
    simp only [Option.some.injEq, Ob.row.injEq] at h1
    obtain ⟨rfl, rfl⟩ := h1
    refine ⟨b, h2, cap, c, e, by rw [hlen], Nat.zero_le _, h3, by omega, by omega, hl, fun j hj => ?_⟩
    generalize hxs : ys.map (D.int .i64) = xs at hO hlen
    cases hO with
    | nilrow s h => rw [List.length_nil] at hlen; omega
    | row s xs' b' c' e' g1 g2 g3 g4 g5 g6 =>
      rw [h2] at g1; cases g1
      rw [h3] at g2; cases g2
      have := g6 j 0 (by omega) (by omega)
      rw [Nat.mul_one, Nat.add_zero, ← hxs, show (ys.map (D.int .i64)).getD j .nil = .int .i64 (ys.getD j 0) by simp [List.getD, hj]] at this
      generalize c.getD j undef = z at this ⊢
      cases this; rfl
theorem ztt {f : Nat} {zs ys : List Int} {id : Nat} {obs' : List (Option Ob)} (hf : Fn Tryz.prog T f [.own 0] [zaJ zs] (.own id) obs') (hid : zq obs' id = some (zaJ ys)) (hl : ys.length ≤ 536870912) (h0 : ys ≠ [])
    {base : Nat} {w : World} {v : Value} {g : Nat} (h : O2 base w v g zs) (hT : ∀ b o, T b o → w.heap[b]? = some o ∧ b ≠ g) (hb : base ≤ w.heap.size) :
    Calls Tryz.prog f #[v] w fun e w' => ∃ v' g', e = .returned v' ∧ O2 base w' v' g' ys ∧ (g' = g ∨ w.heap.size ≤ g') ∧ w.grownBy w' (some g) := by
  obtain ⟨hS, hV⟩ := zC1 (T := T) h
  have hbg : base ≤ g := by obtain ⟨_, _, _, _, h2, _⟩ := h; exact h2
  intro cs
  obtain ⟨v', w', σ', ⟨fr, hc, hfn, hlk⟩, hS', hV', -⟩ := hf.2 (zsY T w g) (fun _ => some g) ⟨#[], []⟩ w #[v] (fun b o ht => ⟨ht, hT b o ht⟩) (fun _ _ _ _ => trivial) hS rfl (fun i hi => by
    match i, hi with
    | 0, _ => exact hV) cs
  obtain ⟨g', hg', cap, c, e, q1, -, q2⟩ := zrz hV' (hS'.mem id _ hid) hid hl h0
  have hmine := (hS'.mine id g' (by rw [hid]; simp) hg').2
  refine ⟨.returned v', w', fr, ⟨v', g', rfl, ⟨cap, c, e, q1, ?_, q2⟩, hmine, zw3 hS'.kept⟩, hc, hfn, hlk⟩
  rcases hmine with rfl | h
  · exact hbg
  · exact Nat.le_trans hb h
end Go.Ab
namespace Go.Ab
open Go Go.Proofs Go.MapKept
def inC (rank cell : List Int) (k : Nat) (c : Int) : List Int := ((List.range k).filter fun w => at0 cell w == c).map (at0 rank)
def zJ (cell rank : List Int) (k : Nat) : GI := (zB (cell.take k)).map fun c => (c, inC rank cell k c)
theorem zll {cell rank : List Int} {k : Nat} {c : Int} : inC rank cell (k + 1) c = inC rank cell k c ++ (if at0 cell k = c then [at0 rank k] else []) := by
  unfold inC
  rw [List.range_succ, List.filter_append, List.map_append]
  congr 1
  by_cases h : at0 cell k = c
  · simp [h]
  · simp [h]
theorem zvX {cell rank : List Int} {k : Nat} {c : Int} : (inC rank cell k c).length ≤ k := by
  unfold inC
  rw [List.length_map]
  have := List.length_filter_le (fun w => at0 cell w == c) (List.range k)
  rwa [List.length_range] at this
theorem zo3 {l : List Int} {c : Int} : zB (l ++ [c]) = if c ∈ zB l then zB l else zB l ++ [c] := by
  simp only [zB, List.foldl_append, List.foldl_cons, List.foldl_nil]
  by_cases h : c ∈ List.foldl (fun l c => if c ∈ l then l else l ++ [c]) [] l
  · exact (if_pos h).trans (if_pos h).symm
  · exact (if_neg h).trans (if_neg h).symm
theorem zqJ : ∀ {l acc : List Int}, acc.Nodup → (l.foldl (fun l c => if c ∈ l then l else l ++ [c]) acc).Nodup
  | [], acc, h => h
  | x :: l, acc, h => by
    rw [List.foldl_cons]
    refine zqJ ?_
    split
    · exact h
    · rename_i hx
      exact List.nodup_append.2 ⟨h, by simp, fun a ha b hb => by simp at hb; subst hb; intro e; subst e; exact hx ha⟩
theorem znI {l : List Int} : (zB l).Nodup := zqJ List.nodup_nil
theorem zuT {cell : List Int} {k : Nat} (h : k < cell.length) : cell.take (k + 1) = cell.take k ++ [at0 cell k] := by
  rw [List.take_add_one, zjX h]; rfl
theorem zr6 {cell rank : List Int} {k : Nat} : (zJ cell rank k).map Prod.fst = zB (cell.take k) := by
  rw [zJ, List.map_map]
  exact (List.map_congr_left fun _ _ => rfl).trans (List.map_id _)
theorem zCh {cell rank : List Int} {k : Nat} (hk : k < cell.length) (h : at0 cell k ∉ (zJ cell rank k).map Prod.fst) : zJ cell rank (k + 1) = zJ cell rank k ++ [(at0 cell k, [at0 rank k])] := by
  rw [zr6] at h
  have h0 : inC rank cell k (at0 cell k) = [] := by
    rw [inC, List.map_eq_nil_iff, List.filter_eq_nil_iff]
    intro w hw he
    rw [List.mem_range] at hw
    refine h (zlJ.2 ?_)
    rw [← (show at0 cell w = at0 cell k by simpa using he)]
    exact List.mem_of_getElem? (i := w) (by rw [List.getElem?_take, if_pos hw, zjX (by omega)])
  rw [zJ, zuT hk, zo3, if_neg h, List.map_append]
  congr 1
  · refine List.map_congr_left fun c hc => ?_
    rw [zll, if_neg (fun e => h (by rw [e]; exact hc)), List.append_nil]
  · simp [zll, h0]
theorem zCi {cell rank : List Int} {k i : Nat} (hk : k < cell.length) (hi : i < (zJ cell rank k).length) (hc : ((zJ cell rank k).getD i default).1 = at0 cell k) :
    zJ cell rank (k + 1) = (zJ cell rank k).set i (at0 cell k, ((zJ cell rank k).getD i default).2 ++ [at0 rank k]) := by
  have hl : i < (zB (cell.take k)).length := by simpa [zJ] using hi
  have hg : ∀ j (hj : j < (zB (cell.take k)).length), (zJ cell rank k)[j]'(by simpa [zJ] using hj) = ((zB (cell.take k))[j], inC rank cell k (zB (cell.take k))[j]) := fun j hj => by simp [zJ]
  have hci : (zB (cell.take k))[i] = at0 cell k := by
    rw [← hc]; simp [List.getD, hi, hg i hl]
  have hm : at0 cell k ∈ zB (cell.take k) := by rw [← hci]; exact List.getElem_mem _
  have hn : zJ cell rank (k + 1) = (zB (cell.take k)).map fun c => (c, inC rank cell (k + 1) c) := by rw [zJ, zuT hk, zo3, if_pos hm]
  rw [hn]
  refine List.ext_getElem (by simp [zJ]) fun j h1 h2 => ?_
  have hj : j < (zB (cell.take k)).length := by simpa using h1
  rw [List.getElem_map, List.getElem_set]
  by_cases e : i = j
  · subst e
    rw [if_pos rfl, hci, zll, if_pos rfl]
    simp [List.getD, hi, hg i hl, hci]
  · rw [if_neg e, hg j hj, zll, if_neg, List.append_nil]
    intro h
    exact e ((List.getElem_inj znI).1 (hci.trans h))
def O1 (base : Nat) (w : World) (v : Value) (g : Nat) (zs : List Int) : Prop := w.ownsRow base 3 1 v zs.length (zs.map (Value.int .i64)) ∧ v.ownBlock = some g
theorem O1.kept {base : Nat} {w w' : World} {v : Value} {g : Nat} {zs : List Int} {row : Option Nat} (h : O1 base w v g zs) (hg : w.grownBy w' row) (hne : some g ≠ row) : O1 base w' v g zs := ⟨h.1.kept hg (.inr (by rw [h.2]; exact hne)), h.2⟩
theorem O1.lt {base : Nat} {w : World} {v : Value} {g : Nat} {zs : List Int} (h : O1 base w v g zs) : base ≤ g ∧ g < w.heap.size := h.1.lt g h.2
theorem O1.O2 {base : Nat} {w : World} {v : Value} {g : Nat} {zs : List Int} (h : O1 base w v g zs) (hl : zs.length ≤ 536870912) : O2 base w v g zs := by
  obtain ⟨⟨h1, h2⟩, h3⟩ := h
  rcases h2 with ⟨rfl, h2⟩ | ⟨g', cap, cur, rfl, h4, h5, h6, h7, h8, h9⟩
  · cases h3
  · cases h3
    refine ⟨cap, cur, 3, rfl, h4, h5, h6, by omega, hl, fun j hj => ?_⟩
    have : (cur.toList.take (zs.length * 1))[j]? = some (Value.int .i64 (zs.getD j 0)) := by rw [h9]; simp [hj, List.getD]
    rw [List.getElem?_take, if_pos (by omega)] at this
    rw [Array.getD_eq_getD_getElem?, ← Array.getElem?_toList, this]; rfl
theorem zfa (w : World) (m : Nat) (o : Obj) : w.grownBy { w with heap := w.heap.setIfInBounds m o } (some m) :=
  ⟨rfl, rfl, rfl, by simp, fun k _ hk => by simp [Array.getElem?_setIfInBounds_ne (fun e : m = k => hk (by rw [e]))]⟩
section
variable {w : World} {base m : Nat} {gs : GI} {es : Array MapEntry} {clock : Nat} {blk : Nat → Nat}
theorem Grp.look1 (h : Grp (O1 base) w m gs es clock blk) (hmb : m < base) (c : Int) : ∃ v zs, ∃ tgt : List Int → GI, (v.ownBlock ≠ some m) ∧ (∀ w', w'.heap[m]? = w.heap[m]? → (Instr.lookup 90 (.map (some m)) (.int .i64 c) false).run Tryz.prog w' = .ok v w') ∧ w.ownsRow base 3 1 v zs.length (zs.map (Value.int .i64)) ∧
    ((∃ i, i < gs.length ∧ (gs.getD i default).1 = c ∧ zs = (gs.getD i default).2 ∧ tgt = fun ys => gs.set i (c, ys)) ∨ (c ∉ gs.map Prod.fst ∧ zs = [] ∧ tgt = fun ys => gs ++ [(c, ys)])) ∧
    ∀ w1 v' x, w.grownBy w1 v.ownBlock → w1.ownsRow base 3 1 v' (zs.length + 1) (zs.map (Value.int .i64) ++ [.int .i64 x]) → (v'.ownBlock = v.ownBlock ∨ v'.ownBlock = some w.heap.size ∨ ∃ g, v'.ownBlock = some g ∧ w.heap.size ≤ g) →
      ∃ w2 es' clock' blk', (Instr.mapUpdate 90 (.map (some m)) (.int .i64 c) v').run Tryz.prog w1 = .ok () w2 ∧ Grp (O1 base) w2 m (tgt (zs ++ [x])) es' clock' blk' ∧ w1.grownBy w2 (some m) := by
  have hmw : m < w.heap.size := zg h.heap
  have nn : ∀ {w1 : World} {v' : Value} {zs : List Int} {x : Int}, w1.ownsRow base 3 1 v' (zs.length + 1) (zs.map (Value.int .i64) ++ [.int .i64 x]) → ∃ g, O1 base w1 v' g (zs ++ [x]) := by
    intro w1 v' zs x ho
    have ho' : w1.ownsRow base 3 1 v' (zs ++ [x]).length ((zs ++ [x]).map (Value.int .i64)) := by simpa using ho
    rcases ho.2 with ⟨_, h0⟩ | ⟨g, cap, cur, rfl, _⟩
    · omega
    · exact ⟨g, ho', rfl⟩
  rcases h.find c with ⟨hn, hf⟩ | ⟨i, hi, hc, hf⟩
  · refine ⟨_, [], _, by simp [Value.ownBlock], fun w' hw' => zw5 (hw'.trans h.heap) hf, World.ownsRow_nil _ _ _ _, .inr ⟨hn, rfl, rfl⟩, fun w1 v' x hg ho hl => ?_⟩
    obtain ⟨g, hv⟩ := nn ho
    have hgw : w.heap.size ≤ g := by
      rcases hl with h1 | h1 | ⟨g', h1, h2⟩
      · rw [hv.2] at h1; cases h1
      · rw [hv.2] at h1; cases h1; exact Nat.le_refl _
      · rw [hv.2] at h1; cases h1; exact h2
    have hm1 : w1.heap[m]? = some (.map es clock) := (hg.block m hmw (by simp [Value.ownBlock])).trans h.heap
    obtain ⟨es', h1, h2⟩ := h.add (w1 := w1) (c := c) (v := v') (g := g) (zs := [] ++ [x]) hf hm1
      (fun o => hv.kept (zfa w1 m o) (by simp; have := hv.lt; omega))
      (fun o j hj => ((h.val j hj).kept hg (by simp [Value.ownBlock])).kept (zfa w1 m o) (by have := (h.val j hj).lt; simp; omega))
      (fun j hj => by have := (h.val j hj).lt; omega)
    exact ⟨_, es', _, _, h1, h2, zfa _ _ _⟩
  · have hvi := h.val i hi
    refine ⟨_, (gs.getD i default).2, _, by rw [hvi.2]; have := hvi.lt; simp; omega, fun w' hw' => zw6 (hw'.trans h.heap) hf, hvi.1, .inl ⟨i, hi, hc, rfl, rfl⟩, fun w1 v' x hg ho hl => ?_⟩
    rw [hvi.2] at hg hl
    obtain ⟨g, hv⟩ := nn ho
    have hgw : g = blk i ∨ w.heap.size ≤ g := by
      rcases hl with h1 | h1 | ⟨g', h1, h2⟩
      · rw [hv.2] at h1; cases h1; exact .inl rfl
      · rw [hv.2] at h1; cases h1; exact .inr (Nat.le_refl _)
      · rw [hv.2] at h1; cases h1; exact .inr h2
    have hmi : m ≠ blk i := by have := hvi.lt; omega
    have hm1 : w1.heap[m]? = some (.map es clock) := (hg.block m hmw (by simpa using hmi)).trans h.heap
    have hne : ∀ j, j < gs.length → j ≠ i → blk j ≠ blk i := fun j hj hji e => hji (h.apart j i hj hi e)
    obtain ⟨es', h1, h2, -⟩ := h.set (w1 := w1) (c := c) (u := (es.getD i default).val) (v := v') (g := g) (zs := (gs.getD i default).2 ++ [x]) hi hc hf hm1
      (fun o => hv.kept (zfa w1 m o) (by simp; have := hv.lt; omega))
      (fun o j hj hji => ((h.val j hj).kept hg (by simpa using hne j hj hji)).kept (zfa w1 m o) (by have := (h.val j hj).lt; simp; omega))
      (fun j hj hji => by
        have := (h.val j hj).lt
        rcases hgw with rfl | h3
        · exact hne j hj hji
        · omega)
    exact ⟨_, es', _, _, h1, h2, zfa _ _ _⟩
end
end Go.Ab
namespace Go.Proofs
def Tryz.lays189_ren : Go.Shelf.Ren := ⟨fun | 189 => 110 | 125 => 124 | 257 => 143 | 128 => 158 | 129 => 159 | 294 => 166 | 295 => 167 | 296 => 168 | 297 => 169 | 298 => 170 | 299 => 171 | 216 => 172 | 300 => 173 | 301 => 174 | 328 => 192 | 329 => 179 | 330 => 180 | 331 => 193 | 332 => 194 | 215 => 195 | 343 => 201 | n => n, fun | 28 => 28 | 3 => 3 | 46 => 101 | 0 => 0 | 51 => 158 | 53 => 44 | 4 => 4 | 183 => 151 | 182 => 150 | 131 => 122 | 5 => 5 | 9 => 9 | 218 => 172 | 222 => 176 | 228 => 188 | 229 => 37 | n => n, fun | n => n⟩
theorem Tryz.lays189 : Go.Proofs.Lays.n189 Tryz.prog Tryz.lays189_ren := {
  mixed := by kernel_rfl
  f125 := Tryz.func124.trans (congrArg some (by kernel_rfl))
  f128 := Tryz.func158.trans (congrArg some (by kernel_rfl))
  f129 := Tryz.func159.trans (congrArg some (by kernel_rfl))
  f189 := Tryz.func110.trans (congrArg some (by kernel_rfl))
  f215 := Tryz.func195.trans (congrArg some (by kernel_rfl))
  f216 := Tryz.func172.trans (congrArg some (by kernel_rfl))
  f257 := Tryz.func143.trans (congrArg some (by kernel_rfl))
  f294 := Tryz.func166.trans (congrArg some (by kernel_rfl))
  f295 := Tryz.func167.trans (congrArg some (by kernel_rfl))
  f296 := Tryz.func168.trans (congrArg some (by kernel_rfl))
  f297 := Tryz.func169.trans (congrArg some (by kernel_rfl))
  f298 := Tryz.func170.trans (congrArg some (by kernel_rfl))
  f299 := Tryz.func171.trans (congrArg some (by kernel_rfl))
  f300 := Tryz.func173.trans (congrArg some (by kernel_rfl))
  f301 := Tryz.func174.trans (congrArg some (by kernel_rfl))
  f328 := Tryz.func192.trans (congrArg some (by kernel_rfl))
  f329 := Tryz.func179.trans (congrArg some (by kernel_rfl))
  f330 := Tryz.func180.trans (congrArg some (by kernel_rfl))
  f331 := Tryz.func193.trans (congrArg some (by kernel_rfl))
  f332 := Tryz.func194.trans (congrArg some (by kernel_rfl))
  f343 := Tryz.func201.trans (congrArg some (by kernel_rfl))
  t0 := Tryz.underlying0
  a0 := Tryz.isAgg0
  z0 := Tryz.sizeOf0
  v0 := Tryz.zeroValue0
  t3 := Tryz.underlying3
  a3 := Tryz.isAgg3
  z3 := Tryz.sizeOf3
  v3 := Tryz.zeroValue3
  t4 := Tryz.underlying4
  a4 := Tryz.isAgg4
  z4 := Tryz.sizeOf4
  v4 := Tryz.zeroValue4
  t5 := Tryz.underlying5
  a5 := Tryz.isAgg5
  z5 := Tryz.sizeOf5
  v5 := Tryz.zeroValue5
  t9 := Tryz.underlying9
  a9 := Tryz.isAgg9
  z9 := Tryz.sizeOf9
  v9 := Tryz.zeroValue9
  t28 := Tryz.underlying28
  a28 := Tryz.isAgg28
  z28 := Tryz.sizeOf28
  v28 := Tryz.zeroValue28
  t46 := Tryz.underlying101
  a46 := Tryz.isAgg101
  z46 := Tryz.sizeOf101
  v46 := Tryz.zeroValue101
  t51 := Tryz.underlying158
  a51 := Tryz.isAgg158
  z51 := Tryz.sizeOf158
  v51 := Tryz.zeroValue158
  t53 := Tryz.underlying44
  a53 := Tryz.isAgg44
  z53 := Tryz.sizeOf44
  v53 := Tryz.zeroValue44
  t131 := Tryz.underlying122
  a131 := Tryz.isAgg122
  z131 := Tryz.sizeOf122
  v131 := Tryz.zeroValue122
  t182 := Tryz.underlying150
  a182 := Tryz.isAgg150
  z182 := Tryz.sizeOf150
  v182 := Tryz.zeroValue150
  t183 := Tryz.underlying151
  a183 := Tryz.isAgg151
  z183 := Tryz.sizeOf151
  v183 := Tryz.zeroValue151
  t218 := Tryz.underlying172
  a218 := Tryz.isAgg172
  z218 := Tryz.sizeOf172
  v218 := Tryz.zeroValue172
  t222 := Tryz.underlying176
  a222 := Tryz.isAgg176
  z222 := Tryz.sizeOf176
  v222 := Tryz.zeroValue176
  t228 := Tryz.underlying188
  a228 := Tryz.isAgg188
  z228 := Tryz.sizeOf188
  v228 := Tryz.zeroValue188
  t229 := Tryz.underlying37
  a229 := Tryz.isAgg37
  z229 := Tryz.sizeOf37
  v229 := Tryz.zeroValue37 }
end Go.Proofs
namespace Go.Ab
open Go Go.Proofs Go.MapKept
open Go.ChangeMaps (setBlock)
variable {T : Nat → Obj → Prop}
def zeS (zs : List Int) : List Int := ddA (Sort.sort Sort.ltInt zs.toArray) (Sort.sort Sort.ltInt zs.toArray).size
theorem zwI {d : Array Int} : ∀ {n : Nat}, 0 < n → ddA d n ≠ []
  | 1, _ => by simp [ddA]
  | n + 2, _ => by
    rw [ddA]
    split
    · exact zwI (Nat.succ_pos n)
    · simp
theorem ztz {α : Type} [Inhabited α] [DecidableEq α] {d : Array α} : ∀ {n : Nat}, (ddA d n).length ≤ n
  | 0 => Nat.le_refl 0
  | n + 1 => by
    have := ztz (d := d) (n := n)
    rw [ddA]
    split
    · omega
    · simp; omega
theorem zsx (d : Array Int) : (Sort.sort Sort.ltInt d).size = d.size := zAt Sort.swo_ltInt d.size d 0 d.size _ true true (by omega) (Nat.zero_le _) (Nat.le_refl _)
theorem zts {d : Array Int} (hl : d.size ≤ 536870912) (h0 : 0 < d.size) {base : Nat} {w : World} {v : Value} {g : Nat} (h : O2 base w v g d.toList) (hT : ∀ b o, T b o → w.heap[b]? = some o ∧ b ≠ g) (hb : base ≤ w.heap.size) :
    Calls Tryz.prog 111 #[v] w fun e w' => ∃ v' g', e = .returned v' ∧ O2 base w' v' g' (ddA d d.size) ∧ (g' = g ∨ w.heap.size ≤ g') ∧ w.grownBy w' (some g) := by
  by_cases hs : Steps d
  · have hd : ddA d d.size = d.toList := by
      rw [zof (Nat.le_refl _) (fun j h1 h2 => hs j h1 h2), List.take_of_length_le (by simp)]
    exact ztt (T := T) (f := 111) (id := 0) (zoz d hl hs) (by rw [hd]; rfl) (Nat.le_trans ztz hl) (zwI h0) h hT hb
  · exact ztt (T := T) (f := 111) (id := 1) (znb d hl hs) rfl (Nat.le_trans ztz hl) (zwI h0) h hT hb
theorem zwB {zs : List Int} (hl : zs.length ≤ 536870912) (h0 : zs ≠ []) {base : Nat} {w : World} {v : Value} {g : Nat} (h : O2 base w v g zs) (hT : ∀ b o, T b o → w.heap[b]? = some o ∧ b ≠ g) :
    Calls Tryz.prog 110 #[v] w fun e w' => e = .returned (.tuple #[]) ∧ O2 base w' v g (Sort.sort Sort.ltInt zs.toArray).toList ∧ w.grownBy w' (some g) := by
  have hz : (Sort.sort Sort.ltInt zs.toArray).toList.length = zs.length := by rw [Array.length_toList, zsx]; simp
  obtain ⟨cap, c, e, rfl, h2, h3, h4, h5, h6, h7⟩ := h
  have hH := holds_of_blockI (ss := zs) h3 (by
    refine List.ext_getElem (by simp; omega) fun i h1 h8 => ?_
    have h8 : i < zs.length := by simpa using h8
    have := h7 i h8
    simp [List.getD, h8, show i < c.size by omega] at this
    simp [this])
  refine (Any.slices_Sort_int Tryz.lays189 g 0 cap zs w hH (zg h3) (by omega)).mono fun x w' => ?_
  rintro ⟨rfl, n, os, rfl⟩
  have hq : (zs.mergeSort fun x y => decide (x ≤ y)) = (Sort.sort Sort.ltInt zs.toArray).toList := (Go.Sort.sortInt zs).symm
  rw [hq]
  generalize (Sort.sort Sort.ltInt zs.toArray).toList = ys at hz
  refine ⟨rfl, ⟨cap, _, e, by rw [hz], h2, heap_sortedI _ h3, by omega, by simp [Sort.putCells]; omega, by omega, fun j hj => ?_⟩, grownBy_sortedI _⟩
  have ht := take_putCellsI c ys (by omega)
  have := congrArg (fun l : List Value => l.getD j undef) ht
  simp [List.getD, List.getElem?_take, hj] at this
  simpa [List.getD, hj] using this
def gAt (gs : GI) (born : Nat → Nat) (seen : Array Nat) : GI := (List.range gs.length).map fun j => ((gs.getD j default).1, if seen.contains (born j) then zeS (gs.getD j default).2 else (gs.getD j default).2)
def ziD (n : Nat) (born : Nat → Nat) (seen : Array Nat) : Nat := ((List.range n).filter fun j => !seen.contains (born j)).length
structure Mid (w : World) (m base r clock : Nat) (gs : GI) (born : Nat → Nat) (seen : Array Nat) (wr : World) : Prop where
  ex : ∃ es blk, Grp (O2 base) wr m (gAt gs born seen) es clock blk ∧ (∀ j, j < gs.length → (es.getD j default).born = born j) ∧ ∀ j, j < gs.length → blk j ≠ r ∧ blk j < wr.heap.size
  iter : wr.heap[r]? = some (.mapIter (some m) clock seen clock)
  grown : w.grownBy wr none
  mr : m < base ∧ base ≤ r ∧ w.heap.size ≤ m
theorem zej {gs : GI} {born : Nat → Nat} {seen : Array Nat} : (gAt gs born seen).length = gs.length := by simp [gAt]
theorem zvU {gs : GI} {born : Nat → Nat} {seen : Array Nat} {j : Nat} (hj : j < gs.length) : (gAt gs born seen).getD j default = ((gs.getD j default).1, if seen.contains (born j) then zeS (gs.getD j default).2 else (gs.getD j default).2) := by
  simp [gAt, List.getD, hj]
theorem zz3 {gs : GI} {born : Nat → Nat} {seen : Array Nat} {i : Nat} (hi : i < gs.length) (hb : ∀ j, j < gs.length → born j = born i → j = i) :
    gAt gs born (seen.push (born i)) = (gAt gs born seen).set i ((gs.getD i default).1, zeS (gs.getD i default).2) := by
  refine List.ext_getElem (by simp [gAt]) fun j h1 h2 => ?_
  have hj : j < gs.length := by simpa [gAt] using h1
  rw [List.getElem_set]
  simp only [gAt, List.getElem_map, List.getElem_range, Array.contains_push]
  by_cases e : i = j
  · subst e; simp
  · rw [if_neg e]
    have : (born j == born i) = false := by simpa using fun h => e (hb j hj h).symm
    simp [this]
theorem zvz {n : Nat} {born : Nat → Nat} {seen : Array Nat} {i : Nat} (hi : i < n) (hs : seen.contains (born i) = false) : ziD n born (seen.push (born i)) < ziD n born seen := by
  unfold ziD
  have hsub : ((List.range n).filter fun j => !(seen.push (born i)).contains (born j)) = ((List.range n).filter fun j => !seen.contains (born j)).filter fun j => !(born j == born i) := by
    rw [List.filter_filter]
    refine List.filter_congr fun j _ => ?_
    rw [Array.contains_push]
    cases seen.contains (born j) <;> cases (born j == born i) <;> rfl
  rw [hsub]
  refine Nat.lt_of_le_of_ne (List.length_filter_le _ _) fun h => ?_
  have := (List.filter_eq_self.1 (List.length_filter_eq_length_iff.1 h |> fun hh => List.filter_eq_self.2 hh)) i (List.mem_filter.2 ⟨List.mem_range.2 hi, by simpa using hs⟩)
  simp at this
end Go.Ab
namespace Go.Ab
open Go Go.Proofs Go.MapKept
open Go.ChangeMaps (setBlock)
variable {T : Nat → Obj → Prop}
theorem Mid.round {w wr : World} {m base r clock : Nat} {gs : GI} {born : Nat → Nat} {seen : Array Nat} (h : Mid w m base r clock gs born seen wr) (ty : TypeId) (hT : ∀ b o, T b o → w.heap[b]? = some o)
    (hk : ∀ i j, i < gs.length → j < gs.length → (gs.getD i default).1 = (gs.getD j default).1 → i = j) (hz : ∀ j, j < gs.length → (gs.getD j default).2 ≠ [] ∧ (gs.getD j default).2.length ≤ 536870912) :
    ((Instr.next (.pointer (some ⟨r, 0, none⟩)) false ty).run Tryz.prog wr = .ok (.tuple #[.bool false]) wr ∧ ∀ j, j < gs.length → seen.contains (born j) = true) ∨
    ∃ (c : Int) (v : Value) (wn : World), (Instr.next (.pointer (some ⟨r, 0, none⟩)) false ty).run Tryz.prog wr = .ok (.tuple #[.bool true, .int .i64 c, v]) wn ∧ (Instr.entry (.pointer (some ⟨r, 0, none⟩))).run Tryz.prog wn = .ok (.tuple #[.int .i64 c, v]) wn ∧
      Calls Tryz.prog 110 #[v] wn fun e w' => e = .returned (.tuple #[]) ∧ Calls Tryz.prog 111 #[v] w' fun e w'' => ∃ v', e = .returned v' ∧ ∃ wz seen', (Instr.mapUpdate 90 (.map (some m)) (.int .i64 c) v').run Tryz.prog w'' = .ok () wz ∧
        Mid w m base r clock gs born seen' wz ∧ ziD gs.length born seen' < ziD gs.length born seen := by
  obtain ⟨es, blk, hG, hborn, hblk⟩ := h.ex
  obtain ⟨hmb, hbr, hwm⟩ := h.mr
  have hsz : es.size = gs.length := hG.size.trans zej
  have idx : ∀ x ∈ es.toList, ∃ j, j < gs.length ∧ es.getD j default = x := fun x hx => by
    obtain ⟨j, hj, rfl⟩ := List.getElem_of_mem hx
    rw [Array.length_toList] at hj
    exact ⟨j, by omega, by simp [Array.getD_eq_getD_getElem?, hj]⟩
  have hold : ∀ x ∈ es.toList, x.born < clock := fun x hx => by
    obtain ⟨j, hj, rfl⟩ := idx x hx
    exact hG.st.lt j (by omega)
  have hbi : ∀ i j, i < gs.length → j < gs.length → born i = born j → i = j := fun i j hi hj e => hG.st.inj i j (by omega) (by omega) (by rw [hborn i hi, hborn j hj, e])
  rcases run_next_at (P := Tryz.prog) wr ty r m clock clock seen es clock h.iter hG.heap hold (Nat.le_refl _) with ⟨h0, hrun⟩ | ⟨e, he, w1, hw1, hrun⟩
  · refine .inl ⟨hrun, fun j hj => ?_⟩
    by_cases hc : seen.contains (born j) = true
    · exact hc
    · have hm : es.getD j default ∈ (leftOf es seen) := by
        unfold leftOf
        refine Array.mem_filter.2 ⟨?_, ?_⟩
        · rw [show es.getD j default = es[j]'(by omega) by simp [Array.getD_eq_getD_getElem?, show j < es.size by omega]]
          exact Array.getElem_mem _
        · rw [hborn j hj]; simpa using hc
      have : leftOf es seen = #[] := Array.eq_empty_of_size_eq_zero h0
      rw [this] at hm
      simp at hm
  · right
    have he' : e ∈ es ∧ seen.contains e.born = false := by
      have : e ∈ leftOf es seen := by simpa using he
      unfold leftOf at this
      obtain ⟨h1, h2⟩ := Array.mem_filter.1 this
      exact ⟨h1, by simpa using h2⟩
    obtain ⟨j, hj, rfl⟩ := idx e (by simpa using he'.1)
    have hs := he'.2
    rw [hborn j hj] at hs hrun
    have hjl : j < (gAt gs born seen).length := by rw [zej]; exact hj
    have hkey := hG.key j hjl
    have hval := hG.val j hjl
    have hgj := zvU (born := born) (seen := seen) hj
    rw [hs] at hgj
    simp only [Bool.false_eq_true, if_false] at hgj
    rw [hgj] at hkey hval
    simp only at hkey hval
    rw [hkey] at hrun
    have hw1h : w1.heap = wr.heap ∧ w1.os = wr.os ∧ w1.tape = wr.tape ∧ w1.output = wr.output := by rcases hw1 with rfl | rfl <;> exact ⟨rfl, rfl, rfl, rfl⟩
    have hrlt : r < wr.heap.size := zg h.iter
    generalize hwn : setBlock w1 r (.mapIter (some m) clock (seen.push (born j)) clock) = wn at hrun
    have nr : wn.heap[r]? = some (.mapIter (some m) clock (seen.push (born j)) clock) := by rw [← hwn]; simp [setBlock, hw1h.1, hrlt]
    have no : ∀ b, b ≠ r → wn.heap[b]? = wr.heap[b]? := fun b hb => by rw [← hwn]; simp [setBlock, hw1h.1, Array.getElem?_setIfInBounds_ne (Ne.symm hb)]
    have ns : wn.heap.size = wr.heap.size := by rw [← hwn]; simp [setBlock, hw1h.1]
    have nx : wn.os = wr.os ∧ wn.tape = wr.tape ∧ wn.output = wr.output := by rw [← hwn]; exact hw1h.2
    clear hwn
    obtain ⟨hbj1, hbj2⟩ := hblk j hj
    have hbase : ∀ i, i < gs.length → base ≤ blk i := fun i hi => by
      obtain ⟨_, _, _, _, h2, _⟩ := hG.val i (by rw [zej]; exact hi); exact h2
    have hgn : w.grownBy wn none := ⟨nx.1.trans h.grown.os, nx.2.1.trans h.grown.tape, nx.2.2.trans h.grown.output, by rw [ns]; exact h.grown.size, fun b hb _ => (no b (by omega)).trans (h.grown.block b hb (by simp))⟩
    have hTn : ∀ (x : World), wn.grownBy x (some (blk j)) → ∀ b o, T b o → x.heap[b]? = some o ∧ b ≠ blk j := fun x hx b o ht => by
      have h1 := hT b o ht
      have h2 := zg h1
      have h3 := hbase j hj
      exact ⟨(hx.block b (Nat.lt_of_lt_of_le h2 hgn.size) (by simp; omega)).trans ((hgn.block b h2 (by simp)).trans h1), by omega⟩
    have hself : wn.grownBy wn (some (blk j)) := ⟨rfl, rfl, rfl, Nat.le_refl _, fun _ _ _ => rfl⟩
    refine ⟨(gs.getD j default).1, (es.getD j default).val, wn, hrun, ?_, ?_⟩
    · have := run_entry_at (P := Tryz.prog) wn r m clock seen es clock (es.getD j default) (by rw [hborn j hj]; exact nr) ((no m (by omega)).trans hG.heap) (by simpa using he'.1) (by
        refine List.pairwise_iff_getElem.2 fun p q hp hq hpq e => ?_
        simp only [List.length_map, Array.length_toList] at hp hq
        have := hG.st.inj p q hp hq (by simpa [Array.getD_eq_getD_getElem?, hp, hq] using e)
        omega)
      rw [hkey] at this
      exact this
    · refine (zwB (T := T) (hz j hj).2 (hz j hj).1 (hval.kept (no _ hbj1)) (hTn wn hself)).mono ?_
      rintro e1 w' ⟨rfl, hO1, hg1⟩
      refine ⟨rfl, ?_⟩
      have hds : (Sort.sort Sort.ltInt (gs.getD j default).2.toArray).size = (gs.getD j default).2.length := by rw [zsx]; simp
      refine (zts (T := T) (d := Sort.sort Sort.ltInt (gs.getD j default).2.toArray) (by rw [hds]; exact (hz j hj).2) (by rw [hds]; exact List.length_pos_iff.2 (hz j hj).1) hO1 (hTn w' hg1) (by have := hbase j hj; have := hg1.size; omega)).mono ?_
      rintro e2 w'' ⟨v', g', rfl, hO2, hg', hg2⟩
      refine ⟨v', rfl, ?_⟩
      have hg12 : wn.grownBy w'' (some (blk j)) := ⟨hg2.os.trans hg1.os, hg2.tape.trans hg1.tape, hg2.output.trans hg1.output, Nat.le_trans hg1.size hg2.size, fun b hb hne => (hg2.block b (Nat.lt_of_lt_of_le hb hg1.size) hne).trans (hg1.block b hb hne)⟩
      have hmj : m ≠ blk j := by have := hbase j hj; omega
      have hm2 : w''.heap[m]? = some (.map es clock) := (hg12.block m (by rw [ns]; omega) (by simpa using hmj)).trans ((no m (by omega)).trans hG.heap)
      have hg'b : base ≤ g' := by obtain ⟨_, _, _, _, h2, _⟩ := hO2; exact h2
      have hg'l : g' < w''.heap.size := by obtain ⟨_, _, _, _, _, h3, _⟩ := hO2; exact zg h3
      have hg'r : g' ≠ r := by
        rcases hg' with rfl | h3
        · exact hbj1
        · have := hg1.size; omega
      have hf : Instr.findNow (.int .i64) (.int .i64 (gs.getD j default).1) es.toList 0 = some (some (j, (es.getD j default).val)) := by
        rcases hG.find (gs.getD j default).1 with ⟨hn, -⟩ | ⟨i, hi, hi2, hf⟩
        · refine absurd ?_ hn
          refine List.mem_map.2 ⟨(gAt gs born seen).getD j default, ?_, by rw [hgj]⟩
          simp [List.getD, hjl]
        · rw [zej] at hi
          rw [zvU hi] at hi2
          have := hk i j hi hj hi2
          subst this
          exact hf
      obtain ⟨es', hup, hG', hbn⟩ := hG.set (w1 := w'') (c := (gs.getD j default).1) (i := j) (u := (es.getD j default).val) (v := v') (g := g') (zs := zeS (gs.getD j default).2) hjl (by rw [hgj]) hf hm2
        (fun o => hO2.kept (by simp [Array.getElem?_setIfInBounds_ne (show m ≠ g' by omega)]))
        (fun o i hi hij => (hG.val i hi).kept (by
          rw [zej] at hi
          have h1 := hbase i hi
          have h2 : blk i ≠ blk j := fun e => hij (hG.apart i j (by rw [zej]; exact hi) hjl e)
          obtain ⟨h3, h4⟩ := hblk i hi
          show (w''.heap.setIfInBounds m o)[blk i]? = _
          rw [Array.getElem?_setIfInBounds_ne (show m ≠ blk i by omega), hg12.block (blk i) (by rw [ns]; exact h4) (by simpa using h2), no _ h3]))
        (fun i hi hij => by
          rw [zej] at hi
          have h2 : blk i ≠ blk j := fun e => hij (hG.apart i j (by rw [zej]; exact hi) hjl e)
          have h4 := (hblk i hi).2
          rcases hg' with rfl | h3
          · exact h2
          · have := hg1.size; omega)
      refine ⟨_, seen.push (born j), hup, ⟨⟨es', fun i => if i = j then g' else blk i, ?_, fun i hi => (hbn i (by rw [zej]; exact hi)).trans (hborn i hi), fun i hi => ?_⟩, ?_, ?_, hmb, hbr, hwm⟩, zvz hj hs⟩
      · rw [zz3 hj (fun i hi e => hbi i j hi hj e)]
        exact hG'
      · show (if i = j then g' else blk i) ≠ r ∧ (if i = j then g' else blk i) < _
        by_cases e : i = j
        · rw [if_pos e]; exact ⟨hg'r, by simpa using hg'l⟩
        · rw [if_neg e]
          refine ⟨(hblk i hi).1, ?_⟩
          have := (hblk i hi).2; have := hg12.size; simp; omega
      · show (w''.heap.setIfInBounds m _)[r]? = _
        rw [Array.getElem?_setIfInBounds_ne (show m ≠ r by omega), hg12.block r (by rw [ns]; exact hrlt) (by simpa using Ne.symm hbj1), nr]
      · refine ⟨hg12.os.trans hgn.os, hg12.tape.trans hgn.tape, hg12.output.trans hgn.output, by simp; exact Nat.le_trans hgn.size hg12.size, fun b hb _ => ?_⟩
        show (w''.heap.setIfInBounds m _)[b]? = _
        have := hbase j hj
        rw [Array.getElem?_setIfInBounds_ne (show m ≠ b by omega), hg12.block b (Nat.lt_of_lt_of_le hb hgn.size) (by simp; omega), hgn.block b hb (by simp)]
def zAe (r n : Nat) (born : Nat → Nat) (w : World) : Nat := match w.heap[r]? with
  | some (.mapIter _ _ seen _) => ziD n born seen
  | _ => 0
theorem Mid.mu {w wr : World} {m base r clock n : Nat} {gs : GI} {born : Nat → Nat} {seen : Array Nat} (h : Mid w m base r clock gs born seen wr) : zAe r n born wr = ziD n born seen := by
  rw [zAe, h.iter]
theorem zBu {gs : GI} {born : Nat → Nat} : gAt gs born #[] = gs := by
  refine List.ext_getElem (by simp [gAt]) fun j h1 h2 => ?_
  simp [gAt, List.getD, h2]
theorem zBt {gs : GI} {born : Nat → Nat} {seen : Array Nat} (h : ∀ j, j < gs.length → seen.contains (born j) = true) : gAt gs born seen = gs.map fun p => (p.1, zeS p.2) := by
  refine List.ext_getElem (by simp [gAt]) fun j h1 h2 => ?_
  have hj : j < gs.length := by simpa using h2
  have := h j hj
  simp only [gAt, List.getElem_map, List.getElem_range, this, if_true]
  simp [List.getD, hj]
theorem Mid.start {w wr : World} {m base clock : Nat} {gs : GI} {es : Array MapEntry} {blk : Nat → Nat} (hG : Grp (O1 base) wr m gs es clock blk) (hz : ∀ j, j < gs.length → (gs.getD j default).2.length ≤ 536870912)
    (hgr : w.grownBy wr none) (hmb : m < base) (hb : base ≤ wr.heap.size) (hwm : w.heap.size ≤ m) :
    Mid w m base wr.heap.size clock gs (fun j => (es.getD j default).born) #[] (wr.alloc (.mapIter (some m) clock #[] clock)) := by
  refine ⟨⟨es, blk, ?_, fun j hj => rfl, fun j hj => ?_⟩, heap_alloc_new _ _, hgr.trans (World.grownBy_alloc _ _ _), hmb, hb, hwm⟩
  · rw [zBu]
    exact ⟨(heap_alloc_old _ _ (zg hG.heap)).trans hG.heap, hG.st, hG.size, hG.key, fun i hi => ((hG.val i hi).O2 (hz i hi)).kept (heap_alloc_old _ _ (hG.val i hi).lt.2), hG.apart⟩
  · have := (hG.val j hj).lt
    exact ⟨by omega, by simp; omega⟩
end Go.Ab
namespace Go.Ab
open Go Go.Proofs Go.MapKept Go.RowKit Go.WideMaps Go.Maps
section
variable {P : Program} (w : World) {ops : Array Oper} {rest : List Oper} {o : Oper} {a : Act} {Q : Exit → Act → World → Prop}
end
theorem zAE : (Tryz.prog.info? 3).map (fun i => (i.zero, i.size, i.bytes)) = some (some (.int .i64 0), 1, 8) := by kernel_rfl
variable {T : Nat → Obj → Prop}
theorem zCR {cell rank : List Int} (hl : cell.length ≤ 536870912) : ∀ j, j < (zJ cell rank cell.length).length → ((zJ cell rank cell.length).getD j default).2 ≠ [] ∧ ((zJ cell rank cell.length).getD j default).2.length ≤ 536870912 := by
  intro j hj
  have hm : (zJ cell rank cell.length).getD j default ∈ zJ cell rank cell.length := by simp [List.getD, hj]
  obtain ⟨c, hc, e⟩ := List.mem_map.1 hm
  rw [← e]
  refine ⟨fun h => ?_, Nat.le_trans zvX hl⟩
  rw [List.take_length] at hc
  obtain ⟨i, hi, h2⟩ := zgx.1 (zlJ.1 hc)
  have : at0 rank i ∈ inC rank cell cell.length c := List.mem_map.2 ⟨i, List.mem_filter.2 ⟨List.mem_range.2 hi, by simpa using h2⟩, rfl⟩
  rw [show inC rank cell cell.length c = [] from h] at this
  cases this
theorem zBv {cell rank : List Int} : ∀ i j, i < (zJ cell rank cell.length).length → j < (zJ cell rank cell.length).length → ((zJ cell rank cell.length).getD i default).1 = ((zJ cell rank cell.length).getD j default).1 → i = j := by
  intro i j hi hj e
  have hn : ((zJ cell rank cell.length).map Prod.fst).Nodup := by rw [zr6]; exact znI
  have hi' : i < ((zJ cell rank cell.length).map Prod.fst).length := by simpa using hi
  have hj' : j < ((zJ cell rank cell.length).map Prod.fst).length := by simpa using hj
  refine (List.getElem_inj (h₀ := hi') (h₁ := hj') hn).1 ?_
  simpa [List.getD, hi, hj] using e
set_option maxHeartbeats 4000000 in
set_option maxRecDepth 100000 in
theorem zqS (b1 o1 cap1 b2 o2 cap2 n2 : Nat) (cell rank : List Int) (w : World) (hn : 0 < cell.length) (hn2 : cell.length ≤ n2) (hl : cell.length ≤ 536870912)
    (hT : ∀ b o, T b o → w.heap[b]? = some o) (hb1 : b1 < w.heap.size) (hb2 : b2 < w.heap.size)
    (hc1 : ∀ j, j < cell.length → w.cell? ⟨b1, o1 + j, none⟩ = some (.int .i64 (at0 cell j))) (hc2 : ∀ j, j < cell.length → w.cell? ⟨b2, o2 + j, none⟩ = some (.int .i64 (at0 rank j))) :
    Calls Tryz.prog 70 #[.slice (some ⟨b1, o1, none⟩) cell.length cap1, .slice (some ⟨b2, o2, none⟩) n2 cap2] w fun e w' => e = .returned (.map (some w.heap.size)) ∧ w.grownBy w' none ∧ ∃ es clock blk, Grp (O2 (w.heap.size + 1)) w' w.heap.size ((zJ cell rank cell.length).map fun p => (p.1, zeS p.2)) es clock blk := by
  have hmm := @run_makeMap Tryz.prog
  obtain ⟨i0, hi, hz0, hz1, hz2⟩ := info_parts zAE
  go_enter Tryz.func70, Tryz.ntmps70
  go_wp2
  go_loopw [13] (fun i wr => ∃ k : Nat, k ≤ cell.length ∧ i = .int .i64 k ∧ ∃ es clock blk, Grp (O1 (w.heap.size + 1)) wr w.heap.size (zJ cell rank k) es clock blk ∧ w.grownBy wr none ∧ w.heap.size + 1 ≤ wr.heap.size)
    (fun i _ => cell.length - (RowKit.intOf i).toNat)
  case atStart =>
    refine ⟨0, Nat.zero_le _, rfl, #[], 0, fun _ => 0, ?_, World.grownBy_alloc _ _ _, by simp⟩
    exact ⟨heap_alloc_new _ _, ⟨fun i j hi => by simp at hi, fun i hi => by simp at hi⟩, rfl, fun i hi => by simp [zJ, zB] at hi, fun i hi => by simp [zJ, zB] at hi, fun i j hi => by simp [zJ, zB] at hi⟩
  case round =>
    obtain ⟨k, hk, rfl, es, clock, blk, hG, hgr, hsz⟩ := hrel
    have hcx1 : k < cell.length → wr.cell? ⟨b1, o1 + k, none⟩ = some (.int .i64 (at0 cell k)) := fun hlt => (zdR (hgr.block b1 hb1 (by simp))).trans (hc1 k hlt)
    have hcx2 : k < cell.length → wr.cell? ⟨b2, o2 + k, none⟩ = some (.int .i64 (at0 rank k)) := fun hlt => (zdR (hgr.block b2 hb2 (by simp))).trans (hc2 k hlt)
    obtain ⟨v, zs, tgt, hvm, hlook, hown, hcase, hback⟩ := hG.look1 (Nat.lt_succ_self _) (at0 cell k)
    have hmw : w.heap.size < wr.heap.size := by omega
    have hzl : zs.length ≤ k := by
      rcases hcase with ⟨i, hi1, -, rfl, -⟩ | ⟨-, rfl, -⟩
      · have : (zJ cell rank k).getD i default ∈ zJ cell rank k := by simp [List.getD, hi1]
        obtain ⟨c, -, hc⟩ := List.mem_map.1 this
        rw [← hc]; exact zvX
      · simp
    have hvb : ∀ b, b < w.heap.size → some b ≠ v.ownBlock := fun b hb e => by have := (hown.lt b e.symm).1; omega
    have hik0 : (0 : Int) ≤ (k : Int) := Int.natCast_nonneg _
    have hik1 : k < cell.length → (k : Int) < (n2 : Int) := fun h => by omega
    have hbk : k < cell.length → ∀ w1 gg cap o, (wr.drew.alloc o).grownBy w1 v.ownBlock → w1.ownsRow (w.heap.size + 1) 3 1 (.slice (some ⟨gg, 0, none⟩) (zs.length + 1) cap) (zs.length + 1) (zs.map (Value.int .i64) ++ [.int .i64 (at0 rank k)]) → (v.ownBlock = some gg ∨ gg = wr.heap.size + 1) →
        ∃ w2 es' clock' blk', (Instr.mapUpdate 90 (.map (some w.heap.size)) (.int .i64 (at0 cell k)) (.slice (some ⟨gg, 0, none⟩) (zs.length + 1) cap)).run Tryz.prog w1 = .ok () w2 ∧ Grp (O1 (w.heap.size + 1)) w2 w.heap.size (zJ cell rank (k + 1)) es' clock' blk' ∧ w.grownBy w2 none ∧ w.heap.size + 1 ≤ w2.heap.size := by
      intro hlt w1 gg cap o hgrow hown1 hat
      have h1 : wr.drew.grownBy w1 v.ownBlock := (World.grownBy_alloc wr.drew _ _).trans hgrow
      obtain ⟨w2, es', clock', blk', q1, q2, q3⟩ := hback w1 _ _ ⟨h1.os, h1.tape, h1.output, h1.size, h1.block⟩ hown1 (hat.elim (fun h => .inl h.symm) (fun h => .inr (.inr ⟨gg, rfl, by omega⟩)))
      have hs1 : wr.heap.size ≤ w1.heap.size := h1.size
      have hs2 := q3.size
      refine ⟨w2, es', clock', blk', q1, ?_, ⟨q3.os.trans (h1.os.trans hgr.os), q3.tape.trans (h1.tape.trans hgr.tape), q3.output.trans (h1.output.trans hgr.output), by omega, fun b hb _ => ?_⟩, by omega⟩
      · rcases hcase with ⟨i, hi1, hi2, rfl, rfl⟩ | ⟨hn1, rfl, rfl⟩
        · rw [zCi hlt hi1 hi2]; exact q2
        · rw [zCh hlt hn1]; exact q2
      · exact (q3.block b (by omega) (by simp; omega)).trans ((h1.block b (show b < wr.heap.size by omega) (hvb b hb)).trans (hgr.block b hb (by simp)))
    have hrange := run_range_map (P := Tryz.prog) wr 90 3 28 w.heap.size es clock Tryz.underlying90 hG.heap
    go_wp2_with fail
    · clear hrange
      have hlt : k < cell.length := by assumption
      have hik1 := hik1 hlt
      have hl0 : (Instr.lookup 90 (.map (some w.heap.size)) (.int .i64 (at0 cell k)) false).run Tryz.prog wr.drew = .ok v wr.drew := hlook _ rfl
      have hl1 : ∀ o, (Instr.lookup 90 (.map (some w.heap.size)) (.int .i64 (at0 cell k)) false).run Tryz.prog (wr.drew.alloc o) = .ok v (wr.drew.alloc o) := fun o => hlook _ (heap_alloc_old _ _ hmw)
      have hb2r : b2 < wr.heap.size := by omega
      have hl2 : ∀ o, (Instr.lookup 90 (.map (some w.heap.size)) (.int .i64 (at0 cell k)) false).run Tryz.prog (wr.alloc o).drew = .ok v (wr.alloc o).drew := fun o => hlook _ (heap_alloc_old _ _ hmw)
      have hc2k := hcx2 hlt
      go_region_law
        ((refine step_append_lies _ (by rfl) _ _ _ (by rfl) (w.heap.size + 1) 3 i0 _ 1 8 Tryz.underlying28 hi hz0 hz1 hz2 rfl (by omega) v zs.length (zs.map (Value.int .i64)) (by rfl) (hown.drew.alloc _)
            ⟨wr.heap.size, 0, none⟩ 1 1 [.int .i64 (at0 rank k)] (by rfl) (by rfl) (World.news_of_block (cs := #[.int .i64 (at0 rank k)]) (t := 3) (fr := (0, 0)) (heap_alloc_new _ _)) (by simp [Value.oneCell'])
            (by omega) (by unfold maxLen; omega) (by omega) (by simp; omega) (wr.heap.size + 1) (by simp) ?_; intro gg cap w1 hown1 hgrow hat hlt1; obtain ⟨w2, es', clock', blk', hup, hG2, hgr2, hsz2⟩ := hbk hlt w1 gg cap _ hgrow hown1 hat))
      all_goals
        clear hup hl0 hl1 hl2
        go_wp2
        go_roundw
        case rel =>
          exact ⟨k + 1, by omega, by go_num, es', clock', blk', hG2, hgr2, hsz2⟩
        case measure => simp [RowKit.intOf]; omega
    · have hke : k = cell.length := by omega
      subst hke
      have hz : ∀ j, j < (zJ cell rank cell.length).length → ((zJ cell rank cell.length).getD j default).2 ≠ [] ∧ ((zJ cell rank cell.length).getD j default).2.length ≤ 536870912 := zCR hl
      have hk : ∀ i j, i < (zJ cell rank cell.length).length → j < (zJ cell rank cell.length).length → ((zJ cell rank cell.length).getD i default).1 = ((zJ cell rank cell.length).getD j default).1 → i = j := zBv
      have hM := Mid.start hG (fun j hj => (hz j hj).2) hgr (Nat.lt_succ_self _) hsz (Nat.le_refl _)
      generalize hborn : (fun j => (es.getD j default).born) = born at hM
      generalize hrr : wr.heap.size = r at hM
      clear hback hbk hlook hcase hrange hG
      rw [show decide (cell.length < cell.length) = false by simp]
      go_loopw [8] (fun _ wr2 => ∃ seen, Mid w w.heap.size (w.heap.size + 1) r clock (zJ cell rank cell.length) born seen wr2) (fun _ wr2 => zAe r (zJ cell rank cell.length).length born wr2)
      case atStart => exact ⟨#[], hM⟩
      case round =>
        obtain ⟨seen, hM2⟩ := hrel
        rcases hM2.round (T := T) 0 hT hk hz with ⟨hnext, hall⟩ | ⟨c, v, wn, hnext, hentry, hcalls⟩
        · go_wp2
          go_ret
          refine ⟨rfl, hM2.grown, ?_⟩
          obtain ⟨es2, blk2, h1, -⟩ := hM2.ex
          rw [zBt hall] at h1
          exact ⟨es2, _, blk2, h1⟩
        · go_wp2_with (first
            | (go_at_call 110; refine hcalls.mono ?_; rintro e w' ⟨rfl, hcomp⟩)
            | (go_at_call 111; refine hcomp.mono ?_; rintro e w'' ⟨v', rfl, wz, seen', hup, hMz, hlt⟩))
          go_roundw
          case rel => exact ⟨seen', hMz⟩
          case measure => rw [hMz.mu, hM2.mu]; exact hlt
end Go.Ab
namespace Go.Ab
open Go Go.Proofs Go.MapKept
section
variable {α : Type} [Inhabited α] [DecidableEq α]
theorem zg6 {d : Array α} {x : α} : ∀ {n : Nat}, x ∈ ddA d n ↔ ∃ i, i < n ∧ d[i]! = x
  | 0 => by simp [ddA]
  | n + 1 => by
    rw [ddA]
    constructor
    · intro h
      split at h
      · obtain ⟨i, h1, h2⟩ := zg6.1 h
        exact ⟨i, by omega, h2⟩
      · rcases List.mem_append.1 h with h | h
        · obtain ⟨i, h1, h2⟩ := zg6.1 h
          exact ⟨i, by omega, h2⟩
        · exact ⟨n, by omega, by simp at h; exact h.symm⟩
    · rintro ⟨i, h1, h2⟩
      split
      · rename_i hc
        by_cases e : i = n
        · subst e
          exact zg6.2 ⟨i - 1, by omega, by rw [← hc.2]; exact h2⟩
        · exact zg6.2 ⟨i, by omega, h2⟩
      · by_cases e : i = n
        · subst e; exact List.mem_append.2 (.inr (by simp [h2]))
        · exact List.mem_append.2 (.inl (zg6.2 ⟨i, by omega, h2⟩))
theorem zoe {lt : α → α → Bool} {d : Array α} (hs : ∀ i j, i < j → j < d.size → lt d[j]! d[i]! = false) (tri : ∀ x y, lt x y = false → lt y x = false → x = y) : ∀ {n : Nat}, n ≤ d.size → (ddA d n).Pairwise fun x y => lt x y = true
  | 0, _ => List.Pairwise.nil
  | n + 1, h => by
    rw [ddA]
    split
    · exact zoe hs tri (by omega)
    · rename_i hc
      refine List.pairwise_append.2 ⟨zoe hs tri (by omega), List.pairwise_singleton _ _, fun x hx y hy => ?_⟩
      obtain ⟨i, hi, rfl⟩ := zg6.1 hx
      have hy : y = d[n]! := by simpa using hy
      subst hy
      cases hb : lt d[i]! d[n]! with
      | true => rfl
      | false =>
        have e1 := tri _ _ hb (hs i n hi (by omega))
        refine absurd ⟨by omega, ?_⟩ hc
        by_cases e : i = n - 1
        · rw [← e]; exact e1.symm
        · refine (tri _ _ ?_ ?_)
          · exact hs (n - 1) n (by omega) (by omega)
          · rw [← e1]; exact hs i (n - 1) (by omega) (by omega)
theorem zuv {R : α → α → Prop} (irr : ∀ x, ¬R x x) (tr : ∀ x y z, R x y → R y z → R x z) : ∀ {l l' : List α}, l.Pairwise R → l'.Pairwise R → (∀ x, x ∈ l ↔ x ∈ l') → l = l'
  | [], [], _, _, _ => rfl
  | [], y :: l', _, _, h => by have := (h y).2 (by simp); cases this
  | x :: l, [], _, _, h => by have := (h x).1 (by simp); cases this
  | x :: l, y :: l', h1, h2, h => by
    obtain ⟨a1, a2⟩ := List.pairwise_cons.1 h1
    obtain ⟨b1, b2⟩ := List.pairwise_cons.1 h2
    have hxy : x = y := by
      rcases List.mem_cons.1 ((h x).1 (by simp)) with e | hx
      · exact e
      · rcases List.mem_cons.1 ((h y).2 (by simp)) with e | hy
        · exact e.symm
        · exact absurd (tr _ _ _ (a1 y hy) (b1 x hx)) (irr x)
    subst hxy
    rw [zuv irr tr a2 b2 fun z => ?_]
    constructor
    · intro hz
      rcases List.mem_cons.1 ((h z).1 (List.mem_cons_of_mem _ hz)) with rfl | h3
      · exact absurd (a1 z hz) (irr z)
      · exact h3
    · intro hz
      rcases List.mem_cons.1 ((h z).2 (List.mem_cons_of_mem _ hz)) with rfl | h3
      · exact absurd (b1 z hz) (irr z)
      · exact h3
end
theorem zuS {α : Type} [Inhabited α] {lt : α → α → Bool} (hS : Sort.SWO lt) (d : Array α) : (Sort.sort lt d).toList.Perm d.toList := by
  obtain ⟨⟨h1, -, h2⟩, -⟩ := Sort.sort_sorts lt hS d
  have e1 : (Sort.sort lt d).extract 0 d.size = Sort.sort lt d := by rw [← h1]; simp
  have e2 : d.extract 0 d.size = d := by simp
  rwa [e1, e2] at h2
theorem zv3 {α : Type} [Inhabited α] {d : Array α} {x : α} : x ∈ d.toList ↔ ∃ i, i < d.size ∧ d[i]! = x := by
  constructor
  · intro h
    obtain ⟨i, hi, rfl⟩ := List.getElem_of_mem h
    rw [Array.length_toList] at hi
    exact ⟨i, hi, by simp [hi]⟩
  · rintro ⟨i, hi, rfl⟩
    rw [show d[i]! = d.toList[i]'(by simpa using hi) by simp [hi]]
    exact List.getElem_mem _
theorem zvS (zs : List Int) : zeS zs = zlY zs := by
  have hS := Sort.swo_ltInt
  obtain ⟨⟨h1, -, -⟩, h3⟩ := Sort.sort_sorts Sort.ltInt hS zs.toArray
  refine zuv (R := (· < ·)) (fun x => Int.lt_irrefl x) (fun x y z => Int.lt_trans) ?_ zfZ fun x => ?_
  · have := zoe (lt := Sort.ltInt) (d := Sort.sort Sort.ltInt zs.toArray) (fun i j hij hj => h3 i j (Nat.zero_le _) hij (by rw [← h1]; exact hj)) (fun x y a b => by simp only [Sort.ltInt, decide_eq_false_iff_not] at a b; omega) (Nat.le_refl _)
    exact this.imp fun h => by simpa [Sort.ltInt] using h
  · rw [znF, zeS, zg6, ← zv3, (zuS hS zs.toArray).mem_iff]
end Go.Ab
namespace Go.Ab
open Go Go.Proofs Go.MapKept Go.RowKit Go.WideMaps Go.Maps
variable {T : Nat → Obj → Prop}
set_option maxRecDepth 100000 in
theorem zqQ (a : Option Addr) (cap : Nat) (vb : Value) (w : World) :
    Calls Tryz.prog 70 #[.slice a 0 cap, vb] w fun e w' => e = .returned (.map (some w.heap.size)) ∧ w.grownBy w' none ∧ w'.heap[w.heap.size]? = some (.map #[] 0) := by
  have hmm := @run_makeMap Tryz.prog
  have hrange := run_range_map (P := Tryz.prog) (w.alloc (.map #[] 0)) 90 3 28 w.heap.size #[] 0 Tryz.underlying90 (heap_alloc_new _ _)
  have hnext : (Instr.next (.pointer (some ⟨w.heap.size + 1, 0, none⟩)) false 0).run Tryz.prog ((w.alloc (.map #[] 0)).alloc (.mapIter (some w.heap.size) 0 #[] 0)) = .ok (.tuple #[.bool false]) ((w.alloc (.map #[] 0)).alloc (.mapIter (some w.heap.size) 0 #[] 0)) := by
    rcases run_next_at (P := Tryz.prog) ((w.alloc (.map #[] 0)).alloc (.mapIter (some w.heap.size) 0 #[] 0)) 0 (w.heap.size + 1) w.heap.size 0 0 #[] #[] 0 (by have := heap_alloc_new (w.alloc (.map #[] 0)) (.mapIter (some w.heap.size) 0 #[] 0); simpa using this)
      ((heap_alloc_old _ _ (by simp)).trans (heap_alloc_new _ _)) (by simp) (Nat.le_refl _) with ⟨-, h⟩ | ⟨e, he, -⟩
    · exact h
    · simp [leftOf] at he
  simp only [show (w.alloc (.map #[] 0)).heap.size = w.heap.size + 1 by simp] at hrange
  go_enter Tryz.func70, Tryz.ntmps70
  go_wp2
  refine wp_loop_rounds 1 ?_
  rw [rounds_succ]
  go_wp2
  refine wp_loop_rounds 1 ?_
  rw [rounds_succ]
  go_wp2
  go_ret
  exact ⟨rfl, (World.grownBy_alloc _ _ _).trans (World.grownBy_alloc _ _ _), (heap_alloc_old _ _ (by simp)).trans (heap_alloc_new _ _)⟩
theorem zlP : zds T := by
  intro cell rank hle h64
  refine zjb ⟨_, Tryz.func70, by decide, rfl⟩ fun B σ a w args hT hS hsz hargs => ?_
  have ha : args = #[args.getD 0 undef, args.getD 1 undef] := by
    apply Array.ext
    · simpa using hsz
    · intro i h1 h2
      match i, h2 with
      | 0, _ => simp [Array.getD, show 0 < args.size by omega]
      | 1, _ => simp [Array.getD, show 1 < args.size by omega]
  have h0 := hargs 0 (by simp)
  have h1 := hargs 1 (by simp)
  have fin : ∀ (e : Ending) (w' : World) (es : Array MapEntry) (clock : Nat) (blk : Nat → Nat), e = .returned (.map (some w.heap.size)) → w.grownBy w' none → Grp (O2 (w.heap.size + 1)) w' w.heap.size ((zJ cell rank cell.length).map fun p => (p.1, zeS p.2)) es clock blk →
      ∃ v' σ', e = .returned v' ∧ Sim B (fun _ => .undef) (zq []) (fun i => ([] : List (Option Ob)).length ≤ i) σ' a w' ∧ VSim σ' (zq []) (fun i => ([] : List (Option Ob)).length ≤ i) (B.X σ' (zq [])) w' (.d (.map (zhr cell rank))) v' ∧
        ∀ i ob, ([] : List Ob)[i]? = some ob → zq [] i = none ∨ (σ' i = σ i ∧ ∃ ob', zq [] i = some ob' ∧ zbB ob ob') := by
    intro e w' es clock blk he hg hG
    have hX : ∀ b, w.heap.size ≤ b → ¬B.X σ (zq []) b := by
      rintro b hb (h | ⟨id, h, -⟩)
      · have := hS.olt b h; omega
      · exact h (by simp [zq])
    have hgl : ((zJ cell rank cell.length).map fun p => (p.1, zeS p.2)).length = (zB cell).length := by simp [zJ]
    have hgd : ∀ i, i < (zB cell).length → ((zJ cell rank cell.length).map fun p => (p.1, zeS p.2)).getD i default = ((zB cell).getD i 0, zai cell rank ((zB cell).getD i 0)) := by
      intro i hi
      simp only [zJ, List.take_length, List.map_map, List.getD, List.getElem?_map, List.getElem?_eq_getElem hi, Option.map_some, Option.getD_some, Function.comp, zvS]
      rfl
    refine ⟨_, σ, he, ⟨fun t => .undef _, fun id ob h => by simp [zq] at h, fun i j b h => absurd (by simp [zq]) h, fun id b h => absurd (by simp [zq]) h, fun _ _ => by simp [zq], ?_, hS.nt, fun b hb => Nat.lt_of_lt_of_le (hS.olt b hb) hg.size, fun b o hp => (hg.block b (zg (hS.pins b o hp)) (by simp)).trans (hS.pins b o hp), fun id l h => by simp [zq] at h⟩, .d _ _ ?_, fun i ob h => by simp at h⟩
    · refine ⟨hg.os.trans hS.kept.os, hg.tape.trans hS.kept.tape, hg.output.trans hS.kept.output, Nat.le_trans hS.kept.size hg.size, fun b hb hR => (hg.block b (Nat.lt_of_lt_of_le hb hS.kept.size) (by simp)).trans (hS.kept.block b hb hR), fun b c e h => ?_⟩
      obtain ⟨c', h1, h2⟩ := hS.kept.cells b c e h
      exact ⟨c', (hg.block b (zg h1) (by simp)).trans h1, h2⟩
    · refine .map _ _ es clock (hX _ (Nat.le_refl _)) (zg hG.heap) hG.heap (by rw [hG.size, hgl]; simp) hG.st (fun i hi => ?_) (fun i hi => ?_)
      · rw [List.length_map] at hi
        rw [hG.key i (by rw [hgl]; exact hi), hgd i hi, show ((zB cell).map fun c => (D.int .i64 c, dI (zai cell rank c))).getD i (.nil, .nil) = (D.int .i64 ((zB cell).getD i 0), dI (zai cell rank ((zB cell).getD i 0))) by simp [List.getD, hi]]
        exact .int .i64 _ (by simp)
      · rw [List.length_map] at hi
        have hv := hG.val i (by rw [hgl]; exact hi)
        rw [hgd i hi] at hv
        rw [show ((zB cell).map fun c => (D.int .i64 c, dI (zai cell rank c))).getD i (.nil, .nil) = (D.int .i64 ((zB cell).getD i 0), dI (zai cell rank ((zB cell).getD i 0))) by simp [List.getD, hi]]
        simp only
        generalize zai cell rank ((zB cell).getD i 0) = zs at hv
        replace hv : O2 (w.heap.size + 1) w' (es.getD i default).val (blk i) zs := hv
        obtain ⟨cap, c, e, q1, q2, q3, q4, q5, q6, q7⟩ := hv
        rw [q1]
        have hl : (zs.map (D.int .i64)).length = zs.length := List.length_map _
        rw [← hl]
        refine .arr 1 (zs.map (D.int .i64)) (blk i) 0 cap (fun j => c.getD j undef) (hX _ (by omega)) (zg q3) (fun x hx => ?_) (by omega) (by omega) (fun j hj => ?_) (fun j k hj hk => ?_)
        · obtain ⟨y, -, rfl⟩ := List.mem_map.1 hx; rfl
        · have hjc : j < c.size := by omega
          simp [World.cell?, q3, Array.getD_eq_getD_getElem?, hjc]
        · have : k = 0 := by omega
          subst this
          rw [hl] at hj
          rw [Nat.mul_one, Nat.add_zero]
          rw [q7 j hj, show (zs.map (D.int .i64)).getD j .nil = .int .i64 (zs.getD j 0) by simp [List.getD, hj]]
          exact .int .i64 _ (by simp)
  have read : ∀ (xs : List Int) (v : Value), xs ≠ [] → zi (B.X σ (zq [])) w (dI xs) v → ∃ b off cap, v = .slice (some ⟨b, off, none⟩) xs.length cap ∧ b < w.heap.size ∧ ∀ j, j < xs.length → w.cell? ⟨b, off + j, none⟩ = some (.int .i64 (at0 xs j)) := by
    intro xs v hne hd
    unfold dI at hd
    have hl : (xs.map (D.int .i64)).length = xs.length := List.length_map _
    generalize hys : xs.map (D.int .i64) = ys at hd hl
    cases hd with
    | arr0 s a cap => exact absurd (List.eq_nil_of_length_eq_zero (by simpa using hl.symm)) hne
    | arr s _ b off cap cv g1 g2 g3 g4 g5 g6 g7 =>
      refine ⟨b, off, cap, by rw [hl], g2, fun j hj => ?_⟩
      have h6 := g6 j (by omega)
      have h7 := g7 j 0 (by omega) (by omega)
      rw [Nat.mul_one, Nat.add_zero, ← hys, show (xs.map (D.int .i64)).getD j .nil = .int .i64 (at0 xs j) by simp [List.getD, at0, hj]] at h7
      rw [h6]
      generalize cv j = z at h7
      cases h7; rfl
  rw [ha]
  have e0 : ([V.d (dI cell), V.d (dI rank)].getD 0 .undef) = .d (dI cell) := rfl
  have e1 : ([V.d (dI cell), V.d (dI rank)].getD 1 .undef) = .d (dI rank) := rfl
  rw [e0] at h0
  rw [e1] at h1
  generalize args.getD 0 undef = va at h0
  generalize args.getD 1 undef = vb at h1
  cases h0 with
  | d _ _ hd0 =>
  cases h1 with
  | d _ _ hd1 =>
  by_cases hc : cell = []
  · subst hc
    have hv : ∃ a' cap, va = .slice a' 0 cap := by
      unfold dI at hd0
      cases hd0 with
      | arr0 s a' cap => exact ⟨a', cap, rfl⟩
      | arr s _ b off cap cv => exact ⟨_, cap, rfl⟩
    obtain ⟨a', cap, rfl⟩ := hv
    refine (zqQ a' cap vb w).mono ?_
    rintro e w' ⟨he, hg, hh⟩
    exact fin e w' #[] 0 (fun _ => 0) he hg ⟨hh, ⟨fun i j hi => by simp at hi, fun i hi => by simp at hi⟩, rfl, fun i hi => by simp [zJ, zB] at hi, fun i hi => by simp [zJ, zB] at hi, fun i j hi => by simp [zJ, zB] at hi⟩
  · have hpos : 0 < cell.length := List.length_pos_iff.2 hc
    obtain ⟨b1, o1, cap1, rfl, l1, c1⟩ := read cell va hc hd0
    obtain ⟨b2, o2, cap2, rfl, l2, c2⟩ := read rank vb (fun e => by rw [e] at hle; simp at hle; exact hc (List.eq_nil_of_length_eq_zero (by simp [hle]))) hd1
    refine (zqS (T := T) b1 o1 cap1 b2 o2 cap2 rank.length cell rank w hpos hle (by omega) (fun b o ht => hS.pins b o (hT b o ht)) l1 l2 c1 (fun j hj => c2 j (by omega))).mono ?_
    rintro e w' ⟨he, hg, es, clock, blk, hG⟩
    exact fin e w' es clock blk he hg hG
end Go.Ab
namespace Go.Ab
open Go Go.Proofs
theorem zqH {α:Type} [DecidableEq α] : ∀ {l l':List α},l.Nodup→(∀ x∈l,x∈l')→l.length≤l'.length
 | [],_,_,_=>Nat.zero_le _
 | x::t,l',h,hs=>by
  obtain ⟨h1,h2⟩:=List.nodup_cons.1 h
  have hx:=hs x (by simp)
  have:=zqH (l:=t) (l':=l'.erase x) h2 fun y hy=>(List.mem_erase_of_ne (fun e=>h1 (by rw [← e];exact hy))).2 (hs y (List.mem_cons_of_mem _ hy))
  rw [List.length_erase_of_mem hx] at this
  have hp:=List.length_pos_of_mem hx
  simp only [List.length_cons];omega
theorem zeh {zs:List (BitVec 64)} {x:BitVec 64} : x∈zfK zs↔x∈zs:=by
 rw [zfK,zg6,← zv3,(zuS zwk zs.toArray).mem_iff]
theorem zm9 (zs:List (BitVec 64)):(zfK zs).Nodup:=by
 obtain ⟨⟨h1,-,-⟩,h3⟩:=Sort.sort_sorts ltU zwk zs.toArray
 have:=zoe (lt:=ltU) (d:=Sort.sort ltU zs.toArray) (fun i j hij hj=>h3 i j (Nat.zero_le _) hij (by rw [← h1];exact hj)) (fun x y a b=>by
  simp only [ltU,decide_eq_false_iff_not] at a b
  exact BitVec.eq_of_toNat_eq (by omega)) (Nat.le_refl _)
 exact this.imp fun h e=>by subst e;simp [ltU] at h
def rk (r:List (BitVec 64)) (w:Nat):Nat:=(zfK (zU r w r.length)).length
theorem zfc {r:List (BitVec 64)} {w n:Nat} {x:BitVec 64} : x∈zU r w n ↔ ∃ v,v < n∧rb r w v=true∧rb r v w=false∧uAt r v=x:=by
 unfold zU
 rw [List.mem_map]
 constructor
 ·rintro ⟨v,h,rfl⟩
  rw [List.mem_filter,List.mem_range] at h
  simp only [Bool.and_eq_true,Bool.not_eq_true'] at h
  exact ⟨v,h.1,h.2.1,h.2.2,rfl⟩
 ·rintro ⟨v,h1,h2,h3,rfl⟩
  exact ⟨v,List.mem_filter.2 ⟨List.mem_range.2 h1,by simp [h2,h3]⟩,rfl⟩
theorem zCW {r:List (BitVec 64)} {w v:Nat} (h : ∀ x,x∈zU r w r.length→x∈zU r v r.length):rk r w≤rk r v :=
 zqH (zm9 _) fun x hx=>zeh.2 (h x (zeh.1 hx))
theorem zCC {r:List (BitVec 64)} {w v:Nat} {y:BitVec 64} (h : ∀ x,x∈zU r w r.length→x∈zU r v r.length) (h1:y∈zU r v r.length) (h2:y ∉ zU r w r.length):rk r w < rk r v:=by
 have:=zqH (l:=y::zfK (zU r w r.length)) (l':=zfK (zU r v r.length)) (List.nodup_cons.2 ⟨fun h=>h2 (zeh.1 h),zm9 _⟩) fun x hx=>by
  rcases List.mem_cons.1 hx with rfl|hx
  ·exact zeh.2 h1
  ·exact zeh.2 (h x (zeh.1 hx))
 exact this
theorem zBJ {r:List (BitVec 64)} {w v:Nat} {y:BitVec 64} (h : ∀ x,x∈zU r w r.length→x=y∨x∈zU r v r.length):rk r w≤rk r v+1:=by
 have:=zqH (l:=zfK (zU r w r.length)) (l':=y::zfK (zU r v r.length)) (zm9 _) fun x hx=>by
  rcases h x (zeh.1 hx) with rfl|h
  ·simp
  ·exact List.mem_cons_of_mem _ (zeh.2 h)
 simpa [rk] using this
theorem zCm {α:Type} (f:α→Nat) : ∀ {l:List α},l≠[] → ∃ x∈l,∀ y∈l,f y≤f x
 | [],h=>absurd rfl h
 | [x],_=>⟨x,by simp,by simp⟩
 | x::y::t,_=>by
  obtain ⟨z,h1,h2⟩:=zCm f (l:=y::t) (by simp)
  by_cases hz:f x≤f z
  ·refine ⟨z,List.mem_cons_of_mem _ h1,fun u hu=>?_⟩
   rcases List.mem_cons.1 hu with rfl|hu
   ·exact hz
   ·exact h2 u hu
  ·refine ⟨x,by simp,fun u hu=>?_⟩
   rcases List.mem_cons.1 hu with rfl|hu
   ·exact Nat.le_refl _
   ·have:=h2 u hu;omega
def cmp (r:List (BitVec 64)) (w v:Nat):Bool:=rb r w v||rb r v w
structure zfm (r:List (BitVec 64)):Prop where
 len:r.length≤64
 ins : ∀ w v,rb r w v=true→v < r.length
 refl : ∀ w,w < r.length→rb r w w=true
 tr : ∀ w u v,rb r w u=true→rb r u v=true→rb r w v=true
 conn : ∀ w v i,cmp r w v=true→cmp r w i=true→cmp r v i=true
theorem zqT {r:List (BitVec 64)} {w v:Nat} (h:rb r w v=true):w < r.length:=by
 apply Classical.byContradiction
 intro hn
 rw [zkl (by omega)] at h;cases h
theorem zk4 {r:List (BitVec 64)} {w v:Nat} : cmp r w v=cmp r v w:=by unfold cmp;exact Bool.or_comm _ _
theorem zot {r:List (BitVec 64)} {w i:Nat} : (uAt r w).getLsbD i=rb r w i:=rfl
theorem zCE {r:List (BitVec 64)} {w v:Nat} (h : ∀ i,rb r w i=rb r v i):uAt r w=uAt r v:=by
 apply BitVec.eq_of_getLsbD_eq
 intro i _
 exact h i
namespace zfm
variable {r:List (BitVec 64)} (h:zfm r)
include h
theorem cmp_refl {w:Nat} (hw:w < r.length):cmp r w w=true:=by simp [cmp,h.refl w hw]
theorem cmp_lt {w v:Nat} (hc:cmp r w v=true):w < r.length∧v < r.length:=by
 simp only [cmp,Bool.or_eq_true] at hc
 rcases hc with hc|hc
 ·exact ⟨zqT hc,h.ins _ _ hc⟩
 ·exact ⟨h.ins _ _ hc,zqT hc⟩
theorem cmp_tr {w v i:Nat} (h1:cmp r w v=true) (h2:cmp r v i=true):cmp r w i=true:=h.conn v w i (by rw [zk4];exact h1) h2
theorem eq_rows {w v:Nat} (h1:rb r w v=true) (h2:rb r v w=true):uAt r w=uAt r v:=zCE fun i=>by
 rw [Bool.eq_iff_iff];exact ⟨h.tr _ _ _ h2,h.tr _ _ _ h1⟩
theorem below_sub {w v:Nat} (h1:rb r w v=true) : ∀ x,x∈zU r v r.length→x∈zU r w r.length:=by
 intro x hx
 obtain ⟨u,h2,h3,h4,rfl⟩:=zfc.1 hx
 refine zfc.2 ⟨u,h2,h.tr _ _ _ h1 h3,?_,rfl⟩
 cases hb:rb r u w with
 | false=>rfl
 | true=>rw [h.tr _ _ _ hb h1] at h4;cases h4
theorem rk_mono {w v:Nat} (h1:rb r w v=true):rk r v≤rk r w:=zCW (h.below_sub h1)
theorem rk_strict {w v:Nat} (h1:rb r w v=true) (h2:rb r v w=false):rk r v < rk r w:=by
 refine zCC (y:=uAt r v) (h.below_sub h1) (zfc.2 ⟨v,h.ins _ _ h1,h1,h2,rfl⟩) fun hm=>?_
 obtain ⟨u,h3,h4,h5,h6⟩:=zfc.1 hm
 have h7:rb r u v=true:=by rw [← zot,h6,zot];exact h.refl v (h.ins _ _ h1)
 rw [h7] at h5;cases h5
theorem rk_iff {w v:Nat} (hc:cmp r w v=true):rk r v≤rk r w↔rb r w v=true:=by
 constructor
 ·intro hk
  cases hb:rb r w v with
  | true=>rfl
  | false =>
   simp only [cmp,hb,Bool.false_or] at hc
   have:=h.rk_strict hc hb
   omega
 ·exact h.rk_mono
theorem rk_gap {w:Nat} (hw:w < r.length):rk r w=0 ∨ ∃ v,rb r w v=true∧rk r v+1=rk r w:=by
 by_cases he:((List.range r.length).filter fun v=>rb r w v && !rb r v w)=[]
 ·left
  have h0:zU r w r.length=[]:=by unfold zU;rw [he];rfl
  have h1:zfK (zU r w r.length)=[]:=List.eq_nil_iff_forall_not_mem.2 fun x hx=>by
   rw [zeh,h0] at hx;cases hx
  unfold rk
  rw [h1];rfl
 ·right
  obtain ⟨v,h1,h2⟩:=zCm (rk r) he
  rw [List.mem_filter,List.mem_range] at h1
  simp only [Bool.and_eq_true,Bool.not_eq_true'] at h1
  obtain ⟨h3,h4,h5⟩:=h1
  refine ⟨v,h4,?_⟩
  have h6:=h.rk_strict h4 h5
  have h7:rk r w≤rk r v+1:=zBJ (y:=uAt r v) fun x hx=>by
   obtain ⟨u,a1,a2,a3,rfl⟩:=zfc.1 hx
   have hm:=h2 u (List.mem_filter.2 ⟨List.mem_range.2 a1,by simp [a2,a3]⟩)
   have hc:cmp r v u=true:=h.conn w v u (by simp [cmp,h4]) (by simp [cmp,a2])
   have hvu:=(h.rk_iff hc).1 hm
   cases hb:rb r u v with
   | true=>left;exact h.eq_rows hb hvu
   | false=>right;exact zfc.2 ⟨u,a1,hvu,hb,rfl⟩
  omega
end zfm
end Go.Ab
