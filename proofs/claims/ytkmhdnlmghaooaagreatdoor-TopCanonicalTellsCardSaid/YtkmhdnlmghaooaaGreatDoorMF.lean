/- A part of the proofs of this seat: functions and their contracts. -/
import Derived.Test.YtkmhdnlmghaooaaGreatDoorME
import Derived.Shelf.Strconv.Itoa0
import Derived.Laws.IdiomStrings
import Derived.WalkKit
import Derived.CellFam
import Derived.Sort.Row
set_option linter.unusedVariables false
set_option linter.unusedSimpArgs false
set_option linter.unusedSectionVars false
namespace Go.Ab
open Go Go.Proofs
set_option maxRecDepth 10000
set_option maxHeartbeats 4000000
set_option maxHeartbeats 40000000
variable {T:Nat→Obj→Prop}
theorem zD2 {f:List Nd} (hL:f.length≤1000) {k:Nat} {n:Nd} (hn:f[k]? = some n) (hfd:zt (zG (FSt.done ⟨[],[]⟩)) (.int .i64 (k:Int))=some none) (hu:Fn Tryz.prog T z8 [.d (.int .i64 n.op)] [] (.d (.tup [.agg [.bool false,.bool false,.bool (zag n.op),.bool (zT n.op),.bool (zY n.op),.bool (zU n.op),.int .i64 (zbf n.op)],.bool (zdl n.op)])) []) (hfn:zt (zaj (FSt.out ⟨[],[]⟩) 0) (dNd n)=some none) :
  Fn Tryz.prog T zk (zbk (k:Int)) (zbj f (.nils 6) ⟨[],[]⟩) (.d (.int .i64 ((((FSt.out ⟨[],[]⟩).map dNd).length:Nat):Int))) [some (.box [.map 5]),some (.box [.d (dF f)]),some (.box [za9]),some (.box [.map 6]),some (.box [.own 7]),some (.map (zG (FSt.done ⟨[],[]⟩)++[(.int .i64 (k:Int),.int .i64 ((((FSt.out ⟨[],[]⟩).map dNd).length:Nat):Int))])),some (.map (zaj (FSt.out ⟨[],[]⟩) 0++[(dNd n,.int .i64 ((((FSt.out ⟨[],[]⟩).map dNd).length:Nat):Int))])),some (.row 6 ((FSt.out ⟨[],[]⟩).map dNd++[dNd n]))]:=by
 refine zP zn zV (by show 6≤68;decide) _ (fun e env mem n h=>h) ?_
 (repeat' ((conv=>whnf);first|refine vA ?_|refine vH ?_|refine vT ?_|refine vN ‹_› ?_|(refine vP ?_ ?_;·(simp only [vM] at *;omega))|refine yD hu (by (repeat refine ⟨⟨rfl,rfl⟩,?_⟩);rfl) rfl ?_|refine zaX.mk _ ‹_› ?_));all_goals try conv=>whnf
 refine ⟨trivial,_,[(0,0),(1,1),(2,2),(3,3),(4,4),(5,5),(6,6),(7,10)],[],rfl,.inl (by (repeat' exact rfl)),⟨by rfl,by rfl,by rfl,trivial,by (repeat' first|exact trivial|exact rfl|refine And.intro ?_ ?_|refine ⟨_,rfl,?_⟩|exact of_decide_eq_true rfl)⟩,by (repeat' first|exact trivial|exact rfl|refine And.intro ?_ ?_|refine ⟨_,rfl,?_⟩)⟩
end Go.Ab
namespace Go.Ab
open Go Go.Proofs
set_option maxRecDepth 10000
set_option maxHeartbeats 4000000
set_option maxHeartbeats 40000000
variable {T:Nat→Obj→Prop}
theorem zD3 {f:List Nd} (hL:f.length≤1000) {k:Nat} {n:Nd} (hn:f[k]? = some n) (hfd:zt (zG (FSt.done ⟨[],[]⟩)) (.int .i64 (k:Int))=some none) (hu:Fn Tryz.prog T z8 [.d (.int .i64 n.op)] [] (.d (.tup [.agg [.bool true,.bool false,.bool (zag n.op),.bool (zT n.op),.bool (zY n.op),.bool (zU n.op),.int .i64 (zbf n.op)],.bool (zdl n.op)])) []) {r1:Nat} {s1:FSt} (hl1:s1.out.length≤1000) (c1:Fn Tryz.prog T zk (zbk n.x) (zbj f (.nils 6) ⟨[],[]⟩) (.d (.int .i64 (r1:Int))) (zft f s1)) (hfd1:zt (zG s1.done) (.int .i64 (k:Int))=some none) {j:Nat} (hfn:zt (zaj s1.out 0) (dNd ⟨n.op,n.i,n.e,n.g,(r1:Int),n.y⟩)=some (some (.int .i64 (j:Int)))) :
  Fn Tryz.prog T zk (zbk (k:Int)) (zbj f (.nils 6) ⟨[],[]⟩) (.d (.int .i64 (j:Int))) [some (.box [.map 5]),some (.box [.d (dF f)]),some (.box [za9]),some (.box [.map 6]),some (.box [.own 7]),some (.map (zG s1.done++[(.int .i64 (k:Int),.int .i64 (j:Int))])),some (.map (zaj s1.out 0)),some (.row 6 (s1.out.map dNd))]:=by
 refine zP zn zV (by show 6≤68;decide) _ (fun e env mem n h=>h) ?_
 (repeat' ((conv=>whnf);first|refine vA ?_|refine vG ?_|refine vT ?_|refine vN ‹_› ?_|refine yD hu (by (repeat refine ⟨⟨rfl,rfl⟩,?_⟩);rfl) rfl ?_|refine zaX.mk _ ‹_› ?_));all_goals try conv=>whnf
 refine zK.objsE [0,1,2,3,4,5,6] (c1) (by (repeat' first|exact rfl|refine And.intro ?_ ?_|refine ⟨_,rfl,?_⟩)) (by (repeat' first|exact rfl|refine And.intro ?_ ?_|refine ⟨_,rfl,?_⟩)) (by rfl) (by kernel_rfl) (by simp) [(0,some (.box [.map 5])),(1,some (.box [.d (dF f)])),(2,some (.box [za9])),(3,some (.box [.map 6])),(4,some (.box [.own 9])),(5,some (.map (zG s1.done))),(6,some (.map (zaj s1.out 0))),(9,some (.row 6 (s1.out.map dNd)))] rfl ?_
 (repeat' ((conv=>whnf);first|refine vA ?_|refine vE ?_|refine vG ?_|refine vH ?_|refine vT ?_|refine zaX.mk _ ‹_› ?_));all_goals try conv=>whnf
 refine ⟨trivial,_,[(0,0),(1,1),(2,2),(3,3),(4,4),(5,5),(6,6),(7,9)],[],rfl,.inl (by (repeat' exact rfl)),⟨by rfl,by rfl,by rfl,trivial,by (repeat' first|exact trivial|exact rfl|refine And.intro ?_ ?_|refine ⟨_,rfl,?_⟩|exact of_decide_eq_true rfl)⟩,by (repeat' first|exact trivial|exact rfl|refine And.intro ?_ ?_|refine ⟨_,rfl,?_⟩)⟩
theorem zD4 {f:List Nd} (hL:f.length≤1000) {k:Nat} {n:Nd} (hn:f[k]? = some n) (hfd:zt (zG (FSt.done ⟨[],[]⟩)) (.int .i64 (k:Int))=some none) (hu:Fn Tryz.prog T z8 [.d (.int .i64 n.op)] [] (.d (.tup [.agg [.bool true,.bool false,.bool (zag n.op),.bool (zT n.op),.bool (zY n.op),.bool (zU n.op),.int .i64 (zbf n.op)],.bool (zdl n.op)])) []) {r1:Nat} {s1:FSt} (hl1:s1.out.length≤1000) (c1:Fn Tryz.prog T zk (zbk n.x) (zbj f (.nils 6) ⟨[],[]⟩) (.d (.int .i64 (r1:Int))) (zft f s1)) (hfd1:zt (zG s1.done) (.int .i64 (k:Int))=some none) (hfn:zt (zaj s1.out 0) (dNd ⟨n.op,n.i,n.e,n.g,(r1:Int),n.y⟩)=some none) :
  Fn Tryz.prog T zk (zbk (k:Int)) (zbj f (.nils 6) ⟨[],[]⟩) (.d (.int .i64 (((s1.out.map dNd).length:Nat):Int))) [some (.box [.map 5]),some (.box [.d (dF f)]),some (.box [za9]),some (.box [.map 6]),some (.box [.own 7]),some (.map (zG s1.done++[(.int .i64 (k:Int),.int .i64 (((s1.out.map dNd).length:Nat):Int))])),some (.map (zaj s1.out 0++[(dNd ⟨n.op,n.i,n.e,n.g,(r1:Int),n.y⟩,.int .i64 (((s1.out.map dNd).length:Nat):Int))])),some (.row 6 (s1.out.map dNd++[dNd ⟨n.op,n.i,n.e,n.g,(r1:Int),n.y⟩]))]:=by
 refine zP zn zV (by show 6≤68;decide) _ (fun e env mem n h=>h) ?_
 (repeat' ((conv=>whnf);first|refine vA ?_|refine vG ?_|refine vT ?_|refine vN ‹_› ?_|refine yD hu (by (repeat refine ⟨⟨rfl,rfl⟩,?_⟩);rfl) rfl ?_|refine zaX.mk _ ‹_› ?_));all_goals try conv=>whnf
 refine zK.objsE [0,1,2,3,4,5,6] (c1) (by (repeat' first|exact rfl|refine And.intro ?_ ?_|refine ⟨_,rfl,?_⟩)) (by (repeat' first|exact rfl|refine And.intro ?_ ?_|refine ⟨_,rfl,?_⟩)) (by rfl) (by kernel_rfl) (by simp) [(0,some (.box [.map 5])),(1,some (.box [.d (dF f)])),(2,some (.box [za9])),(3,some (.box [.map 6])),(4,some (.box [.own 9])),(5,some (.map (zG s1.done))),(6,some (.map (zaj s1.out 0))),(9,some (.row 6 (s1.out.map dNd)))] rfl ?_
 (repeat' ((conv=>whnf);first|refine vA ?_|refine vH ?_|refine vJ fun hg=>?_|refine vT ?_|(refine vP ?_ ?_;·(simp only [vM] at *;omega))|refine zaX.mk _ ‹_› ?_));all_goals try conv=>whnf
 refine ⟨trivial,_,[(0,0),(1,1),(2,2),(3,3),(4,4),(5,5),(6,6),(7,11)],[],rfl,.inl (by (repeat' exact rfl)),⟨by rfl,by rfl,by rfl,trivial,by (repeat' first|exact trivial|exact rfl|refine And.intro ?_ ?_|refine ⟨_,rfl,?_⟩|exact of_decide_eq_true rfl)⟩,by (repeat' first|exact trivial|exact rfl|refine And.intro ?_ ?_|refine ⟨_,rfl,?_⟩)⟩
end Go.Ab
namespace Go.Ab
open Go Go.Proofs
set_option maxRecDepth 10000
set_option maxHeartbeats 4000000
set_option maxHeartbeats 40000000
variable {T:Nat→Obj→Prop}
theorem zD5 {f:List Nd} (hL:f.length≤1000) {k:Nat} {n:Nd} (hn:f[k]? = some n) (hfd:zt (zG (FSt.done ⟨[],[]⟩)) (.int .i64 (k:Int))=some none) (hu:Fn Tryz.prog T z8 [.d (.int .i64 n.op)] [] (.d (.tup [.agg [.bool true,.bool true,.bool (zag n.op),.bool (zT n.op),.bool (zY n.op),.bool (zU n.op),.int .i64 (zbf n.op)],.bool (zdl n.op)])) []) {r1:Nat} {s1:FSt} (hl1:s1.out.length≤1000) (c1:Fn Tryz.prog T zk (zbk n.x) (zbj f (.nils 6) ⟨[],[]⟩) (.d (.int .i64 (r1:Int))) (zft f s1)) (hfd1:zt (zG s1.done) (.int .i64 (k:Int))=some none) {r2:Nat} {s2:FSt} (hl2:s2.out.length≤1000) (c2:Fn Tryz.prog T zk (zbk n.y) (zbj f (.own 7) s1++[.row 6 (s1.out.map dNd)]) (.d (.int .i64 (r2:Int))) (zd9 f s2)) (hfd2:zt (zG s2.done) (.int .i64 (k:Int))=some none) {j:Nat} (hfn:zt (zaj s2.out 0) (dNd ⟨n.op,n.i,n.e,n.g,(r1:Int),(r2:Int)⟩)=some (some (.int .i64 (j:Int)))) :
  Fn Tryz.prog T zk (zbk (k:Int)) (zbj f (.nils 6) ⟨[],[]⟩) (.d (.int .i64 (j:Int))) [some (.box [.map 5]),some (.box [.d (dF f)]),some (.box [za9]),some (.box [.map 6]),some (.box [.own 7]),some (.map (zG s2.done++[(.int .i64 (k:Int),.int .i64 (j:Int))])),some (.map (zaj s2.out 0)),some (.row 6 (s2.out.map dNd))]:=by
 refine zP zn zV (by show 6≤68;decide) _ (fun e env mem n h=>h) ?_
 (repeat' ((conv=>whnf);first|refine vA ?_|refine vG ?_|refine vT ?_|refine vN ‹_› ?_|refine yD hu (by (repeat refine ⟨⟨rfl,rfl⟩,?_⟩);rfl) rfl ?_|refine zaX.mk _ ‹_› ?_));all_goals try conv=>whnf
 refine zK.objsE [0,1,2,3,4,5,6] (c1) (by (repeat' first|exact rfl|refine And.intro ?_ ?_|refine ⟨_,rfl,?_⟩)) (by (repeat' first|exact rfl|refine And.intro ?_ ?_|refine ⟨_,rfl,?_⟩)) (by rfl) (by kernel_rfl) (by simp) [(0,some (.box [.map 5])),(1,some (.box [.d (dF f)])),(2,some (.box [za9])),(3,some (.box [.map 6])),(4,some (.box [.own 9])),(5,some (.map (zG s1.done))),(6,some (.map (zaj s1.out 0))),(9,some (.row 6 (s1.out.map dNd)))] rfl ?_
 (repeat' ((conv=>whnf);first|refine vA ?_|refine vG ?_|refine vT ?_));all_goals try conv=>whnf
 refine zK.objsE [0,1,2,3,4,5,6,9] (c2) (by (repeat' first|exact rfl|refine And.intro ?_ ?_|refine ⟨_,rfl,?_⟩)) (by (repeat' first|exact rfl|refine And.intro ?_ ?_|refine ⟨_,rfl,?_⟩)) (by rfl) (by kernel_rfl) (by simp) [(0,some (.box [.map 5])),(1,some (.box [.d (dF f)])),(2,some (.box [za9])),(3,some (.box [.map 6])),(4,some (.box [.own 10])),(5,some (.map (zG s2.done))),(6,some (.map (zaj s2.out 0))),(9,none),(10,some (.row 6 (s2.out.map dNd)))] rfl ?_
 (repeat' ((conv=>whnf);first|refine vA ?_|refine vE ?_|refine vG ?_|refine vT ?_|refine zaX.mk _ ‹_› ?_));all_goals try conv=>whnf
 refine ⟨trivial,_,[(0,0),(1,1),(2,2),(3,3),(4,4),(5,5),(6,6),(7,10)],[],rfl,.inl (by (repeat' exact rfl)),⟨by rfl,by rfl,by rfl,trivial,by (repeat' first|exact trivial|exact rfl|refine And.intro ?_ ?_|refine ⟨_,rfl,?_⟩|exact of_decide_eq_true rfl)⟩,by (repeat' first|exact trivial|exact rfl|refine And.intro ?_ ?_|refine ⟨_,rfl,?_⟩)⟩
theorem zD6 {f:List Nd} (hL:f.length≤1000) {k:Nat} {n:Nd} (hn:f[k]? = some n) (hfd:zt (zG (FSt.done ⟨[],[]⟩)) (.int .i64 (k:Int))=some none) (hu:Fn Tryz.prog T z8 [.d (.int .i64 n.op)] [] (.d (.tup [.agg [.bool true,.bool true,.bool (zag n.op),.bool (zT n.op),.bool (zY n.op),.bool (zU n.op),.int .i64 (zbf n.op)],.bool (zdl n.op)])) []) {r1:Nat} {s1:FSt} (hl1:s1.out.length≤1000) (c1:Fn Tryz.prog T zk (zbk n.x) (zbj f (.nils 6) ⟨[],[]⟩) (.d (.int .i64 (r1:Int))) (zft f s1)) (hfd1:zt (zG s1.done) (.int .i64 (k:Int))=some none) {r2:Nat} {s2:FSt} (hl2:s2.out.length≤1000) (c2:Fn Tryz.prog T zk (zbk n.y) (zbj f (.own 7) s1++[.row 6 (s1.out.map dNd)]) (.d (.int .i64 (r2:Int))) (zd9 f s2)) (hfd2:zt (zG s2.done) (.int .i64 (k:Int))=some none) (hfn:zt (zaj s2.out 0) (dNd ⟨n.op,n.i,n.e,n.g,(r1:Int),(r2:Int)⟩)=some none) :
  Fn Tryz.prog T zk (zbk (k:Int)) (zbj f (.nils 6) ⟨[],[]⟩) (.d (.int .i64 (((s2.out.map dNd).length:Nat):Int))) [some (.box [.map 5]),some (.box [.d (dF f)]),some (.box [za9]),some (.box [.map 6]),some (.box [.own 7]),some (.map (zG s2.done++[(.int .i64 (k:Int),.int .i64 (((s2.out.map dNd).length:Nat):Int))])),some (.map (zaj s2.out 0++[(dNd ⟨n.op,n.i,n.e,n.g,(r1:Int),(r2:Int)⟩,.int .i64 (((s2.out.map dNd).length:Nat):Int))])),some (.row 6 (s2.out.map dNd++[dNd ⟨n.op,n.i,n.e,n.g,(r1:Int),(r2:Int)⟩]))]:=by
 refine zP zn zV (by show 6≤68;decide) _ (fun e env mem n h=>h) ?_
 (repeat' ((conv=>whnf);first|refine vA ?_|refine vG ?_|refine vT ?_|refine vN ‹_› ?_|refine yD hu (by (repeat refine ⟨⟨rfl,rfl⟩,?_⟩);rfl) rfl ?_|refine zaX.mk _ ‹_› ?_));all_goals try conv=>whnf
 refine zK.objsE [0,1,2,3,4,5,6] (c1) (by (repeat' first|exact rfl|refine And.intro ?_ ?_|refine ⟨_,rfl,?_⟩)) (by (repeat' first|exact rfl|refine And.intro ?_ ?_|refine ⟨_,rfl,?_⟩)) (by rfl) (by kernel_rfl) (by simp) [(0,some (.box [.map 5])),(1,some (.box [.d (dF f)])),(2,some (.box [za9])),(3,some (.box [.map 6])),(4,some (.box [.own 9])),(5,some (.map (zG s1.done))),(6,some (.map (zaj s1.out 0))),(9,some (.row 6 (s1.out.map dNd)))] rfl ?_
 (repeat' ((conv=>whnf);first|refine vA ?_|refine vG ?_|refine vT ?_));all_goals try conv=>whnf
 refine zK.objsE [0,1,2,3,4,5,6,9] (c2) (by (repeat' first|exact rfl|refine And.intro ?_ ?_|refine ⟨_,rfl,?_⟩)) (by (repeat' first|exact rfl|refine And.intro ?_ ?_|refine ⟨_,rfl,?_⟩)) (by rfl) (by kernel_rfl) (by simp) [(0,some (.box [.map 5])),(1,some (.box [.d (dF f)])),(2,some (.box [za9])),(3,some (.box [.map 6])),(4,some (.box [.own 10])),(5,some (.map (zG s2.done))),(6,some (.map (zaj s2.out 0))),(9,none),(10,some (.row 6 (s2.out.map dNd)))] rfl ?_
 (repeat' ((conv=>whnf);first|refine vA ?_|refine vJ fun hg=>?_|refine vT ?_|(refine vP ?_ ?_;·(simp only [vM] at *;omega))|refine zaX.mk _ ‹_› ?_));all_goals try conv=>whnf
 refine ⟨trivial,_,[(0,0),(1,1),(2,2),(3,3),(4,4),(5,5),(6,6),(7,12)],[],rfl,.inl (by (repeat' exact rfl)),⟨by rfl,by rfl,by rfl,trivial,by (repeat' first|exact trivial|exact rfl|refine And.intro ?_ ?_|refine ⟨_,rfl,?_⟩|exact of_decide_eq_true rfl)⟩,by (repeat' first|exact trivial|exact rfl|refine And.intro ?_ ?_|refine ⟨_,rfl,?_⟩)⟩
end Go.Ab
namespace Go.Ab
open Go Go.Proofs
set_option maxRecDepth 10000
set_option maxHeartbeats 4000000
variable {T:Nat→Obj→Prop}
theorem zD9 {f:List Nd} (hf:zbm f) (hL:f.length≤1000) : ∀ (m k:Nat) (i:Int) (s:FSt),k < m→i=k→k < f.length→zkI f s →
  Fn Tryz.prog T zk (zbk i) (zbj f (.own 7) s++[.row 6 (s.out.map dNd)]) (.d (.int .i64 ((fin f (k+1) k s).1:Int))) (zd9 f (fin f (k+1) k s).2):=by
 intro m
 induction m with
 | zero=>intro k i s h;omega
 | succ m ih =>
  intro k i s hk hi hkf hs
  subst hi
  have hl:s.out.length≤1000:=Nat.le_trans (zj4 hs) hL
  cases hd:s.done.lookup k with
  | some r =>
   have e:fin f (k+1) k s=(r,s):=by rw [fin,hd]
   have hfd:zt (zG s.done) (.int .i64 (k:Int))=some (some (D.int .i64 (r:Int))):=by rw [zsT,hd];rfl
   rw [e]
   refine zP zn zV (by show 6≤68;decide) _ (fun e env mem n h=>h) ?_
   (repeat' ((conv=>whnf);first|refine vA ?_|refine vG ?_|refine vT ?_|refine zaX.mk _ ‹_› ?_));all_goals try conv=>whnf
   refine ⟨trivial,_,[(0,0),(1,1),(2,2),(3,3),(4,4),(5,5),(6,6),(8,7)],[],rfl,.inl (by (repeat' exact rfl)),⟨by rfl,by rfl,by rfl,trivial,by (repeat' first|exact trivial|exact rfl|refine And.intro ?_ ?_|refine ⟨_,rfl,?_⟩|exact of_decide_eq_true rfl)⟩,by (repeat' first|exact trivial|exact rfl|refine And.intro ?_ ?_|refine ⟨_,rfl,?_⟩)⟩
  | none =>
   obtain ⟨n,hn⟩ : ∃ n,f[k]? = some n:=⟨f[k],by simp [hkf]⟩
   have hn':f.getD k default=n:=by simp [List.getD,hn]
   cases hx:zaG n.op with
   | false =>
    have hy:zau n.op=false:=by
     cases hy:zau n.op with
     | true=>rw [zbh hy] at hx;cases hx
     | false=>rfl
    have hu:=zin (T:=T) hx hy
    have e:=zyY hf hkf hd (by rw [hn'];exact hx) (by rw [hn'];exact hy)
    rw [hn'] at e
    cases hp:s.out.idxOf? n with
    | some j =>
     rw [zai hp] at e
     rw [e]
     simp only [zd9,zaV]
     exact zDW hL hn hl (zz hd) hu (zei hp)
    | none =>
     rw [zbG hp,← List.length_map (f:=dNd)] at e
     rw [e]
     simp only [zd9,zaV,zdF,List.map_append,List.map_cons,List.map_nil]
     exact zDX hL hn hl (zz hd) hu (zcT hp)
   | true =>
    have hxk:=zbQ hf hkf (by rw [hn'];exact hx)
    rw [hn'] at hxk
    obtain ⟨i1,d1⟩:=zh2 hf hxk.2 (by omega) hs hd
    have c1:=ih n.x.toNat n.x s (by omega) (by omega) (by omega) hs
    cases h1:fin f (n.x.toNat+1) n.x.toNat s with
    | mk r1 s1 =>
    rw [h1] at i1 d1 c1
    simp only at i1 d1 c1
    have l1:s1.out.length≤1000:=Nat.le_trans (zj4 i1) hL
    cases hy:zau n.op with
    | false =>
     have hu:=zin (T:=T) hx hy
     have e:=zyZ hf hkf hd hn' hx hy h1
     cases hp:s1.out.idxOf? ⟨n.op,n.i,n.e,n.g,(r1:Int),n.y⟩ with
     | some j =>
      rw [zai hp] at e
      rw [e]
      simp only [zd9,zaV]
      exact zDY hL hn hl (zz hd) hu l1 c1 (zz d1) (zei hp)
     | none =>
      rw [zbG hp,← List.length_map (f:=dNd)] at e
      rw [e]
      simp only [zd9,zaV,zdF,List.map_append,List.map_cons,List.map_nil]
      exact zDZ hL hn hl (zz hd) hu l1 c1 (zz d1) (zcT hp)
    | true =>
     have hyk:=zfv hf hkf (by rw [hn'];exact hy)
     rw [hn'] at hyk
     obtain ⟨i2,d2⟩:=zh2 hf hyk.2 (by omega) i1 d1
     have c2:=ih n.y.toNat n.y s1 (by omega) (by omega) (by omega) i1
     cases h2:fin f (n.y.toNat+1) n.y.toNat s1 with
     | mk r2 s2 =>
     rw [h2] at i2 d2 c2
     simp only at i2 d2 c2
     have l2:s2.out.length≤1000:=Nat.le_trans (zj4 i2) hL
     have hu:=zin (T:=T) hx hy
     have e:=zy0 hf hkf hd hn' hx hy h1 h2
     cases hp:s2.out.idxOf? ⟨n.op,n.i,n.e,n.g,(r1:Int),(r2:Int)⟩ with
     | some j =>
      rw [zai hp] at e
      rw [e]
      simp only [zd9,zaV]
      exact zD0 hL hn hl (zz hd) hu l1 c1 (zz d1) l2 c2 (zz d2) (zei hp)
     | none =>
      rw [zbG hp,← List.length_map (f:=dNd)] at e
      rw [e]
      simp only [zd9,zaV,zdF,List.map_append,List.map_cons,List.map_nil]
      exact zD1 hL hn hl (zz hd) hu l1 c1 (zz d1) l2 c2 (zz d2) (zcT hp)
theorem zC2 {f:List Nd} (hf:zbm f) (hL:f.length≤1000) : ∀ (m k:Nat) (i:Int),k < m→i=k→k < f.length →
  Fn Tryz.prog T zk (zbk i) (zbj f (.nils 6) ⟨[],[]⟩) (.d (.int .i64 ((fin f (k+1) k ⟨[],[]⟩).1:Int))) (zft f (fin f (k+1) k ⟨[],[]⟩).2):=by
 intro m
 induction m with
 | zero=>intro k i h;omega
 | succ m ih =>
  intro k i hk hi hkf
  subst hi
  have hs:=zwU f
  have hd:(FSt.mk [] []).done.lookup k=none:=rfl
  have hx0:True:=trivial
  cases hx0 with
  | intro =>
   obtain ⟨n,hn⟩ : ∃ n,f[k]? = some n:=⟨f[k],by simp [hkf]⟩
   have hn':f.getD k default=n:=by simp [List.getD,hn]
   cases hx:zaG n.op with
   | false =>
    have hy:zau n.op=false:=by
     cases hy:zau n.op with
     | true=>rw [zbh hy] at hx;cases hx
     | false=>rfl
    have hu:=zin (T:=T) hx hy
    have e:=zyY hf hkf hd (by rw [hn'];exact hx) (by rw [hn'];exact hy)
    rw [hn'] at e
    have hp:([]:List Nd).idxOf? n=none:=rfl
    rw [zbG hp,← List.length_map (f:=dNd)] at e
    rw [e]
    simp only [zft,zaV,zdF,List.map_append,List.map_cons,List.map_nil]
    exact zD2 hL hn (zz hd) hu (zcT hp)
   | true =>
    have hxk:=zbQ hf hkf (by rw [hn'];exact hx)
    rw [hn'] at hxk
    obtain ⟨i1,d1⟩:=zh2 hf hxk.2 (by omega) hs hd
    have c1:=ih n.x.toNat n.x (by omega) (by omega) (by omega)
    cases h1:fin f (n.x.toNat+1) n.x.toNat (FSt.mk [] []) with
    | mk r1 s1 =>
    rw [h1] at i1 d1 c1
    simp only at i1 d1 c1
    have l1:s1.out.length≤1000:=Nat.le_trans (zj4 i1) hL
    cases hy:zau n.op with
    | false =>
     have hu:=zin (T:=T) hx hy
     have e:=zyZ hf hkf hd hn' hx hy h1
     cases hp:s1.out.idxOf? ⟨n.op,n.i,n.e,n.g,(r1:Int),n.y⟩ with
     | some j =>
      rw [zai hp] at e
      rw [e]
      simp only [zft,zaV]
      exact zD3 hL hn (zz hd) hu l1 c1 (zz d1) (zei hp)
     | none =>
      rw [zbG hp,← List.length_map (f:=dNd)] at e
      rw [e]
      simp only [zft,zaV,zdF,List.map_append,List.map_cons,List.map_nil]
      exact zD4 hL hn (zz hd) hu l1 c1 (zz d1) (zcT hp)
    | true =>
     have hyk:=zfv hf hkf (by rw [hn'];exact hy)
     rw [hn'] at hyk
     obtain ⟨i2,d2⟩:=zh2 hf hyk.2 (by omega) i1 d1
     have c2:=zD9 (T:=T) hf hL (n.y.toNat+1) n.y.toNat n.y s1 (by omega) (by omega) (by omega) i1
     cases h2:fin f (n.y.toNat+1) n.y.toNat s1 with
     | mk r2 s2 =>
     rw [h2] at i2 d2 c2
     simp only at i2 d2 c2
     have l2:s2.out.length≤1000:=Nat.le_trans (zj4 i2) hL
     have hu:=zin (T:=T) hx hy
     have e:=zy0 hf hkf hd hn' hx hy h1 h2
     cases hp:s2.out.idxOf? ⟨n.op,n.i,n.e,n.g,(r1:Int),(r2:Int)⟩ with
     | some j =>
      rw [zai hp] at e
      rw [e]
      simp only [zft,zaV]
      exact zD5 hL hn (zz hd) hu l1 c1 (zz d1) l2 c2 (zz d2) (zei hp)
     | none =>
      rw [zbG hp,← List.length_map (f:=dNd)] at e
      rw [e]
      simp only [zft,zaV,zdF,List.map_append,List.map_cons,List.map_nil]
      exact zD6 hL hn (zz hd) hu l1 c1 (zz d1) l2 c2 (zz d2) (zcT hp)
end Go.Ab
namespace Go.Ab
def uni (m:Hd→Nat) (c:List Nd):Nat:=c.foldl (fun s n=>s|||m n.hd) 0
theorem zAy (m:Hd→Nat) : ∀ (c:List Nd) (s:Nat) (i:Nat),(c.foldl (fun s n=>s|||m n.hd) s).testBit i=(s.testBit i||c.any fun n=>(m n.hd).testBit i)
 | [],s,i=>by simp
 | n::r,s,i=>by simp only [List.foldl_cons,zAy m r,Nat.testBit_or,List.any_cons,Bool.or_assoc]
theorem znT (m:Hd→Nat) (c:List Nd) (i:Nat):(uni m c).testBit i=c.any fun n=>(m n.hd).testBit i:=by
 unfold uni;rw [zAy];simp
theorem zCj (m:Hd→Nat) {c:List Nd} {k:Nat} {n:Nd} (h:c[k]? = some n):uni m (c.take (k+1))=uni m (c.take k)|||m n.hd:=by
 unfold uni
 rw [List.take_add_one,h]
 simp
theorem znl (m:Hd→Nat) {b:Nat} : ∀ {c:List Nd},uni m c < 2 ^ b ↔ ∀ n∈c,m n.hd < 2 ^ b:=by
 intro c
 constructor
 ·intro h n hn
  refine Nat.lt_pow_two_of_testBit _ fun i hi=>?_
  have h1:=Nat.testBit_lt_two_pow (Nat.lt_of_lt_of_le h (Nat.pow_le_pow_right (by omega) hi))
  rw [znT] at h1
  exact Bool.eq_false_iff.2 fun h2=>by
   have:(c.any fun n=>(m n.hd).testBit i)=true:=List.any_eq_true.2 ⟨n,hn,h2⟩
   rw [this] at h1;cases h1
 ·intro h
  refine Nat.lt_pow_two_of_testBit _ fun i hi=>?_
  rw [znT]
  refine List.any_eq_false.2 fun n hn=>?_
  have:=Nat.testBit_lt_two_pow (Nat.lt_of_lt_of_le (h n hn) (Nat.pow_le_pow_right (by omega) hi))
  simp [this]
theorem zug {a b:Nat} (ha:a < 2 ^ 63) (hb:b < 2 ^ 63):zbx .i64 (fun p q=>p&&&q) (a:Int) (b:Int)=((a&&&b:Nat):Int):=by
 unfold zbx
 rw [BitVec.toNat_and,zkq (k := .i64) (by simp [IntKind.bits];omega),zkq (k := .i64) (by simp [IntKind.bits];omega)]
 exact zp1 (Nat.and_lt_two_pow _ hb)
theorem zvX {a b:Nat} (ha:a < 2 ^ 63) (hb:b < 2 ^ 63):zbx .i64 (fun p q=>p &&& ~~~q) (a:Int) (b:Int)=0 ↔ ∀ i,a.testBit i=true→b.testBit i=true:=by
 unfold zbx
 have h64 : ∀ {a:Nat},a < 2 ^ 63→a < 2 ^ 64:=fun h=>by omega
 have e:(BitVec.ofInt IntKind.i64.bits (a:Int) &&& ~~~BitVec.ofInt IntKind.i64.bits (b:Int)).toNat < 2 ^ 63:=by
  rw [BitVec.toNat_and,zkq (k := .i64) (h64 ha)]
  exact Nat.lt_of_le_of_lt Nat.and_le_left ha
 rw [zp1 e]
 have e2:(((BitVec.ofInt IntKind.i64.bits (a:Int) &&& ~~~BitVec.ofInt IntKind.i64.bits (b:Int)).toNat:Nat):Int)=0↔(BitVec.ofInt IntKind.i64.bits (a:Int) &&& ~~~BitVec.ofInt IntKind.i64.bits (b:Int))=0#_:=by
  constructor
  ·intro h;exact BitVec.eq_of_toNat_eq (by simpa using (show (BitVec.ofInt IntKind.i64.bits (a:Int) &&& ~~~BitVec.ofInt IntKind.i64.bits (b:Int)).toNat=0 by omega))
  ·intro h;rw [h];simp
 rw [e2]
 have bit : ∀ {c:Nat},c < 2 ^ 63 → ∀ i,(BitVec.ofInt IntKind.i64.bits (c:Int)).getLsbD i=c.testBit i:=fun {c} hc i=>by
  rw [← BitVec.testBit_toNat,zkq (k := .i64) (h64 hc)]
 constructor
 ·intro h i hi
  have h2:=congrArg (fun x=>x.getLsbD i) h
  have hlt:i < 64:=by
   refine Nat.lt_of_not_le fun hle=>?_
   have:=Nat.testBit_lt_two_pow (Nat.lt_of_lt_of_le (h64 ha) (Nat.pow_le_pow_right (by omega) hle))
   rw [this] at hi;cases hi
  simp only [BitVec.getLsbD_and,BitVec.getLsbD_not,bit ha,bit hb,hi,Bool.true_and,BitVec.getLsbD_zero] at h2
  have:decide (i < IntKind.i64.bits)=true:=decide_eq_true hlt
  rw [this] at h2
  simpa using h2
 ·intro h
  apply BitVec.eq_of_getLsbD_eq
  intro i hi
  simp only [BitVec.getLsbD_and,BitVec.getLsbD_not,bit ha,bit hb,BitVec.getLsbD_zero]
  cases ha':a.testBit i with
  | false=>simp
  | true=>simp [h i ha']
theorem zxe {a n:Nat} : (a:Int).fdiv (2 ^ n)=((a >>> n:Nat):Int):=by
 have e:((2:Int) ^ n)=((2 ^ n:Nat):Int):=by simp
 rw [e,Nat.shiftRight_eq_div_pow,Int.fdiv_eq_ediv_of_nonneg _ (Int.natCast_nonneg _)];rfl
def zcJ (h:Hd):Nat:=(zbf h.op).toNat
def zgo (h:Hd):Nat:=if zag h.op=true then 2 ^ h.i.toNat else 0
def zdA (h:Hd):Nat:=if zT h.op=true then 2 ^ h.i.toNat else h.g.toNat
theorem zx1 (h:Hd):((zcJ h:Nat):Int)=zbf h.op:=by
 unfold zcJ zbf
 repeat' split
 all_goals rfl
theorem zps (h:Hd):zcJ h < 2 ^ 9:=by
 unfold zcJ zbf
 repeat' split
 all_goals decide
theorem zBd {h:Hd} (hh:zoY h):zgo h < 2 ^ 8:=by
 unfold zgo
 split
 ·rename_i h1
  have:=hh.fact h1
  exact Nat.pow_lt_pow_right (by omega) (by omega)
 ·decide
theorem zyB {h:Hd} (hh:zoY h):zdA h < 2 ^ 4:=by
 unfold zdA
 split
 ·rename_i h1
  have:=hh.agent h1
  exact Nat.pow_lt_pow_right (by omega) (by omega)
 ·cases hg:zY h.op with
  | true=>have:=hh.group hg;omega
  | false=>have:=hh.g0 hg;omega
end Go.Ab
namespace Go.Ab
open Go Go.Proofs
set_option maxRecDepth 10000
set_option maxHeartbeats 4000000
variable {T:Nat→Obj→Prop}
theorem zxS {f:List Nd} (hf:zbm f) (hL:f.length≤1000) {k:Nat} {i:Int} (hi:i=k) (hk:k < f.length):Fn Tryz.prog T zhQ [.d (dF f),.d (.int .i64 i)] [] (.d (dF (zdh f k))) []:=by
 have c:=zC2 (T:=T) hf hL (k+1) k i (by omega) hi hk
 refine zb zn zof (by show 2≤16;decide) ?_
 (repeat' ((conv=>whnf);refine vT ?_));all_goals try conv=>whnf
 refine zK.objs [5,0,6,3,1,4,2] (c) (by (repeat' first|exact rfl|refine And.intro ?_ ?_|refine ⟨_,rfl,?_⟩)) (by (repeat' first|exact rfl|refine And.intro ?_ ?_|refine ⟨_,rfl,?_⟩)) (by rfl) (by rfl) (by simp) ?_
 (repeat' ((conv=>whnf);refine vT ?_));all_goals try conv=>whnf
 rfl
def znk (f:List Nd) (i:Int):List Nd:=if zdi f≠0∨i < 0∨(f.length:Int)≤i then [] else zdh f i.toNat
def cL (f:List Nd):List Nd:=if zdi f≠0 then [] else zdh f (f.length - 1)
theorem zEn (f:List Nd):znk f ((f.length:Int) - 1)=cL f:=by
 unfold znk cL
 by_cases h:zdi f=0
 ·have:=(zfZ.1 h).1
  rw [if_neg (by omega),if_neg (by omega)]
  congr 1
  omega
 ·rw [if_pos (.inl h),if_pos h]
theorem zD8 (f:List Nd) (i:Int):Fn Tryz.prog T zlL [.d (dF f),.d (.int .i64 i)] [] (.d (dF (znk f i))) []:=by
 refine zb zn ztF (by show 2≤21;decide) ?_
 (repeat' ((conv=>whnf);first|refine vA ?_|((first|refine vD ?_ ?_|refine vF ?_ ?_)<;>intro hc<;>try simp only [vL] at hc)|refine vJ fun hg=>?_|refine vT ?_|refine yD (zmL _) ⟨⟨rfl,rfl⟩,rfl⟩ rfl ?_));all_goals try conv=>whnf
 ·have hp:znk f i=[]:=if_pos (.inl ‹_›)
  rw [hp];rfl
 ·have hp:znk f i=[]:=if_pos (.inr (.inl ‹_›))
  rw [hp];rfl
 ·have hp:znk f i=[]:=if_pos (.inr (.inr (by omega)))
  rw [hp];rfl
 ·have h0:zdi f=0:=by omega
  have h1:=zfZ.1 h0
  have hp:znk f i=zdh f i.toNat:=if_neg (by omega)
  rw [hp]
  have cS:=zxS (T:=T) (f:=f) h1.2.2 (by omega) (k:=i.toNat) (i:=i) (by omega) (by omega)
  (repeat' ((conv=>whnf);first|refine vT ?_|refine yN cS ⟨⟨rfl,rfl⟩,⟨rfl,rfl⟩,rfl⟩ ?_));all_goals try conv=>whnf
  rfl
theorem zwf (f:List Nd):Fn Tryz.prog T zhP [.d (dF f)] [] (.d (dF (cL f))) []:=by
 refine zb zn zod (by show 1≤8;decide) ?_
 (repeat' ((conv=>whnf);first|refine vJ fun hg=>?_|refine vT ?_|(refine vO ?_ ?_;·(simp only [vM] at *;omega))|fail));all_goals try conv=>whnf
 have cC:=zD8 (T:=T) f (((f.map dNd).length:Int) - 1)
 rw [show znk f (((f.map dNd).length:Int) - 1)=cL f by rw [List.length_map,zEn]] at cC
 (repeat' ((conv=>whnf);first|refine vT ?_|refine yN cC ⟨⟨rfl,rfl⟩,⟨rfl,rfl⟩,rfl⟩ ?_));all_goals try conv=>whnf
 rfl
theorem zkS {f:List Nd} (h:zdi f=0):zxm (zaQ f (f.length - 1)) (cL f)∧(cL f).length≤f.length:=by
 obtain ⟨h1,h2,h3⟩:=zfZ.1 h
 unfold cL
 rw [if_neg (by omega)]
 exact ⟨zrX h3 (by omega),(zov h3 (by omega)).2.1⟩
theorem zyL {f:List Nd} (h:zdi f≠0):cL f=[]:=if_pos h
theorem zDR (f:List Nd):(cL f).length≤200:=by
 by_cases h:zdi f=0
 ·have:=(zkS h).2
  have:=(zfZ.1 h).2.1
  omega
 ·rw [zyL h];simp
theorem zCI (f:List Nd):zbm (cL f):=by
 by_cases h:zdi f=0
 ·exact (zkS h).1.ok
 ·rw [zyL h];exact zlt
theorem zqi {f:List Nd} {n:Nd} (h:n∈cL f):zoY n.hd:=by
 obtain ⟨i,hi⟩:=List.getElem?_of_mem h
 exact (zdm.1 (zCI f i n hi)).1
theorem zEr (m:Hd→Nat) {b:Nat} (f:List Nd) (h : ∀ n∈cL f,m n.hd < 2 ^ b) (k:Nat):uni m ((cL f).take k) < 2 ^ b :=
 (znl m).2 fun n hn=>h n (List.mem_of_mem_take hn)
theorem zpr (f:List Nd) (g:Nat) (m:Hd→Nat) (hm : ∀ n,n∈cL f→m n.hd < 2 ^ 31∧Fn Tryz.prog T g [.d (dNd n),.d (zph n.op)] [] (.d (.int .i64 (m n.hd:Int))) []) :
  Fn Tryz.prog T zjg [.d (dF f),.d (.fn g [])] [] (.d (.int .i64 (uni m (cL f):Int))) []:=by
 have hlen:=zDR f
 refine zb zn zq5 (by show 2≤31;decide) ?_
 (repeat' ((conv=>whnf);first|refine vA ?_|refine vJ fun hg=>?_|refine vT ?_|refine yN (zwf _) ⟨⟨rfl,rfl⟩,rfl⟩ ?_));all_goals try conv=>whnf
 refine zal (fun ((k,x):Nat×Int)=>[(1,.d (.fn g [])),(11,.d (dF (cL f))),(12,.d (.int .i64 (((cL f).map dNd).length:Int))),(5,.d (.int .i64 (x))),(13,.d (.int .i64 ((k:Int))))]) (fun ((k,x):Nat×Int)=>k≤(cL f).length∧x=(uni m ((cL f).take k):Nat)) (fun ((k,x):Nat×Int)=>(cL f).length - k) ((0,0)) (⟨by simp,rfl⟩) (by (repeat' first|exact trivial|exact rfl|refine And.intro ?_ ?_)) ?_
 rintro ⟨k,x⟩ ⟨hk,hI⟩
 subst hI
 (repeat' ((conv=>whnf);first|refine vA ?_|(refine vF ?_ ?_<;>intro hc<;>try simp only [vL] at hc)|refine vT ?_|(refine vQ ?_ fun x hx=>?_;·omega)|refine vX ?_|refine yN (zr6 _) ⟨⟨rfl,rfl⟩,rfl⟩ ?_));all_goals try conv=>whnf
 ·obtain ⟨h1,h2⟩:=hm _ (List.mem_of_getElem? hx)
  (repeat' ((conv=>whnf);first|refine vT ?_|(refine vO ?_ ?_;·omega)|refine yD h2 (by (repeat refine ⟨⟨rfl,rfl⟩,?_⟩);rfl) rfl ?_));all_goals try conv=>whnf
  refine ⟨(k+1,_),[],[],?_,?_,by (refine ⟨rfl,rfl,rfl,?_,?_⟩;repeat' first|exact trivial|exact rfl|refine And.intro ?_ ?_)⟩
  ·exact ⟨by (omega),by rw [zCj m hx];exact zrI (Nat.lt_trans (zEr m f (fun n hn=>(hm n hn).1) k) (by decide)) (Nat.lt_trans h1 (by decide))⟩
  ·((simp only [vM] at *;omega))
 ·rw [show k=(cL f).length by omega,List.take_length]
theorem zBg (f:List Nd):Fn Tryz.prog T zjf [.d (dF f)] [] (.d (.int .i64 (uni zcJ (cL f):Int))) []:=by
 have cU:=zpr (T:=T) f zfl zcJ (fun n hn=>⟨Nat.lt_trans (zps n.hd) (by decide),by
  refine zb zn zoe (by show 2≤7;decide) ?_
  (repeat' ((conv=>whnf);first|refine vT ?_|refine vX ?_));all_goals try conv=>whnf
  exact (zx1 n.hd).symm⟩)
 refine zb zn zq4 (by show 1≤5;decide) ?_
 (repeat' ((conv=>whnf);first|refine vT ?_|refine vX ?_|refine yD cU ⟨⟨rfl,rfl⟩,⟨rfl,rfl⟩,rfl⟩ rfl ?_));all_goals try conv=>whnf
 all_goals skip
theorem zBf (f:List Nd):Fn Tryz.prog T zje [.d (dF f)] [] (.d (.int .i64 (uni zgo (cL f):Int))) []:=by
 have cU:=zpr (T:=T) f zfk zgo (fun n hn=>⟨Nat.lt_trans (zBd (zqi hn)) (by decide),by
  have hh:=zqi hn
  cases hf:zag n.op with
  | true =>
   obtain ⟨h0,h7⟩:0≤n.i∧n.i≤7:=hh.fact hf
   obtain ⟨h1,h2⟩:=ztf h0 h7
   have e:((zgo n.hd:Nat):Int)=1 * 2 ^ min n.i.toNat IntKind.i64.bits:=by rw [zgo,if_pos (by exact hf)];exact h2
   rw [e,zph,hf]
   refine zb zn zhY (by show 2≤10;decide) ?_
   (repeat' ((conv=>whnf);first|refine vA ?_|refine vG ?_|refine vT ?_|((first|refine vO ?_ ?_|refine vP ?_ ?_);·omega)|refine vX ?_));all_goals try conv=>whnf
  | false =>
   have e:zgo n.hd=0:=by rw [zgo,if_neg (by simp [Nd.hd,hf])]
   rw [e,zph,hf]
   refine zb zn zhY (by show 2≤10;decide) ?_
   (repeat' ((conv=>whnf);first|refine vA ?_|refine vH ?_|refine vT ?_|refine vX ?_));all_goals try conv=>whnf
   rfl⟩)
 refine zb zn zq3 (by show 1≤5;decide) ?_
 (repeat' ((conv=>whnf);first|refine vT ?_|refine vX ?_|refine yD cU ⟨⟨rfl,rfl⟩,⟨rfl,rfl⟩,rfl⟩ rfl ?_));all_goals try conv=>whnf
theorem zy1 (f:List Nd):Fn Tryz.prog T ziF [.d (dF f)] [] (.d (.int .i64 (uni zdA (cL f):Int))) []:=by
 have cU:=zpr (T:=T) f zeK zdA (fun n hn=>⟨Nat.lt_trans (zyB (zqi hn)) (by decide),by
  have hh:=zqi hn
  cases hf:zT n.op with
  | true =>
   obtain ⟨h0,h7⟩:0≤n.i∧n.i≤3:=hh.agent hf
   obtain ⟨h1,h2⟩:=ztf h0 (by omega)
   have e:((zdA n.hd:Nat):Int)=1 * 2 ^ min n.i.toNat IntKind.i64.bits:=by rw [zdA,if_pos (by exact hf)];exact h2
   rw [e,zph,hf]
   refine zb zn zhz (by show 2≤12;decide) ?_
   (repeat' ((conv=>whnf);first|refine vA ?_|refine vG ?_|refine vT ?_|((first|refine vO ?_ ?_|refine vP ?_ ?_);·omega)|refine vX ?_));all_goals try conv=>whnf
  | false =>
   have h0:0≤n.g:=by
    cases hg:zY n.op with
    | true=>have:1≤n.g∧n.g≤15:=hh.group hg;omega
    | false=>have:n.g=0:=hh.g0 hg;omega
   have e:((zdA n.hd:Nat):Int)=n.g:=by rw [zdA,if_neg (by simp [Nd.hd,hf])];exact Int.toNat_of_nonneg h0
   rw [e,zph,hf]
   refine zb zn zhz (by show 2≤12;decide) ?_
   (repeat' ((conv=>whnf);first|refine vA ?_|refine vH ?_|refine vT ?_|refine vX ?_));all_goals try conv=>whnf⟩)
 refine zb zn zpA (by show 1≤5;decide) ?_
 (repeat' ((conv=>whnf);first|refine vT ?_|refine vX ?_|refine yD cU ⟨⟨rfl,rfl⟩,⟨rfl,rfl⟩,rfl⟩ rfl ?_));all_goals try conv=>whnf
def zhk (m:Nat) (n:Int):Bool:=decide (31≤n∨m < 2 ^ n.toNat)
theorem zBj (m:Nat) (n:Int):Fn Tryz.prog T zfJ [.d (.int .i64 (m:Int)),.d (.int .i64 n)] [] (.d (.bool (zhk m n))) []:=by
 refine zb zn zpB (by show 2≤14;decide) ?_
 (repeat' ((conv=>whnf);first|refine vA ?_|(refine vF ?_ ?_<;>intro hc<;>try simp only [vL] at hc)|refine vT ?_|(refine vP ?_ ?_;·omega)|refine vZ ?_));all_goals try conv=>whnf
 ·simp [zhk, *]
 ·show decide ((m:Int).fdiv (2 ^ min (max n 0).toNat IntKind.i64.bits)=0)=_
  have e1:(max n 0).toNat=n.toNat:=by omega
  have e2:min n.toNat IntKind.i64.bits=n.toNat:=Nat.min_eq_left (show n.toNat≤64 by omega)
  rw [e1,e2,zxe,zhk,Nat.shiftRight_eq_div_pow]
  refine decide_eq_decide.2 ⟨fun h => .inr ?_,fun h=>?_⟩
  ·have h0:m / 2 ^ n.toNat=0:=by omega
   exact (Nat.div_eq_zero_iff.1 h0).resolve_left (by have:=Nat.two_pow_pos n.toNat;omega)
  ·have h0:m / 2 ^ n.toNat=0:=Nat.div_eq_zero_iff.2 (.inr (h.resolve_left (by omega)))
   rw [h0];rfl
def zk8 (f:List Nd) (agents facts:Int):Bool:=decide (zdi f=0)&&zhk (uni zdA (cL f)) agents&&zhk (uni zgo (cL f)) facts
theorem zCZ (f:List Nd) (agents facts:Int):Fn Tryz.prog T zjY [.d (dF f),.d (.int .i64 agents),.d (.int .i64 facts)] [] (.d (.bool (zk8 f agents facts))) []:=by
 refine zb zn zsc (by show 3≤25;decide) ?_
 (repeat' ((conv=>whnf);first|refine vA ?_|(refine vF ?_ ?_<;>intro hc)|refine vT ?_|refine vZ ?_|refine yD (zmL _) ⟨⟨rfl,rfl⟩,rfl⟩ rfl ?_|refine yD (zy1 _) ⟨⟨rfl,rfl⟩,rfl⟩ rfl ?_|refine yD (zBf _) ⟨⟨rfl,rfl⟩,rfl⟩ rfl ?_|refine yD (zBj _ _) ⟨⟨rfl,rfl⟩,⟨rfl,rfl⟩,rfl⟩ rfl ?_));all_goals try conv=>whnf
 ·simp_all [zk8,zhk]
 ·have:zhk (uni zdA (cL f)) agents=false:=decide_eq_false ‹_›
  simp [zk8,this]
 ·simp_all [zk8]
end Go.Ab
namespace Go.Ab
open Go Go.Proofs
set_option maxRecDepth 10000
set_option maxHeartbeats 4000000
variable {T:Nat→Obj→Prop}
def zEV (op:BitVec 64→BitVec 64→BitVec 64) (n:Nat):Option (List (BitVec 64))→List (BitVec 64)→Option (List (BitVec 64))
 | none,r=>some r
 | some a,r=>some ((List.range n).map fun w=>op (a.getD w 0#64) (r.getD w 0#64))
def zaD (op:BitVec 64→BitVec 64→BitVec 64) (m:KM) (g:Nat):Nat→Option (List (BitVec 64))
 | 0=>none
 | k+1=>if g.testBit k=true then zEV op m.W.toNat (zaD op m g k) (m.rel.getD k []) else zaD op m g k
def zEW:Option (List (BitVec 64))→V
 | none => .nils 1
 | some _ => .own 0
def zEU:Option (List (BitVec 64))→List D
 | none=>[]
 | some r=>r.map D.u64
theorem ztT {g k:Nat} (hg:g < 2 ^ 63) (hk:k≤64):zbx .i64 (fun p q=>p&&&q) ((g:Int).fdiv (2 ^ (min ((k:Nat):Int).toNat IntKind.i64.bits))) 1=0↔g.testBit k=false:=by
 have e1:min ((k:Nat):Int).toNat IntKind.i64.bits=k:=Nat.min_eq_left (show k≤64 from hk)
 have h1:g >>> k < 2 ^ 63:=Nat.lt_of_le_of_lt (by rw [Nat.shiftRight_eq_div_pow];exact Nat.div_le_self _ _) hg
 rw [e1,zxe,show (1:Int)=((1:Nat):Int) from rfl,zug h1 (by decide)]
 rw [Nat.testBit,Nat.and_one_is_mod,Nat.one_and_eq_mod_two,bne_eq_false_iff_eq]
 omega
theorem znC {op:BitVec 64→BitVec 64→BitVec 64} {m:KM} (hg:zdX m) {g:Nat} : ∀ {k:Nat} {r:List (BitVec 64)},k≤m.rel.length→zaD op m g k=some r→r.length=m.W.toNat
 | 0,_,_,h=>by cases h
 | k+1,r,hk,h=>by
  rw [zaD] at h
  split at h
  ·cases hz:zaD op m g k with
   | none =>
    rw [hz] at h
    have e:m.rel.getD k []=r:=Option.some.inj h
    have:=hg.len r (by rw [← e,List.getD,List.getElem?_eq_getElem (by omega)];exact List.getElem_mem _)
    omega
   | some a =>
    rw [hz] at h
    have e:=Option.some.inj h
    rw [← e];simp
  ·exact znC hg (by omega) h
theorem zsV {m:KM} (hk0:za m=0) {f:Nat} {op:BitVec 64→BitVec 64→BitVec 64} (hop : ∀ x y,Fn Tryz.prog T f [.d (.u64 x),.d (.u64 y)] [] (.d (.u64 (op x y))) []) {g:Nat} (hg1:1≤g) (hg2:(g:Int) < 2 ^ m.rel.length):Fn Tryz.prog T zj0 [.d (dKM m),.d (.int .i64 (g:Int)),.d (.fn f [])] [] (.d (dU ((zaD op m g m.rel.length).getD []))) []:=by
 have gm:=zx hk0
 have w1:=gm.w1
 have w2:=gm.w2
 have n4:=gm.n4
 have ck:=zaI (T:=T) m
 rw [hk0] at ck
 refine zb zn zsg (by show 3≤64;decide) ?_
 have hg63:g < 2 ^ 63:=by
  have h4:(2:Nat) ^ m.rel.length≤2 ^ 4:=Nat.pow_le_pow_right (by decide) n4
  have h6:(2:Nat) ^ 63=9223372036854775808:=by decide
  have h7:((2 ^ m.rel.length:Nat):Int)=(2:Int) ^ m.rel.length:=by simp
  omega
 have hpw : ∀ k:Nat,k≤4→inR .i64 (1 * 2 ^ min ((k:Nat):Int).toNat IntKind.i64.bits:Int)∧(1 * 2 ^ min ((k:Nat):Int).toNat IntKind.i64.bits:Int)=2 ^ k:=fun k hk=>by
  match k,hk with
  | 0,_=>exact ⟨by decide,by decide⟩
  | 1,_=>exact ⟨by decide,by decide⟩
  | 2,_=>exact ⟨by decide,by decide⟩
  | 3,_=>exact ⟨by decide,by decide⟩
  | 4,_=>exact ⟨by decide,by decide⟩
 (repeat' ((conv=>whnf);first|refine vA ?_|refine vH ?_|(refine vF ?_ ?_<;>intro hc<;>try simp only [vL] at hc)|refine vJ fun hg=>?_|refine vT ?_|((first|refine vO ?_ ?_|refine vP ?_ ?_);·omega)|refine yD ck ⟨⟨rfl,rfl⟩,rfl⟩ rfl ?_));all_goals try conv=>whnf
 ·exfalso;omega
 ·have hp1:=hpw (m.rel.map dU).length (by rw [List.length_map];exact n4)
  have hp2:=hp1.2
  rw [List.length_map] at hp2
  refine zkG.fit hp1.1 ?_
  (repeat' ((conv=>whnf);first|refine vA ?_|(refine vF ?_ ?_<;>intro hc<;>try simp only [vL] at hc)|refine vJ fun hg=>?_|refine vT ?_));all_goals try conv=>whnf
  ·exfalso;rw [hp2] at hc;omega
  refine zy (fun ((k,z):Nat×Option (List (BitVec 64)))=>[(1,.d (.int .i64 ((g:Int)))),(2,.d (.fn f [])),(7,zEW z),(27,.d (dUU m.rel)),(28,.d (.int .i64 ((m.rel.map dU).length:Int))),(29,.d (.int .i64 ((k:Int))))]) (fun ((k,z):Nat×Option (List (BitVec 64)))=>[(0,some (.row 1 (zEU z)))]) 1 (fun ((k,z):Nat×Option (List (BitVec 64)))=>k≤m.rel.length∧z=zaD op m g k) (fun ((k,z):Nat×Option (List (BitVec 64)))=>m.rel.length - k) ((0,none)) []   [0] (⟨by omega,rfl⟩) (by (refine ⟨rfl,rfl,rfl,?_,?_⟩;repeat' first|exact trivial|exact rfl|exact ⟨_,rfl⟩|refine And.intro ?_ ?_|decide)) ?_
  rintro ⟨k,z⟩ ⟨hk,hz⟩
  by_cases hkl:k < m.rel.length
  ·cases z with
   | none =>
    (repeat' ((conv=>whnf);first|refine vA ?_|(refine vF ?_ ?_<;>intro hc<;>try simp only [vL] at hc)|refine vT ?_|(refine vQ ?_ fun x hx=>?_;·omega)|((first|refine vO ?_ ?_|refine vP ?_ ?_);·omega)|fail));all_goals try conv=>whnf
    ·have hb0:=(ztT hg63 (by omega)).1 hc
     refine ⟨(k+1,none),[] ,  [0],?_,?_,by (refine ⟨rfl,rfl,rfl,?_,?_⟩;repeat' first|exact trivial|exact rfl|exact ⟨_,rfl⟩|refine And.intro ?_ ?_|decide)⟩
     ·exact ⟨by (omega),by rw [zaD,if_neg (by rw [hb0];decide),hz]⟩
     ·((simp only [vM] at *;omega))
    ·have hb0:=mt (ztT (k:=k) hg63 (by omega)).2 ‹¬_›
     have hxl:=gm.len _ (List.mem_of_getElem? hx)
     refine zK.res (zy5 x (fun e=>by subst e;simp at hxl;omega) (by omega)) (by (repeat refine ⟨⟨rfl,rfl⟩,?_⟩);rfl) ?_
     (repeat' ((conv=>whnf);first|refine vT ?_|(refine vO ?_ ?_;·omega)|fail));all_goals try conv=>whnf
     refine ⟨(k+1,some x),[(0,1)],[],?_,?_,by (refine ⟨rfl,rfl,rfl,?_,?_⟩;repeat' first|exact trivial|exact rfl|refine And.intro ?_ ?_|refine ⟨_,rfl,?_⟩|decide)⟩
     ·refine ⟨by (omega),?_⟩
      have hxk:m.rel.getD k []=x:=by simp [List.getD,hx]
      rw [zaD,if_pos (by simpa using hb0),← hz,hxk];rfl
     ·((simp only [vM] at *;omega))
    ·exfalso;omega
   | some a =>
    have hal:=znC gm hk hz.symm
    (repeat' ((conv=>whnf);first|refine vA ?_|refine vB fun b hb=>?_|refine vE ?_|(refine vF ?_ ?_<;>intro hc<;>try simp only [vL] at hc)|refine vJ fun hg=>?_|refine vT ?_|(refine vQ ?_ fun x hx=>?_;·omega)|((first|refine vO ?_ ?_|refine vP ?_ ?_);·omega)|fail));all_goals try conv=>whnf
    ·have hb0:=(ztT hg63 (by omega)).1 hc
     refine ⟨(k+1,some a),[(0,0)],[],?_,?_,by (refine ⟨rfl,rfl,rfl,?_,?_⟩;repeat' first|exact trivial|exact rfl|refine And.intro ?_ ?_|refine ⟨_,rfl,?_⟩|decide)⟩
     ·exact ⟨by (omega),by rw [zaD,if_neg (by rw [hb0];decide),hz]⟩
     ·((simp only [vM] at *;omega))
    ·have hb0:=mt (ztT (k:=k) hg63 (by omega)).2 ‹¬_›
     have hxl:=gm.len _ (List.mem_of_getElem? hx)
     have hxk:m.rel.getD k []=x:=by simp [List.getD,hx]
     refine zy (fun ((j,zs):Nat×List D)=>[(1,.d (.int .i64 ((g:Int)))),(2,.d (.fn f [])),(7,.own 0),(9,.d (dU x)),(27,.d (dUU m.rel)),(28,.d (.int .i64 ((m.rel.map dU).length:Int))),(29,.d (.int .i64 ((k:Int)))),(44,.d (.int .i64 (((a.map D.u64).length:Int)))),(45,.d (.int .i64 ((j:Int))))]) (fun ((j,zs):Nat×List D)=>[(0,some (.row 1 zs))]) 1 (fun ((j,zs):Nat×List D)=>j≤m.W.toNat∧zs=(List.range m.W.toNat).map fun w=>D.u64 (if w < j then op (a.getD w 0#64) (x.getD w 0#64) else a.getD w 0#64)) (fun ((j,zs):Nat×List D)=>m.W.toNat - j) ((0,a.map D.u64)) [(0,0)] [] (⟨by omega,by
      refine List.ext_getElem (by simp [hal]) fun i h1 h2=>?_
      have:i < a.length:=by simpa using h1
      simp [List.getD,this]⟩) (by (refine ⟨rfl,rfl,rfl,?_,?_⟩;repeat' first|exact trivial|exact rfl|refine And.intro ?_ ?_|refine ⟨_,rfl,?_⟩|decide)) ?_
     rintro ⟨j,zs⟩ ⟨hj,hzs⟩
     by_cases hjl:j < m.W.toNat
     ·subst hzs
      (repeat' ((conv=>whnf);first|refine vA ?_|(refine vF ?_ ?_<;>intro hc<;>try simp only [vL] at hc)|refine vT ?_|(refine vQ ?_ fun x hx=>?_;·first|omega|(simp only [vM] at *;omega))|((first|refine vO ?_ ?_|refine vP ?_ ?_);·first|omega|(simp only [vM] at *;omega))|(refine vU ?_ ?_;·kernel_rfl)|refine yD (hop _ _) (by (repeat refine ⟨⟨rfl,rfl⟩,?_⟩);rfl) rfl ?_));all_goals try conv=>whnf
      ·rename_i xn hxn
       rw [Int.toNat_natCast] at hxn
       have hxe:=zzk hxn
       subst hxe
       have hxj:(m.rel.getD k []).getD xn 0#64=x:=by rw [hxk];simp [List.getD,hx]
       refine ⟨(xn+1,_),[(0,0)],[],?_,?_,by (refine ⟨rfl,rfl,rfl,?_,?_⟩;repeat' first|exact trivial|exact rfl|refine And.intro ?_ ?_|refine ⟨_,rfl,?_⟩|decide)⟩
       ·refine ⟨by (omega),(zdV _).trans (zL fun u hu=>?_)⟩
        rw [Int.toNat_natCast,if_neg (Nat.lt_irrefl _)]
        by_cases e:u=xn
        ·subst e
         rw [if_pos rfl,if_pos (by omega)]
         rw [hxk] at hxj
         rw [hxj]
        ·rw [if_neg e]
         by_cases e2:u < xn
         ·rw [if_pos e2,if_pos (by omega)]
         ·rw [if_neg e2,if_neg (by omega)]
       ·((simp only [vM] at *;omega))
      ·exfalso;omega
     ·obtain rfl:j=m.W.toNat:=by omega
      obtain rfl:zs=((List.range m.W.toNat).map fun w=>op (a.getD w 0#64) (x.getD w 0#64)).map D.u64:=by
       rw [hzs,List.map_map]
       exact zL fun u hu=>by rw [if_pos hu];rfl
      clear hzs
      (repeat' ((conv=>whnf);first|refine vA ?_|(refine vF ?_ ?_<;>intro hc<;>try simp only [vL] at hc)|refine vT ?_|(refine vQ ?_ fun x hx=>?_;·omega)|((first|refine vO ?_ ?_|refine vP ?_ ?_);·omega)|fail));all_goals try conv=>whnf
      ·exfalso;omega
      ·refine ⟨(k+1,some ((List.range m.W.toNat).map fun w=>op (a.getD w 0#64) (x.getD w 0#64))),[(0,0)],[],?_,?_,by (refine ⟨rfl,rfl,rfl,?_,?_⟩;repeat' first|exact trivial|exact rfl|refine And.intro ?_ ?_|refine ⟨_,rfl,?_⟩|decide)⟩
       ·refine ⟨by (omega),?_⟩
        rw [zaD,if_pos (by simpa using hb0),← hz,hxk];rfl
       ·((simp only [vM] at *;omega))
    ·exfalso
     have hnil:a.map D.u64=[]:=hb (by simpa using hc)
     rw [List.map_eq_nil_iff] at hnil
     rw [hnil] at hal
     simp at hal;omega
    ·exfalso;omega
  ·obtain rfl:k=m.rel.length:=by omega
   cases z with
   | none =>
    (repeat' ((conv=>whnf);first|refine vA ?_|(refine vF ?_ ?_<;>intro hc<;>try simp only [vL] at hc)|refine vT ?_|(refine vQ ?_ fun x hx=>?_;·omega)|((first|refine vO ?_ ?_|refine vP ?_ ?_);·omega)|fail));all_goals try conv=>whnf
    all_goals first|(exfalso;omega)|skip
    rw [← hz];rfl
   | some a =>
    (repeat' ((conv=>whnf);first|refine vA ?_|refine vB fun b hb=>?_|refine vE ?_|(refine vF ?_ ?_<;>intro hc<;>try simp only [vL] at hc)|refine vJ fun hg=>?_|refine vT ?_|(refine vQ ?_ fun x hx=>?_;·omega)|((first|refine vO ?_ ?_|refine vP ?_ ?_);·omega)|fail));all_goals try conv=>whnf
    all_goals first|(exfalso;omega)|skip
    rw [← hz];rfl
theorem zzc {m:KM} (hk0:za m=0) {g:Nat} (hg1:1≤g) (hg2:(g:Int) < 2 ^ m.rel.length):Fn Tryz.prog T zlM [.d (dKM m),.d (.int .i64 (g:Int))] [] (.d (dU ((zaD (fun x y=>x|||y) m g m.rel.length).getD []))) []:=by
 have h1 : ∀ x y,Fn Tryz.prog T zgl [.d (.u64 x),.d (.u64 y)] [] (.d (.u64 (x|||y))) []:=fun x y=>by
  refine zb zn zq8 (by show 2≤8;decide) ?_
  (repeat' ((conv=>whnf);first|refine vT ?_|refine vY ?_));all_goals try conv=>whnf
 have c1:=zsV (T:=T) hk0 h1 hg1 hg2
 refine zb zn ztI (by show 2≤8;decide) ?_
 (repeat' ((conv=>whnf);first|refine vT ?_|refine yN c1 ⟨⟨rfl,rfl⟩,⟨rfl,rfl⟩,⟨rfl,rfl⟩,rfl⟩ ?_));all_goals try conv=>whnf
 rfl
theorem zBl {m:KM} (hk0:za m=0) {g:Nat} (hg1:1≤g) (hg2:(g:Int) < 2 ^ m.rel.length):Fn Tryz.prog T zmz [.d (dKM m),.d (.int .i64 (g:Int))] [] (.d (dU ((zaD (fun x y=>x&&&y) m g m.rel.length).getD []))) []:=by
 have h1 : ∀ x y,Fn Tryz.prog T zgO [.d (.u64 x),.d (.u64 y)] [] (.d (.u64 (x&&&y))) []:=fun x y=>by
  refine zb zn zsd (by show 2≤8;decide) ?_
  (repeat' ((conv=>whnf);first|refine vT ?_|refine vY ?_));all_goals try conv=>whnf
 have c1:=zsV (T:=T) hk0 h1 hg1 hg2
 refine zb zn zu1 (by show 2≤8;decide) ?_
 (repeat' ((conv=>whnf);first|refine vT ?_|refine yN c1 ⟨⟨rfl,rfl⟩,⟨rfl,rfl⟩,⟨rfl,rfl⟩,rfl⟩ ?_));all_goals try conv=>whnf
 rfl
end Go.Ab
namespace Go.Ab
open Go Go.Proofs
set_option maxRecDepth 10000
set_option maxHeartbeats 4000000
variable {T:Nat→Obj→Prop}
theorem zla {op:BitVec 64→BitVec 64→BitVec 64} {m:KM} {g:Nat} : ∀ {k:Nat},(∃ i,i < k∧g.testBit i=true) → ∃ r,zaD op m g k=some r
 | 0,⟨i,hi,_⟩=>absurd hi (by omega)
 | k+1,⟨i,hi,hb⟩=>by
  rw [zaD]
  by_cases h:g.testBit k=true
  ·rw [if_pos h]
   cases zaD op m g k with
   | none=>exact ⟨_,rfl⟩
   | some a=>exact ⟨_,rfl⟩
  ·rw [if_neg h]
   exact zla ⟨i,by
    rcases Nat.lt_or_ge i k with h2|h2
    ·exact h2
    ·have:i=k:=by omega
     subst this;exact absurd hb h,hb⟩
theorem zmc {g n:Nat} (h1:1≤g) (h2:g < 2 ^ n) : ∃ i,i < n∧g.testBit i=true:=by
 obtain ⟨i,hi⟩:=Nat.exists_testBit_of_ne_zero (x:=g) (by omega)
 refine ⟨i,Nat.lt_of_not_le fun hn=>?_,hi⟩
 rw [Nat.testBit_lt_two_pow (Nat.lt_of_lt_of_le h2 (Nat.pow_le_pow_right (by decide) hn))] at hi
 exact absurd hi (by decide)
def ze1 (m:KM) (i:Int):List (BitVec 64):=m.rel.getD i.toNat []
def zer (m:KM) (g:Int):List (BitVec 64):=(zaD (fun x y=>x|||y) m g.toNat m.rel.length).getD []
def zjE (m:KM) (g:Int):List (BitVec 64):=(zaD (fun x y=>x&&&y) m g.toNat m.rel.length).getD []
theorem zuV {op:BitVec 64→BitVec 64→BitVec 64} {m:KM} (hg:zdX m) (hop : ∀ (x y:BitVec 64) i,(op x y).getLsbD i=true→x.getLsbD i=true∨y.getLsbD i=true) {g:Nat} : ∀ {k:Nat} {r:List (BitVec 64)},k≤m.rel.length→zaD op m g k=some r→zl5 r
 | 0,_,_,h=>by cases h
 | k+1,r,hk,h=>by
  have w1:=hg.w1
  have hin:zl5 (m.rel.getD k []):=fun v w hb=>by
   have hm:m.rel.getD k []∈m.rel:=by rw [List.getD,List.getElem?_eq_getElem (by omega)];exact List.getElem_mem _
   have:=hg.len _ hm
   have:=zlc hg (i:=k) (v:=v) hb
   omega
  rw [zaD] at h
  split at h
  ·cases hz:zaD op m g k with
   | none =>
    rw [hz] at h
    have e:m.rel.getD k []=r:=Option.some.inj h
    rw [← e];exact hin
   | some a =>
    have hal:=znC hg (by omega) hz
    have ha:=zuV hg hop (by omega) hz
    rw [hz] at h
    have e:=Option.some.inj h
    intro v w hb
    rw [← e,List.length_map,List.length_range]
    rw [← e] at hb
    unfold rb at hb
    by_cases hv:v < m.W.toNat
    ·rw [List.getD,List.getElem?_map,List.getElem?_range hv] at hb
     rcases hop _ _ _ hb with h1|h1
     ·have:=ha v w h1;omega
     ·have:=hin v w h1
      have hm:m.rel.getD k []∈m.rel:=by rw [List.getD,List.getElem?_eq_getElem (by omega)];exact List.getElem_mem _
      have:=hg.len _ hm
      omega
    ·rw [List.getD,List.getElem?_eq_none (by simp;omega)] at hb
     simp at hb
  ·exact zuV hg hop (by omega) h
theorem zj8 {op:BitVec 64→BitVec 64→BitVec 64} {m:KM} (hk0:za m=0) (hop : ∀ (x y:BitVec 64) i,(op x y).getLsbD i=true→x.getLsbD i=true∨y.getLsbD i=true) {g:Nat} (h1:1≤g) (h2:g < 2 ^ m.rel.length):zas ((zaD op m g m.rel.length).getD [])=0∧((zaD op m g m.rel.length).getD []).length=m.W.toNat:=by
 have hg:=zx hk0
 have w2:=hg.w2
 obtain ⟨r,hr⟩:=zla (op:=op) (m:=m) (zmc h1 h2)
 have hl:=znC hg (Nat.le_refl _) hr
 rw [hr]
 exact ⟨zb1.2 ⟨by show r.length≤64;omega,zuV hg hop (Nat.le_refl _) hr⟩,hl⟩
theorem zyb : ∀ (x y:BitVec 64) (i:Nat),(x|||y).getLsbD i=true→x.getLsbD i=true∨y.getLsbD i=true:=fun x y i h=>by
 rwa [BitVec.getLsbD_or,Bool.or_eq_true] at h
theorem zyD : ∀ (x y:BitVec 64) (i:Nat),(x&&&y).getLsbD i=true→x.getLsbD i=true∨y.getLsbD i=true:=fun x y i h=>by
 rw [BitVec.getLsbD_and,Bool.and_eq_true] at h
 exact .inl h.1
noncomputable def zbX (m:KM) (h:Hd) (x y:BitVec 64):BitVec 64×Bool :=
 if h.op=1 then (zbc m.W,true) else if h.op=2 then (0#64,true) else if h.op=3 then (if (m.val.length:Int)≤h.i then (0#64,false) else (m.val.getD h.i.toNat 0#64,true)) else
 if h.op=4 then (zbc m.W &&& ~~~x,true) else if h.op=5 then (x&&&y,true) else if h.op=6 then (x|||y,true) else if h.op=7 then (zbc m.W &&& ~~~x|||y,true) else if h.op=8 then (zbc m.W &&& ~~~(x ^^^ y),true) else
 if h.op=9 then (if (m.rel.length:Int)≤h.i then (0#64,false) else (zfG (ze1 m h.i) x,true)) else if h.op=10 then (if (m.rel.length:Int)≤h.i then (0#64,false) else (zpi (ze1 m h.i) x,true)) else
 if h.op=11 then (if (2:Int) ^ m.rel.length≤h.g then (0#64,false) else (zfG (zer m h.g) x,true)) else if h.op=12 then (if (2:Int) ^ m.rel.length≤h.g then (0#64,false) else (zfG (zjE m h.g) x,true)) else
 if h.op=13 then (if (2:Int) ^ m.rel.length≤h.g then (0#64,false) else (zpg (zer m h.g) x y,true)) else (0#64,false)
end Go.Ab
namespace Go.Ab
open Go Go.Proofs
set_option maxRecDepth 10000
set_option maxHeartbeats 4000000
variable {T:Nat→Obj→Prop}
theorem zAN {W:Int} (h1:1≤W) (h2:W≤64):(18446744073709551615#64) >>> (64 - W).toNat=zbc W:=by
 apply BitVec.eq_of_getLsbD_eq
 intro i hi
 rw [zfD (by omega) hi,BitVec.getLsbD_ushiftRight,show (18446744073709551615#64)=BitVec.allOnes 64 from rfl,BitVec.getLsbD_allOnes,Bool.eq_iff_iff]
 simp only [decide_eq_true_eq]
 omega
theorem zy8 {m:KM} (hk0:za m=0) (op i e:Int) (g:Nat) (nx ny:Int) (s t:BitVec 64) (h3:op=3∨op=9∨op=10→0≤i) (hg1:11≤op∧op≤13→1≤g) :
  Fn Tryz.prog T zgj [.d (dKM m),.d (.agg [.int .i64 op,.int .i64 i,.int .i64 e,.int .i64 (g:Int),.int .i64 nx,.int .i64 ny]),.d (.u64 s),.d (.u64 t)] [] (.d (.tup [.u64 (zbX m ⟨op,i,e,(g:Int)⟩ s t).1,.bool (zbX m ⟨op,i,e,(g:Int)⟩ s t).2])) []:=by
 have gm:=zx hk0
 have w1:=gm.w1
 have w2:=gm.w2
 have n4:=gm.n4
 have hsh:=zAN w1 w2
 refine zb zn zq0 (by show 4≤129;decide) ?_
 have hrow : ∀ {r:List (BitVec 64)},m.rel[i.toNat]? = some r→0≤i→i < m.rel.length→zas r=0∧ze1 m i=r:=fun {r} h h0 h1=>by
  have e:ze1 m i=r:=by unfold ze1;rw [List.getD,h];rfl
  have hm:=List.mem_of_getElem? h
  have h2:=gm.len _ hm
  refine ⟨zb1.2 ⟨by show r.length≤64;omega,fun v w hb=>?_⟩,e⟩
  rw [← e] at hb
  have:w < m.W.toNat:=zlc gm (i:=i.toNat) (v:=v) hb
  omega
 have cgx:=fun h1 h2=>zzc (T:=T) hk0 (g:=g) h1 h2
 have cmx:=fun h1 h2=>zBl (T:=T) hk0 (g:=g) h1 h2
 have hp2:(1 * 2 ^ min ((m.rel.length:Nat):Int).toNat IntKind.i64.bits:Int)=(2:Int) ^ m.rel.length:=by
  rw [show min ((m.rel.length:Nat):Int).toNat IntKind.i64.bits=m.rel.length from Nat.min_eq_left (show m.rel.length≤64 by omega)];omega
 have key : ∀ {a:BitVec 64×Bool} {o:Option D},o=some (D.tup [.u64 a.1,.bool a.2]) → ∀ {b:BitVec 64×Bool},a=b→o=some (D.tup [.u64 b.1,.bool b.2]):=fun h b e=>e▸h
 have hp1:inR .i64 (1 * 2 ^ min ((m.rel.map dU).length:Int).toNat IntKind.i64.bits:Int):=by
  rw [List.length_map]
  have:m.rel.length=0∨m.rel.length=1∨m.rel.length=2∨m.rel.length=3∨m.rel.length=4:=by omega
  rcases this with h|h|h|h|h<;>rw [h]<;>decide
 have hl2:(m.rel.map dU).length=m.rel.length:=List.length_map ..
 have hgg:11≤op∧op≤13→(g:Int) < 2 ^ m.rel.length→1≤g∧(g:Int) < 2 ^ m.rel.length:=fun h1 h2=>⟨hg1 h1,h2⟩
 have hgn:(g:Int) < 2 ^ m.rel.length→g < 2 ^ m.rel.length:=fun h=>by
  have:((2 ^ m.rel.length:Nat):Int)=(2:Int) ^ m.rel.length:=by simp
  omega
 have hgr:1≤g→(g:Int) < 2 ^ m.rel.length→zas (zer m (g:Int))=0:=fun h1 h2=>(zj8 hk0 zyb h1 (hgn h2)).1
 have hgl:1≤g→(g:Int) < 2 ^ m.rel.length→(((zer m (g:Int)).length:Nat):Int)=m.W:=fun h1 h2=>by
  have:=(zj8 hk0 zyb h1 (hgn h2)).2
  rw [show (zer m (g:Int)).length=m.W.toNat from this];omega
 have hmr:1≤g→(g:Int) < 2 ^ m.rel.length→zas (zjE m (g:Int))=0:=fun h1 h2=>(zj8 hk0 zyD h1 (hgn h2)).1
 (repeat' ((conv=>whnf);first|refine vA ?_|(refine vF ?_ ?_<;>intro hc<;>try simp only [vL] at hc)|refine vJ fun hg=>?_|refine vT ?_|((first|refine vO ?_ ?_|refine vS ?_ fun x hx=>?_|refine vP ?_ ?_);·omega)|(refine vU ?_ ?_;·kernel_rfl)|fail));all_goals try conv=>whnf
 all_goals first|(exfalso;omega)|(simp only [zbX, *,if_true,if_false];rfl)|skip
 ·refine key (a:=(zbc m.W,true)) (by rw [← hsh];rfl) ?_
  simp only [zbX, *,if_true]
 ·refine key (a:=(x,true)) rfl ?_
  simp only [zbX, *,if_true,if_false,show ¬(m.val.length:Int)≤i by omega,List.getD];simp
 ·refine key (a:=(zbc m.W &&& ~~~s,true)) (by rw [← hsh];rfl) ?_
  simp only [zbX, *,if_true,if_false];simp
 ·refine key (a:=(zbc m.W &&& ~~~s|||t,true)) (by rw [← hsh];rfl) ?_
  simp only [zbX, *,if_true,if_false];simp
 ·refine key (a:=(zbc m.W &&& ~~~(s ^^^ t),true)) (by rw [← hsh];rfl) ?_
  simp only [zbX, *,if_true,if_false];simp
 ·obtain ⟨r1,r2⟩:=hrow hx (by omega) (by omega)
  refine zK.data (zhx (r:=x) s r1) (by (repeat refine ⟨⟨rfl,rfl⟩,?_⟩);rfl) rfl ?_
  (repeat' ((conv=>whnf);refine vT ?_));all_goals try conv=>whnf
  refine key (a:=(zfG x s,true)) rfl ?_
  simp only [zbX, *,if_true,if_false,show ¬(m.rel.length:Int)≤i by omega];simp
 ·obtain ⟨r1,r2⟩:=hrow hx (by omega) (by omega)
  refine zK.data (ztE (r:=x) s r1) (by (repeat refine ⟨⟨rfl,rfl⟩,?_⟩);rfl) rfl ?_
  (repeat' ((conv=>whnf);refine vT ?_));all_goals try conv=>whnf
  refine key (a:=(zpi x s,true)) rfl ?_
  have h10:op=10:=by omega
  subst h10
  rw [show zbX m ⟨10,i,e,(g:Int)⟩ s t=(zpi (ze1 m i) s,true) from if_neg (show ¬(m.rel.length:Int)≤i by omega),r2]
 ·refine zkG.fit hp1 ?_
  (repeat' ((conv=>whnf);first|refine vA ?_|(refine vF ?_ ?_<;>intro hc<;>try simp only [vL] at hc)|refine vT ?_|(refine vU ?_ ?_;·kernel_rfl)|fail));all_goals try conv=>whnf
  all_goals first|(exfalso;omega)|skip
  ·refine key (a:=(0#64,false)) rfl ?_
   obtain rfl:op=11:=by omega
   exact (if_pos (show (2:Int) ^ m.rel.length≤(g:Int) by rw [← hp2];assumption)).symm
  ·obtain ⟨g1,g2⟩:=hgg (by omega) (by rw [← hp2];assumption)
   have c1:=cgx g1 g2
   have r1:=hgr g1 g2
   change Fn _ _ _ _ _ (.d (dU (zer m (g:Int)))) _ at c1
   generalize hG:zer m (g:Int)=G at c1 r1
   refine zK.dataN (c1) (by (repeat refine ⟨⟨rfl,rfl⟩,?_⟩);rfl) ?_
   (repeat' ((conv=>whnf);first|refine vA ?_|(refine vF ?_ ?_<;>intro hc)|refine vT ?_));all_goals try conv=>whnf
   all_goals first|(exfalso;omega)|skip
   refine zK.data (zhx (r:=G) s r1) (by (repeat refine ⟨⟨rfl,rfl⟩,?_⟩);rfl) rfl ?_
   (repeat' ((conv=>whnf);refine vT ?_));all_goals try conv=>whnf
   subst hG
   refine key (a:=(zfG (zer m (g:Int)) s,true)) rfl ?_
   obtain rfl:op=11:=by omega
   exact (if_neg (show ¬(2:Int) ^ m.rel.length≤(g:Int) by omega)).symm
 ·refine zkG.fit hp1 ?_
  (repeat' ((conv=>whnf);first|refine vA ?_|(refine vF ?_ ?_<;>intro hc<;>try simp only [vL] at hc)|refine vT ?_|(refine vU ?_ ?_;·kernel_rfl)|fail));all_goals try conv=>whnf
  all_goals first|(exfalso;omega)|skip
  ·refine key (a:=(0#64,false)) rfl ?_
   obtain rfl:op=12:=by omega
   exact (if_pos (show (2:Int) ^ m.rel.length≤(g:Int) by rw [← hp2];assumption)).symm
  ·obtain ⟨g1,g2⟩:=hgg (by omega) (by rw [← hp2];assumption)
   have c1:=cmx g1 g2
   have r1:=hmr g1 g2
   change Fn _ _ _ _ _ (.d (dU (zjE m (g:Int)))) _ at c1
   generalize hG:zjE m (g:Int)=G at c1 r1
   refine zK.dataN (c1) (by (repeat refine ⟨⟨rfl,rfl⟩,?_⟩);rfl) ?_
   (repeat' ((conv=>whnf);refine vT ?_));all_goals try conv=>whnf
   all_goals first|(exfalso;omega)|skip
   refine zK.data (zhx (r:=G) s r1) (by (repeat refine ⟨⟨rfl,rfl⟩,?_⟩);rfl) rfl ?_
   (repeat' ((conv=>whnf);refine vT ?_));all_goals try conv=>whnf
   subst hG
   refine key (a:=(zfG (zjE m (g:Int)) s,true)) rfl ?_
   obtain rfl:op=12:=by omega
   exact (if_neg (show ¬(2:Int) ^ m.rel.length≤(g:Int) by omega)).symm
 ·refine zkG.fit hp1 ?_
  (repeat' ((conv=>whnf);first|refine vA ?_|(refine vF ?_ ?_<;>intro hc<;>try simp only [vL] at hc)|refine vT ?_|(refine vU ?_ ?_;·kernel_rfl)|fail));all_goals try conv=>whnf
  all_goals first|(exfalso;omega)|skip
  ·refine key (a:=(0#64,false)) rfl ?_
   obtain rfl:op=13:=by omega
   exact (if_pos (show (2:Int) ^ m.rel.length≤(g:Int) by rw [← hp2];assumption)).symm
  ·obtain ⟨g1,g2⟩:=hgg (by omega) (by rw [← hp2];assumption)
   have c1:=cgx g1 g2
   have r1:=hgr g1 g2
   have l1:=hgl g1 g2
   change Fn _ _ _ _ _ (.d (dU (zer m (g:Int)))) _ at c1
   generalize hG:zer m (g:Int)=G at c1 r1 l1
   refine zK.dataN (c1) (by (repeat refine ⟨⟨rfl,rfl⟩,?_⟩);rfl) ?_
   (repeat' ((conv=>whnf);first|refine vA ?_|(refine vF ?_ ?_<;>intro hc)|refine vT ?_));all_goals try conv=>whnf
   all_goals first|(exfalso;omega)|skip
   have hcm:=zy7 (T:=T) (r:=G) s t r1
   rw [l1,← hsh] at hcm
   refine zK.data (hcm) (by (repeat refine ⟨⟨rfl,rfl⟩,?_⟩);rfl) rfl ?_
   (repeat' ((conv=>whnf);refine vT ?_));all_goals try conv=>whnf
   subst hG
   refine key (a:=(zpg (zer m (g:Int)) s t,true)) rfl ?_
   obtain rfl:op=13:=by omega
   exact (if_neg (show ¬(2:Int) ^ m.rel.length≤(g:Int) by omega)).symm
 all_goals skip
end Go.Ab
namespace Go.Ab
open Go Go.Proofs
set_option maxRecDepth 10000
set_option maxHeartbeats 4000000
variable {T:Nat→Obj→Prop}
theorem zrt {β:Type} (v:Hd→β→β→β) (d:β) (n:Nd) : ∀ (l:List Nd) (acc:List β),zdp v d (l++[n]) acc=zdp v d l acc++[v n.hd ((zdp v d l acc).getD n.x.toNat d) ((zdp v d l acc).getD n.y.toNat d)]
 | [],acc=>rfl
 | m::r,acc=>by rw [List.cons_append,zdp,zdp,zrt v d n r]
theorem zpt {α:Type} (l:List α) (n:Nat) (d:α) (i:Nat):(l++List.replicate n d).getD i d=l.getD i d:=by
 rcases Nat.lt_or_ge i l.length with h|h
 ·simp [List.getD,List.getElem?_append_left h]
 ·rw [List.getD,List.getElem?_append_right h,List.getD,List.getElem?_eq_none h]
  rcases Nat.lt_or_ge (i - l.length) n with h2|h2
  ·rw [List.getElem?_replicate,if_pos h2];rfl
  ·rw [List.getElem?_eq_none (by simpa using h2)]
noncomputable def vnK (m:KM) (h:Hd) (a b:BitVec 64×Bool):BitVec 64×Bool :=
 if (4≤h.op→a.2=true)∧(5≤h.op∧h.op≤8∨h.op=13→b.2=true) then zbX m h a.1 b.1 else (0#64,false)
noncomputable def zad (m:KM) (f:List Nd) (k:Nat):List (BitVec 64×Bool):=zdp (vnK m) (0#64,false) (f.take k) []++List.replicate (f.length - k) (0#64,false)
theorem zz8 (m:KM) (f:List Nd) {k:Nat} (hk:k≤f.length):(zad m f k).length=f.length:=by
 unfold zad
 rw [List.length_append,ziW,List.length_replicate,List.length_take];simp;omega
theorem zyl (m:KM) {f:List Nd} {k:Nat} {n:Nd} (hn:f[k]? = some n):zad m f (k+1)=(zad m f k).set k (vnK m n.hd ((zad m f k).getD n.x.toNat (0#64,false)) ((zad m f k).getD n.y.toNat (0#64,false))):=by
 have hk:k < f.length:=(List.getElem?_eq_some_iff.1 hn).1
 have hl:(zdp (vnK m) (0#64,false) (f.take k) []).length=k:=by rw [ziW];simp;omega
 have e:f.length - k=(f.length - (k+1))+1:=by omega
 unfold zad
 rw [zpt,zpt,List.take_add_one,hn,show (some n).toList=[n] from rfl,zrt,e,List.replicate_succ,List.set_append_right _ _ (by omega),hl,Nat.sub_self,List.set_cons_zero,List.append_assoc]
 rfl
theorem zrp (m:KM) (f:List Nd):zad m f 0=List.replicate f.length (0#64,false):=rfl
theorem zz7 (m:KM) (f:List Nd):zad m f f.length=zdp (vnK m) (0#64,false) f []:=by
 unfold zad
 rw [List.take_length,Nat.sub_self];simp
def zbw (m:KM) (f:List Nd):Int :=
 if za m≠0 then za m else if zdi f≠0 then zdi f else if zbx .i64 (fun p q=>p &&& ~~~q) (uni zcJ (cL f):Int) 15≠0 then 10 else if zk8 f m.rel.length m.val.length=false then 2 else 0
theorem zky {m:KM} {f:List Nd} (h:zbw m f=0):za m=0∧zdi f=0∧zbx .i64 (fun p q=>p &&& ~~~q) (uni zcJ (cL f):Int) 15=0∧zk8 f m.rel.length m.val.length=true:=by
 unfold zbw at h
 split at h
 ·contradiction
 ·split at h
  ·contradiction
  ·split at h
   ·cases h
   ·split at h
    ·cases h
    ·rename_i h1 h2 h3 h4
     exact ⟨by omega,by omega,by omega,by simpa using h4⟩
noncomputable def zjx (m:KM) (f:List Nd):List (BitVec 64):=if zbw m f≠0 then [] else (zdp (vnK m) (0#64,false) f []).map Prod.fst
noncomputable def zdM (m:KM) (f:List Nd):BitVec 64×Int:=if zbw m f≠0 then (0#64,zbw m f) else (((zdp (vnK m) (0#64,false) f []).getD (f.length - 1) (0#64,false)).1,0)
theorem zqT {m:KM} {f:List Nd} (h:zbw m f≠0):zdM m f=(0#64,zbw m f):=if_pos h
theorem zwe (m:KM) (f:List Nd):Fn Tryz.prog T zhO [.d (dKM m),.d (dF f)] [] (.d (.int .i64 (zbw m f))) []:=by
 refine zb zn zoc (by show 2≤30;decide) ?_
 (repeat' ((conv=>whnf);first|refine vA ?_|refine vE ?_|((first|refine vD ?_ ?_|refine vI ?_ ?_)<;>intro hc<;>try simp only [vL] at hc)|refine vJ fun hg=>?_|refine vT ?_|refine vX ?_|refine yD (zaI _) ⟨⟨rfl,rfl⟩,rfl⟩ rfl ?_|refine yD (zmL _) ⟨⟨rfl,rfl⟩,rfl⟩ rfl ?_|refine yD (zBg _) ⟨⟨rfl,rfl⟩,rfl⟩ rfl ?_|refine yD (zCZ _ _ _) ⟨⟨rfl,rfl⟩,⟨rfl,rfl⟩,⟨rfl,rfl⟩,rfl⟩ rfl ?_));all_goals try conv=>whnf
 ·have e:zbw m f=za m:=if_pos ‹_›
  rw [e]
 ·have e:zbw m f=zdi f:=by rw [zbw,if_neg (by omega),if_pos ‹_›]
  rw [e]
 ·have e:zbw m f=10:=by rw [zbw,if_neg (by omega),if_neg (by omega),if_pos ‹_›]
  rw [e]
 ·have e:zbw m f=0:=by rw [zbw,if_neg (by omega),if_neg (by omega),if_neg (by omega),if_neg (by simp [*])]
  rw [e]
 ·have e:zbw m f=2:=by rw [zbw,if_neg (by omega),if_neg (by omega),if_neg (by omega),if_pos ‹_›]
  rw [e]
theorem zxT {m:KM} (hk0:za m=0) {n:Nd} {k:Int} (hn:zeU n k=0) (s t:BitVec 64) :
  Fn Tryz.prog T zgj [.d (dKM m),.d (dNd n),.d (.u64 s),.d (.u64 t)] [] (.d (.tup [.u64 (zbX m n.hd s t).1,.bool (zbX m n.hd s t).2])) []:=by
 have hh:=(zdm.1 hn).1
 have hg:0≤n.g∧(11≤n.op∧n.op≤13→1≤n.g):=by
  cases hg:zY n.op with
  | true=>have:1≤n.g∧n.g≤15:=hh.group hg;omega
  | false =>
   have:n.g=0:=hh.g0 hg
   have h2 : ¬(11≤n.op∧n.op≤13):=by simpa [zY] using hg
   omega
 have h3:n.op=3∨n.op=9∨n.op=10→0≤n.i:=fun e=>by
  rcases e with e|e|e
  ·have:0≤n.i∧n.i≤7:=hh.fact (decide_eq_true e)
   omega
  ·have:0≤n.i∧n.i≤3:=hh.agent (decide_eq_true (.inl e))
   omega
  ·have:0≤n.i∧n.i≤3:=hh.agent (decide_eq_true (.inr (.inl e)))
   omega
 clear hh hn
 obtain ⟨op,i,e,g,nx,ny⟩:=n
 dsimp only at hg h3
 obtain ⟨G,rfl⟩ : ∃ G:Nat,g=(G:Int):=⟨g.toNat,by omega⟩
 exact zy8 hk0 op i e G nx ny s t h3 (fun h=>by have:=hg.2 h;omega)
theorem zBk (m:KM) (f:List Nd):Fn Tryz.prog T zjX [.d (dKM m),.d (dF f)] [] (.d (.tup [dU (zjx m f),.int .i64 (zbw m f)])) []:=by
 have cq:=zwe (T:=T) m f
 refine zb zn zsb (by show 2≤85;decide) ?_
 by_cases hr:zbw m f=0
 ·obtain ⟨hk0,hf0,-,-⟩:=zky hr
  obtain ⟨p1,p2,p3⟩:=zfZ.1 hf0
  rw [hr] at cq ⊢
  (repeat' ((conv=>whnf);first|refine vA ?_|refine vH ?_|refine vJ fun hg=>?_|refine vT ?_|(refine vP ?_ ?_;·(simp only [vM] at *;omega))|refine yD cq ⟨⟨rfl,rfl⟩,⟨rfl,rfl⟩,rfl⟩ rfl ?_));all_goals try conv=>whnf
  refine zy (fun ((k,zs,bs):Nat×List D×List D)=>[(2,.ptr 0 0),(7,.own 1),(8,.own 2),(24,.d (dF f)),(25,.d (.int .i64 (((f.map dNd).length:Int)))),(26,.d (.int .i64 ((k:Int))))]) (fun ((k,zs,bs):Nat×List D×List D)=>[(0,some (zco m)),(1,some (.row 1 zs)),(2,some (.row 1 bs))]) 3 (fun ((k,zs,bs):Nat×List D×List D)=>k≤f.length∧zs=(zad m f k).map (fun p=>D.u64 p.1)∧bs=(zad m f k).map (fun p=>D.bool p.2)) (fun ((k,zs,bs):Nat×List D×List D)=>f.length - k) ((0,List.replicate ((f.map dNd).length:Int).toNat (.u64 0#64),List.replicate ((f.map dNd).length:Int).toNat (.bool false))) [(0,0),(1,1),(2,2)] [] (⟨by omega,by rw [zrp,List.map_replicate,Int.toNat_natCast,List.length_map],by rw [zrp,List.map_replicate,Int.toNat_natCast,List.length_map]⟩) (by (refine ⟨rfl,rfl,rfl,?_,?_⟩;repeat' first|exact trivial|exact rfl|refine And.intro ?_ ?_|refine ⟨_,rfl,?_⟩|decide)) ?_
  rintro ⟨k,zs,bs⟩ ⟨hk,rfl,rfl⟩
  have hlen:=zz8 m f hk
  have hl1:((zad m f k).map fun p=>D.u64 p.1).length=f.length:=by rw [List.length_map,hlen]
  have hl2:((zad m f k).map fun p=>D.bool p.2).length=f.length:=by rw [List.length_map,hlen]
  by_cases hkl:k < f.length
  ·obtain ⟨n,hn⟩ : ∃ n,f[k]? = some n:=⟨f[k],by simp [hkl]⟩
   have hst:=zyl m hn
   have hne:=p3 k n hn
   have hxy:=zdm.1 hne
   have hxb:0≤n.x∧n.x < f.length:=by
    cases hu:zaG n.op with
    | true=>have:=hxy.2.1 hu;omega
    | false=>have:=hxy.2.2.1 hu;omega
   have hyb:0≤n.y∧n.y < f.length:=by
    cases hu:zau n.op with
    | true=>have:=hxy.2.2.2.1 hu;omega
    | false=>have:=hxy.2.2.2.2 hu;omega
   clear hxy
   have yes : ∀ {a b:BitVec 64×Bool},(zad m f k)[n.x.toNat]? = some a→(zad m f k)[n.y.toNat]? = some b→(4≤n.op→a.2=true)→(5≤n.op∧n.op≤8∨n.op=13→b.2=true)→zad m f (k+1)=(zad m f k).set k (zbX m n.hd a.1 b.1):=fun {a b} ha hb h1 h2=>by
    rw [hst,List.getD,ha,List.getD,hb]
    exact congrArg ((zad m f k).set k) (if_pos ⟨h1,h2⟩)
   have no:(∀ {a b:BitVec 64×Bool},(zad m f k)[n.x.toNat]? = some a→(zad m f k)[n.y.toNat]? = some b → ¬((4≤n.op→a.2=true)∧(5≤n.op∧n.op≤8∨n.op=13→b.2=true)))→zad m f (k+1)=zad m f k:=fun h=>by
    obtain ⟨a,ha⟩ : ∃ a,(zad m f k)[n.x.toNat]? = some a:=⟨_,List.getElem?_eq_getElem (by omega)⟩
    obtain ⟨b,hb⟩ : ∃ b,(zad m f k)[n.y.toNat]? = some b:=⟨_,List.getElem?_eq_getElem (by omega)⟩
    rw [hst,List.getD,ha,List.getD,hb]
    have e:vnK m n.hd a b=(0#64,false):=if_neg (h ha hb)
    rw [show vnK m n.hd ((some a).getD (0#64,false)) ((some b).getD (0#64,false))=(0#64,false) from e]
    refine List.ext_getElem (by simp) fun i h1 h2=>?_
    rw [List.getElem_set]
    split
    ·rename_i e2
     subst e2
     have:=zpt (zdp (vnK m) (0#64,false) (f.take k) []) (f.length - k) (0#64,false) k
     rw [List.getD,List.getD,List.getElem?_eq_none (show (zdp (vnK m) (0#64,false) (f.take k) []).length≤k by rw [ziW,List.length_take];simp;omega)] at this
     rw [show zdp (vnK m) (0#64,false) (f.take k) []++List.replicate (f.length - k) (0#64,false)=zad m f k from rfl,List.getElem?_eq_getElem h2] at this
     exact this.symm
    ·rfl
   (repeat' ((conv=>whnf);first|refine vA ?_|((first|refine vF ?_ ?_|refine vI ?_ ?_)<;>intro hc<;>try simp only [vL] at hc)|refine vT ?_|refine vN ‹_› ?_|(refine vQ ?_ fun x hx=>?_;·omega)|((first|refine vO ?_ ?_|refine vP ?_ ?_);·omega)|(refine vU ?_ ?_;·kernel_rfl)|refine yN (zxT hk0 hne _ _) (by (repeat refine ⟨⟨rfl,rfl⟩,?_⟩);rfl) ?_));all_goals try conv=>whnf
   all_goals first|(exfalso;omega)|skip
   ·refine ⟨(k+1,_,_),[(0,0),(1,1),(2,2)],[],?_,?_,by (refine ⟨rfl,rfl,rfl,?_,?_⟩;repeat' first|exact trivial|exact rfl|refine And.intro ?_ ?_|refine ⟨_,rfl,?_⟩|decide)⟩
    ·have e:=yes ‹(zad m f k)[n.x.toNat]? = some _› ‹(zad m f k)[n.y.toNat]? = some _› (fun _=>by first|assumption|(exfalso;omega)) (fun _=>by first|assumption|(exfalso;omega))
     exact ⟨by (omega),by rw [e,List.map_set];rfl,by rw [e,List.map_set];rfl⟩
    ·((simp only [vM] at *;omega))
   ·refine ⟨(k+1,_,_),[(0,0),(1,1),(2,2)],[],?_,?_,by (refine ⟨rfl,rfl,rfl,?_,?_⟩;repeat' first|exact trivial|exact rfl|refine And.intro ?_ ?_|refine ⟨_,rfl,?_⟩|decide)⟩
    ·have hX:=‹(zad m f k)[n.y.toNat]? = some _›
     have e:=no fun {a b} ha hb hv=>by
      have e1:=Option.some.inj (hb.symm.trans hX)
      have e2:=hv.2 (by omega)
      rw [e1] at e2
      exact absurd (e2.symm.trans ‹_=false›) (by decide)
     exact ⟨by (omega),by rw [e],by rw [e]⟩
    ·((simp only [vM] at *;omega))
   ·refine ⟨(k+1,_,_),[(0,0),(1,1),(2,2)],[],?_,?_,by (refine ⟨rfl,rfl,rfl,?_,?_⟩;repeat' first|exact trivial|exact rfl|refine And.intro ?_ ?_|refine ⟨_,rfl,?_⟩|decide)⟩
    ·have hX:=‹(zad m f k)[n.x.toNat]? = some _›
     have e:=no fun {a b} ha hb hv=>by
      have e1:=Option.some.inj (ha.symm.trans hX)
      have e2:=hv.1 (by omega)
      rw [e1] at e2
      exact absurd (e2.symm.trans ‹_=false›) (by decide)
     exact ⟨by (omega),by rw [e],by rw [e]⟩
    ·((simp only [vM] at *;omega))
   ·refine ⟨(k+1,_,_),[(0,0),(1,1),(2,2)],[],?_,?_,by (refine ⟨rfl,rfl,rfl,?_,?_⟩;repeat' first|exact trivial|exact rfl|refine And.intro ?_ ?_|refine ⟨_,rfl,?_⟩|decide)⟩
    ·have e:=yes ‹(zad m f k)[n.x.toNat]? = some _› ‹(zad m f k)[n.y.toNat]? = some _› (fun _=>by first|assumption|(exfalso;omega)) (fun _=>by first|assumption|(exfalso;omega))
     exact ⟨by (omega),by rw [e,List.map_set];rfl,by rw [e,List.map_set];rfl⟩
    ·((simp only [vM] at *;omega))
   ·refine ⟨(k+1,_,_),[(0,0),(1,1),(2,2)],[],?_,?_,by (refine ⟨rfl,rfl,rfl,?_,?_⟩;repeat' first|exact trivial|exact rfl|refine And.intro ?_ ?_|refine ⟨_,rfl,?_⟩|decide)⟩
    ·have hX:=‹(zad m f k)[n.y.toNat]? = some _›
     have e:=no fun {a b} ha hb hv=>by
      have e1:=Option.some.inj (hb.symm.trans hX)
      have e2:=hv.2 (by omega)
      rw [e1] at e2
      exact absurd (e2.symm.trans ‹_=false›) (by decide)
     exact ⟨by (omega),by rw [e],by rw [e]⟩
    ·((simp only [vM] at *;omega))
   ·refine ⟨(k+1,_,_),[(0,0),(1,1),(2,2)],[],?_,?_,by (refine ⟨rfl,rfl,rfl,?_,?_⟩;repeat' first|exact trivial|exact rfl|refine And.intro ?_ ?_|refine ⟨_,rfl,?_⟩|decide)⟩
    ·have hX:=‹(zad m f k)[n.x.toNat]? = some _›
     have e:=no fun {a b} ha hb hv=>by
      have e1:=Option.some.inj (ha.symm.trans hX)
      have e2:=hv.1 (by omega)
      rw [e1] at e2
      exact absurd (e2.symm.trans ‹_=false›) (by decide)
     exact ⟨by (omega),by rw [e],by rw [e]⟩
    ·((simp only [vM] at *;omega))
   ·refine ⟨(k+1,_,_),[(0,0),(1,1),(2,2)],[],?_,?_,by (refine ⟨rfl,rfl,rfl,?_,?_⟩;repeat' first|exact trivial|exact rfl|refine And.intro ?_ ?_|refine ⟨_,rfl,?_⟩|decide)⟩
    ·have e:=yes ‹(zad m f k)[n.x.toNat]? = some _› ‹(zad m f k)[n.y.toNat]? = some _› (fun _=>by first|assumption|(exfalso;omega)) (fun _=>by first|assumption|(exfalso;omega))
     exact ⟨by (omega),by rw [e,List.map_set];rfl,by rw [e,List.map_set];rfl⟩
    ·((simp only [vM] at *;omega))
   ·refine ⟨(k+1,_,_),[(0,0),(1,1),(2,2)],[],?_,?_,by (refine ⟨rfl,rfl,rfl,?_,?_⟩;repeat' first|exact trivial|exact rfl|refine And.intro ?_ ?_|refine ⟨_,rfl,?_⟩|decide)⟩
    ·have hX:=‹(zad m f k)[n.x.toNat]? = some _›
     have e:=no fun {a b} ha hb hv=>by
      have e1:=Option.some.inj (ha.symm.trans hX)
      have e2:=hv.1 (by omega)
      rw [e1] at e2
      exact absurd (e2.symm.trans ‹_=false›) (by decide)
     exact ⟨by (omega),by rw [e],by rw [e]⟩
    ·((simp only [vM] at *;omega))
   ·refine ⟨(k+1,_,_),[(0,0),(1,1),(2,2)],[],?_,?_,by (refine ⟨rfl,rfl,rfl,?_,?_⟩;repeat' first|exact trivial|exact rfl|refine And.intro ?_ ?_|refine ⟨_,rfl,?_⟩|decide)⟩
    ·have e:=yes ‹(zad m f k)[n.x.toNat]? = some _› ‹(zad m f k)[n.y.toNat]? = some _› (fun _=>by first|assumption|(exfalso;omega)) (fun _=>by first|assumption|(exfalso;omega))
     exact ⟨by (omega),by rw [e,List.map_set];rfl,by rw [e,List.map_set];rfl⟩
    ·((simp only [vM] at *;omega))
   ·refine ⟨(k+1,_,_),[(0,0),(1,1),(2,2)],[],?_,?_,by (refine ⟨rfl,rfl,rfl,?_,?_⟩;repeat' first|exact trivial|exact rfl|refine And.intro ?_ ?_|refine ⟨_,rfl,?_⟩|decide)⟩
    ·have hX:=‹(zad m f k)[n.x.toNat]? = some _›
     have e:=no fun {a b} ha hb hv=>by
      have e1:=Option.some.inj (ha.symm.trans hX)
      have e2:=hv.1 (by omega)
      rw [e1] at e2
      exact absurd (e2.symm.trans ‹_=false›) (by decide)
     exact ⟨by (omega),by rw [e],by rw [e]⟩
    ·((simp only [vM] at *;omega))
   ·refine ⟨(k+1,_,_),[(0,0),(1,1),(2,2)],[],?_,?_,by (refine ⟨rfl,rfl,rfl,?_,?_⟩;repeat' first|exact trivial|exact rfl|refine And.intro ?_ ?_|refine ⟨_,rfl,?_⟩|decide)⟩
    ·have e:=yes ‹(zad m f k)[n.x.toNat]? = some _› ‹(zad m f k)[n.y.toNat]? = some _› (fun _=>by first|assumption|(exfalso;omega)) (fun _=>by first|assumption|(exfalso;omega))
     exact ⟨by (omega),by rw [e,List.map_set];rfl,by rw [e,List.map_set];rfl⟩
    ·((simp only [vM] at *;omega))
   all_goals skip
  ·obtain rfl:k=f.length:=by omega
   (repeat' ((conv=>whnf);first|refine vA ?_|((first|refine vF ?_ ?_|refine vI ?_ ?_)<;>intro hc<;>try simp only [vL] at hc)|refine vT ?_|refine vN ‹_› ?_|(refine vQ ?_ fun x hx=>?_;·omega)|((first|refine vO ?_ ?_|refine vP ?_ ?_);·omega)|fail));all_goals try conv=>whnf
   all_goals first|(exfalso;omega)|skip
   rw [zjx,if_neg (by omega),zz7]
   exact congrArg (fun l=>some (D.tup [.arr 1 l,.int .i64 0])) (List.map_map (f:=Prod.fst) (g:=D.u64)).symm
 ·(repeat' ((conv=>whnf);first|refine vA ?_|(refine vD ?_ ?_<;>intro hc)|refine vJ fun hg=>?_|refine vT ?_|(refine vP ?_ ?_;·omega)|refine yD cq ⟨⟨rfl,rfl⟩,⟨rfl,rfl⟩,rfl⟩ rfl ?_));all_goals try conv=>whnf
  ·rw [zjx,if_pos hr];rfl
  ·exact absurd hc hr
theorem zy6 (m:KM) (f:List Nd):Fn Tryz.prog T zjb [.d (dKM m),.d (dF f)] [] (.d (.tup [.u64 (zdM m f).1,.int .i64 (zdM m f).2])) []:=by
 have cs:=zBk (T:=T) m f
 refine zb zn zqZ (by show 2≤23;decide) ?_
 by_cases hr:zbw m f=0
 ·obtain ⟨hk0,hf0,-,-⟩:=zky hr
  obtain ⟨p1,p2,p3⟩:=zfZ.1 hf0
  have hl:(zjx m f).length=f.length:=by rw [zjx,if_neg (by omega),List.length_map,ziW];simp
  have e:zdM m f=((zjx m f).getD (f.length - 1) 0#64,0):=by
   rw [zdM,zjx,if_neg (by omega),if_neg (by omega)]
   congr 1
   simp only [List.getD,List.getElem?_map]
   cases (zdp (vnK m) (0#64,false) f [])[f.length - 1]? <;> rfl
  rw [hr] at cs
  rw [e]
  generalize zjx m f=S at *
  (repeat' ((conv=>whnf);first|refine vA ?_|refine vH ?_|refine vJ fun hg=>?_|refine vT ?_|((first|refine vO ?_ ?_|refine vS ?_ fun x hx=>?_);·(simp only [vM] at *;omega))|refine yN cs ⟨⟨rfl,rfl⟩,⟨rfl,rfl⟩,rfl⟩ ?_));all_goals try conv=>whnf
  all_goals first|(exfalso;omega)|skip
  have e3:S.getD (f.length - 1) 0#64=x:=by
   rw [List.getD,show f.length - 1=(((S.map D.u64).length:Int) - 1).toNat by rw [List.length_map];omega,hx];rfl
  rw [e3]
  rfl
 ·have e:=zqT hr
  rw [e]
  (repeat' ((conv=>whnf);first|refine vA ?_|(refine vD ?_ ?_<;>intro hc)|refine vJ fun hg=>?_|refine vT ?_|((first|refine vO ?_ ?_|refine vS ?_ fun x hx=>?_);·omega)|refine yN cs ⟨⟨rfl,rfl⟩,⟨rfl,rfl⟩,rfl⟩ ?_));all_goals try conv=>whnf
  all_goals first|exact absurd ‹zbw m f=0› hr|rfl
noncomputable def atK (m:KM) (w:Int) (f:List Nd):Bool×Int:=if zbw m f≠0 then (false,zbw m f) else if w < 0∨m.W≤w then (false,2) else ((zdM m f).1.getLsbD w.toNat,0)
theorem zE7 (m:KM) (w:Int) (f:List Nd):Fn Tryz.prog T zmy [.d (dKM m),.d (.int .i64 w),.d (dF f)] [] (.d (.tup [.bool (atK m w f).1,.int .i64 (atK m w f).2])) []:=by
 have cs:=zy6 (T:=T) m f
 refine zb zn zu0 (by show 3≤32;decide) ?_
 by_cases hr:zbw m f=0
 ·have e:(zdM m f).2=0:=by rw [zdM,if_neg (by omega)]
  rw [e] at cs
  unfold atK
  rw [if_neg (by omega)]
  generalize (zdM m f).1=s at *
  have e2:decide (s >>> w.toNat&&&1#64=1#64)=s.getLsbD w.toNat:=by
   rw [Bool.eq_iff_iff,decide_eq_true_eq];exact zcS s _
  (repeat' ((conv=>whnf);first|refine vA ?_|refine vH ?_|(refine vF ?_ ?_<;>intro hc<;>try simp only [vL] at hc)|refine vT ?_|(refine vP ?_ ?_;·omega)|refine yN cs ⟨⟨rfl,rfl⟩,⟨rfl,rfl⟩,rfl⟩ ?_));all_goals try conv=>whnf
  ·rw [if_pos (.inl ‹_›)];rfl
  ·rw [if_pos (.inr ‹_›)];rfl
  ·rw [if_neg (by omega),← e2];rfl
 ·rw [atK,if_pos hr]
  rw [zqT hr] at cs
  dsimp only at cs
  (repeat' ((conv=>whnf);first|refine vA ?_|((first|refine vD ?_ ?_|refine vF ?_ ?_)<;>intro hc<;>try simp only [vL] at hc)|refine vT ?_|(refine vP ?_ ?_;·omega)|refine yN cs ⟨⟨rfl,rfl⟩,⟨rfl,rfl⟩,rfl⟩ ?_));all_goals try conv=>whnf
  all_goals first|exact absurd ‹zbw m f=0› hr|rfl
end Go.Ab
namespace Go.Ab
open Go
theorem zCk (m:KM):zDM (vnK m) where
 x h a b c hx:=by
  have hx : ¬(4≤h.op∧h.op≤21):=by simpa [zaG] using hx
  unfold vnK zbX
  by_cases h4:4≤h.op
  ·have e : ∀ k:Int,k≤21 → ¬h.op=k:=fun k hk=>by omega
   simp only [e 1 (by decide),e 2 (by decide),e 3 (by decide),e 4 (by decide),e 5 (by decide),e 6 (by decide),e 7 (by decide),e 8 (by decide),e 9 (by decide),e 10 (by decide),e 11 (by decide),e 12 (by decide),e 13 (by decide),if_false,ite_self]
  ·have e : ∀ k:Int,4≤k → ¬h.op=k:=fun k hk=>by omega
   simp only [h4,e 4 (by decide),e 5 (by decide),e 6 (by decide),e 7 (by decide),e 8 (by decide),e 9 (by decide),e 10 (by decide),e 11 (by decide),e 12 (by decide),e 13 (by decide),if_false,false_imp_iff,true_and]
 y h a b c hy:=by
  have hy : ¬(5≤h.op∧h.op≤8∨h.op=13∨h.op=14∨h.op=16∨h.op=19∨h.op=21):=by simpa [zau] using hy
  have h5 : ¬(5≤h.op∧h.op≤8∨h.op=13):=by omega
  unfold vnK zbX
  simp only [h5,false_imp_iff,and_true]
  simp only [show ¬h.op=5 by omega,show ¬h.op=6 by omega,show ¬h.op=7 by omega,show ¬h.op=8 by omega,show ¬h.op=13 by omega,if_false]
def zrE (m:KM) (t:Tm) (w:Nat):Prop:=ev (zpX m.W.toNat (zi m) fun i w=>(m.val.getD i 0#64).getLsbD w=true) (fun _=>False) t w
structure zxp (m:KM) (h:Hd):Prop where
 op:1≤h.op∧h.op≤13
 fact:h.op=3→0≤h.i∧h.i < m.val.length
 agent:h.op=9∨h.op=10→0≤h.i∧h.i < m.rel.length
 group:11≤h.op∧h.op≤13→1≤h.g∧h.g.toNat < 2 ^ m.rel.length
theorem zkB {m:KM} {i:Int} {w u:Nat} (hi:0≤i∧i < m.rel.length):rb (ze1 m i) w u=true↔zeY (zi m) i.toNat w u:=by
 have hl:i.toNat < m.rel.length:=by omega
 unfold zeY zi ze1
 rw [List.getD,List.getElem?_eq_getElem hl]
 constructor
 ·intro h;exact ⟨_,by rw [List.getElem?_map,List.getElem?_eq_getElem hl];rfl,h⟩
 ·rintro ⟨r,h1,h2⟩
  rw [List.getElem?_map,List.getElem?_eq_getElem hl] at h1
  obtain rfl:=(Option.some.inj h1).symm
  exact h2
theorem zxa {m:KM} (g:zdX m) {i:Int} (hi:0≤i∧i < m.rel.length):zas (ze1 m i)=0∧(ze1 m i).length=m.W.toNat:=by
 have hl:i.toNat < m.rel.length:=by omega
 have hm:ze1 m i∈m.rel:=by unfold ze1;rw [List.getD,List.getElem?_eq_getElem hl];exact List.getElem_mem _
 have h1:=g.len _ hm
 have w1:=g.w1
 have w2:=g.w2
 refine ⟨zb1.2 ⟨by show (ze1 m i).length≤64;omega,fun v w hb=>?_⟩,by omega⟩
 have:w < m.W.toNat:=zlc g (i:=i.toNat) (v:=v) hb
 omega
theorem znN {m:KM} (g:zdX m) {a w u:Nat} (h:zeY (zi m) a w u):w < m.W.toNat∧u < m.W.toNat∧a < m.rel.length:=by
 obtain ⟨r,h1,h2⟩:=h
 have ha:a < m.rel.length:=by have:=(List.getElem?_eq_some_iff.1 h1).1;rwa [zBT] at this
 have hb:(znM m a w).getLsbD u=true:=by rw [zzW h1];exact h2
 refine ⟨?_,zlc g hb,ha⟩
 refine Nat.lt_of_not_le fun hw=>?_
 unfold znM at hb
 rw [List.getD,List.getElem?_eq_none (by
  rw [List.getD,List.getElem?_eq_getElem ha]
  have:=g.len _ (List.getElem_mem ha)
  show (m.rel[a]).length≤w;omega)] at hb
 simp at hb
theorem zzm {m:KM} (hg:zdX m) {g:Nat} : ∀ {k:Nat},k≤m.rel.length→(zaD (fun x y=>x|||y) m g k=none → ∀ a,a < k→g.testBit a=false) ∧ ∀ r,zaD (fun x y=>x|||y) m g k=some r → ∀ w u,w < m.W.toNat→(rb r w u=true ↔ ∃ a,a < k∧g.testBit a=true∧zeY (zi m) a w u)
 | 0,_=>⟨fun _ a h=>by omega,fun r h=>by cases h⟩
 | k+1,hk=>by
  have ih:=zzm hg (g:=g) (k:=k) (by omega)
  have hrow : ∀ w u,rb (m.rel.getD k []) w u=true↔zeY (zi m) k w u:=fun w u=>by
   have:=zkB (m:=m) (i:=(k:Int)) (w:=w) (u:=u) ⟨by omega,by omega⟩
   rwa [ze1,Int.toNat_natCast] at this
  rw [zaD]
  by_cases hb:g.testBit k=true
  ·rw [if_pos hb]
   cases hz:zaD (fun x y=>x|||y) m g k with
   | none =>
    refine ⟨fun h=>(by cases h),fun r h w u _=>?_⟩
    obtain rfl:=(Option.some.inj h).symm
    rw [hrow]
    constructor
    ·intro h1;exact ⟨k,by omega,hb,h1⟩
    ·rintro ⟨a,h1,h2,h3⟩
     by_cases e:a=k
     ·subst e;exact h3
     ·have:=ih.1 hz a (by omega);rw [h2] at this;cases this
   | some s =>
    refine ⟨fun h=>(by cases h),fun r h w u hw=>?_⟩
    obtain rfl:=(Option.some.inj h).symm
    have e:rb ((List.range m.W.toNat).map fun w=>s.getD w 0#64|||(m.rel.getD k []).getD w 0#64) w u=(rb s w u||rb (m.rel.getD k []) w u):=by
     unfold rb
     rw [List.getD,List.getElem?_map,List.getElem?_range hw]
     show (s.getD w 0#64|||_).getLsbD u=_
     rw [BitVec.getLsbD_or]
    rw [e,Bool.or_eq_true,hrow,ih.2 s hz w u hw]
    constructor
    ·rintro (⟨a,h1,h2⟩|h1)
     ·exact ⟨a,by omega,h2⟩
     ·exact ⟨k,by omega,hb,h1⟩
    ·rintro ⟨a,h1,h2,h3⟩
     by_cases e:a=k
     ·subst e;exact .inr h3
     ·exact .inl ⟨a,by omega,h2,h3⟩
  ·rw [if_neg hb]
   have hb:g.testBit k=false:=by simpa using hb
   refine ⟨fun h a ha=>?_,fun r h w u hw=>?_⟩
   ·by_cases e:a=k
    ·subst e;exact hb
    ·exact ih.1 h a (by omega)
   ·rw [ih.2 r h w u hw]
    constructor
    ·rintro ⟨a,h1,h2⟩;exact ⟨a,by omega,h2⟩
    ·rintro ⟨a,h1,h2,h3⟩
     refine ⟨a,?_,h2,h3⟩
     rcases Nat.lt_or_ge a k with h|h
     ·exact h
     ·have:a=k:=by omega
      subst this;rw [h2] at hb;cases hb
theorem zzD {m:KM} (hg:zdX m) {g:Nat} : ∀ {k:Nat},k≤m.rel.length→(zaD (fun x y=>x&&&y) m g k=none → ∀ a,a < k→g.testBit a=false) ∧ ∀ r,zaD (fun x y=>x&&&y) m g k=some r → ∀ w u,w < m.W.toNat→(rb r w u=true ↔ ∀ a,a < k→g.testBit a=true→zeY (zi m) a w u)
 | 0,_=>⟨fun _ a h=>by omega,fun r h=>by cases h⟩
 | k+1,hk=>by
  have ih:=zzD hg (g:=g) (k:=k) (by omega)
  have hrow : ∀ w u,rb (m.rel.getD k []) w u=true↔zeY (zi m) k w u:=fun w u=>by
   have:=zkB (m:=m) (i:=(k:Int)) (w:=w) (u:=u) ⟨by omega,by omega⟩
   rwa [ze1,Int.toNat_natCast] at this
  rw [zaD]
  by_cases hb:g.testBit k=true
  ·rw [if_pos hb]
   cases hz:zaD (fun x y=>x&&&y) m g k with
   | none =>
    refine ⟨fun h=>(by cases h),fun r h w u _=>?_⟩
    obtain rfl:=(Option.some.inj h).symm
    rw [hrow]
    constructor
    ·intro h1 a h2 h3
     by_cases e:a=k
     ·subst e;exact h1
     ·have:=ih.1 hz a (by omega);rw [h3] at this;cases this
    ·intro h;exact h k (by omega) hb
   | some s =>
    refine ⟨fun h=>(by cases h),fun r h w u hw=>?_⟩
    obtain rfl:=(Option.some.inj h).symm
    have e:rb ((List.range m.W.toNat).map fun w=>s.getD w 0#64&&&(m.rel.getD k []).getD w 0#64) w u=(rb s w u&&rb (m.rel.getD k []) w u):=by
     unfold rb
     rw [List.getD,List.getElem?_map,List.getElem?_range hw]
     show (s.getD w 0#64&&&_).getLsbD u=_
     rw [BitVec.getLsbD_and]
    rw [e,Bool.and_eq_true,hrow,ih.2 s hz w u hw]
    constructor
    ·rintro ⟨h1,h2⟩ a h3 h4
     by_cases e:a=k
     ·subst e;exact h2
     ·exact h1 a (by omega) h4
    ·intro h;exact ⟨fun a h1 h2=>h a (by omega) h2,h k (by omega) hb⟩
  ·rw [if_neg hb]
   have hb:g.testBit k=false:=by simpa using hb
   refine ⟨fun h a ha=>?_,fun r h w u hw=>?_⟩
   ·by_cases e:a=k
    ·subst e;exact hb
    ·exact ih.1 h a (by omega)
   ·rw [ih.2 r h w u hw]
    constructor
    ·intro H a h1 h2
     refine H a ?_ h2
     rcases Nat.lt_or_ge a k with h|h
     ·exact h
     ·have:a=k:=by omega
      subst this;rw [h2] at hb;cases hb
    ·intro H a h1 h2;exact H a (by omega) h2
theorem znE {m:KM} (hg:zdX m) {g:Int} (h:1≤g∧g.toNat < 2 ^ m.rel.length) {w u:Nat} (hw:w < m.W.toNat):rb (zer m g) w u=true↔ziU m.W.toNat (zi m) g.toNat w u:=by
 obtain ⟨r,hr⟩:=zla (op:=fun x y=>x|||y) (m:=m) (zmc (g:=g.toNat) (by omega) h.2)
 unfold zer
 rw [hr,Option.getD_some,(zzm hg (Nat.le_refl _)).2 r hr w u hw]
 unfold ziU
 constructor
 ·rintro ⟨a,h1,h2,h3⟩;exact ⟨(znN hg h3).2.1,a,h2,h3⟩
 ·rintro ⟨-,a,h2,h3⟩;exact ⟨a,(znN hg h3).2.2,h2,h3⟩
theorem zwX {m:KM} (hg:zdX m) {g:Int} (h:1≤g∧g.toNat < 2 ^ m.rel.length) {w u:Nat} (hw:w < m.W.toNat):rb (zjE m g) w u=true ↔ ∀ a,g.toNat.testBit a=true→zeY (zi m) a w u:=by
 obtain ⟨r,hr⟩:=zla (op:=fun x y=>x&&&y) (m:=m) (zmc (g:=g.toNat) (by omega) h.2)
 unfold zjE
 rw [hr,Option.getD_some,(zzD hg (Nat.le_refl _)).2 r hr w u hw]
 constructor
 ·intro H a h2
  refine H a (Nat.lt_of_not_le fun hn=>?_) h2
  rw [Nat.testBit_lt_two_pow (Nat.lt_of_lt_of_le h.2 (Nat.pow_le_pow_right (by decide) hn))] at h2
  cases h2
 ·intro H a _ h2;exact H a h2
theorem zzn {m:KM} (hk0:za m=0) {g:Int} (h:1≤g∧g.toNat < 2 ^ m.rel.length):zas (zer m g)=0∧(zer m g).length=m.W.toNat:=zj8 hk0 zyb (by omega) h.2
theorem zEf {m:KM} (hk0:za m=0) {g:Int} (h:1≤g∧g.toNat < 2 ^ m.rel.length):zas (zjE m g)=0∧(zjE m g).length=m.W.toNat:=zj8 hk0 zyD (by omega) h.2
theorem zoR {r:List (BitVec 64)} (h0:zas r=0) {w u:Nat} (h:rb r w u=true):u < r.length:=(zb1.1 h0).2 w u h
theorem zus {S S':Nat→Nat→Prop} {c c':Nat→Prop} {n w:Nat} (hw:w < n) (hS : ∀ a b,a < n→S a b→b < n∧S' a b) (hc : ∀ a,a < n→c a→c' a) {u:Nat} (h:CPt S c w u):u < n∧CPt S' c' w u:=by
 induction h with
 | one a b=>exact ⟨(hS _ _ hw a).1,.one (hS _ _ hw a).2 (hc _ (hS _ _ hw a).1 b)⟩
 | more _ a b ih=>exact ⟨(hS _ _ ih.1 a).1,.more ih.2 (hS _ _ ih.1 a).2 (hc _ (hS _ _ ih.1 a).1 b)⟩
theorem zsA {m:KM} (hk0:za m=0) {h:Hd} (hf:zxp m h) {x y:BitVec 64} {X Y:Nat→Prop} (hx : ∀ u,x.getLsbD u=true↔u < m.W.toNat∧X u) (hy : ∀ u,y.getLsbD u=true↔u < m.W.toNat∧Y u) :
  (zbX m h x y).2=true ∧ ∀ w,(zbX m h x y).1.getLsbD w=true↔w < m.W.toNat∧zpX m.W.toNat (zi m) (fun i w=>(m.val.getD i 0#64).getLsbD w=true) h X Y w:=by
 have g:=zx hk0
 have w1:=g.w1
 have w2:=g.w2
 have hall : ∀ w,(zbc m.W).getLsbD w=true↔w < m.W.toNat:=fun w=>by
  rcases Nat.lt_or_ge w 64 with h|h
  ·rw [zfD (by omega) h,decide_eq_true_eq];omega
  ·rw [BitVec.getLsbD_of_ge _ _ h];constructor
   ·intro h;cases h
   ·intro _;omega
 have hnx : ∀ (z:BitVec 64) w,w < m.W.toNat→((~~~z).getLsbD w=true ↔ ¬z.getLsbD w=true):=fun z w hw=>by
  rw [BitVec.getLsbD_not,decide_eq_true (show w < 64 by omega)];simp
 have hbox : ∀ {r:List (BitVec 64)} {Rr:Nat→Nat→Prop},zas r=0→r.length=m.W.toNat→(∀ w u,w < m.W.toNat→(rb r w u=true↔Rr w u)) → ∀ w,(zfG r x).getLsbD w=true↔w < m.W.toNat ∧ ∀ u,Rr w u→X u:=fun {r Rr} h0 hl hr w=>by
  rw [zo3 (by omega),hl]
  refine and_congr_right fun hw=>forall_congr' fun u=>?_
  rw [hr w u hw]
  refine forall_congr' fun hu=>?_
  rw [hx]
  have:=zoR h0 ((hr w u hw).2 hu)
  exact ⟨fun h=>h.2,fun h=>⟨by omega,h⟩⟩
 have key : ∀ {P:Prop} {z:BitVec 64} {w:Nat},(w < m.W.toNat→(z.getLsbD w=true↔P))→(z.getLsbD w=true→w < m.W.toNat)→(z.getLsbD w=true↔w < m.W.toNat∧P):=fun h1 h2=>⟨fun h=>⟨h2 h,(h1 (h2 h)).1 h⟩,fun h=>(h1 h.1).2 h.2⟩
 have hxl : ∀ w,x.getLsbD w=true→w < m.W.toNat:=fun w h=>((hx w).1 h).1
 have hyl : ∀ w,y.getLsbD w=true→w < m.W.toNat:=fun w h=>((hy w).1 h).1
 have hxX : ∀ w,w < m.W.toNat→(x.getLsbD w=true↔X w):=fun w hw=>(hx w).trans ⟨fun h=>h.2,fun h=>⟨hw,h⟩⟩
 have hyY : ∀ w,w < m.W.toNat→(y.getLsbD w=true↔Y w):=fun w hw=>(hy w).trans ⟨fun h=>h.2,fun h=>⟨hw,h⟩⟩
 obtain ⟨o1,o2⟩:=hf.op
 have f1:=hf.fact
 have f2:=hf.agent
 have f3:=hf.group
 clear hf
 obtain ⟨op,i,e,G⟩:=h
 dsimp only at o1 o2 f1 f2 f3
 have hop:op=1∨op=2∨op=3∨op=4∨op=5∨op=6∨op=7∨op=8∨op=9∨op=10∨op=11∨op=12∨op=13:=by omega
 rcases hop with rfl|rfl|rfl|rfl|rfl|rfl|rfl|rfl|rfl|rfl|rfl|rfl|rfl
 ·refine ⟨rfl,fun w=>?_⟩
  show (zbc m.W).getLsbD w=true↔w < m.W.toNat∧True
  rw [hall,and_true]
 ·refine ⟨rfl,fun w=>?_⟩
  show (0#64).getLsbD w=true↔w < m.W.toNat∧False
  simp
 ·have hi:=f1 rfl
  have hil:i.toNat < m.val.length:=by omega
  have hm:m.val.getD i.toNat 0#64∈m.val:=by rw [List.getD,List.getElem?_eq_getElem hil];exact List.getElem_mem _
  have e1:zbX m ⟨3,i,e,G⟩ x y=(m.val.getD i.toNat 0#64,true):=if_neg (show ¬(m.val.length:Int)≤i by omega)
  rw [e1]
  refine ⟨rfl,fun w=>?_⟩
  show (m.val.getD i.toNat 0#64).getLsbD w=true↔w < m.W.toNat∧(m.val.getD i.toNat 0#64).getLsbD w=true
  exact key (fun _=>Iff.rfl) fun h1=>by have:=(zfV (by omega)).1 (g.val _ hm) w h1;omega
 ·refine ⟨rfl,fun w=>?_⟩
  show (zbc m.W &&& ~~~x).getLsbD w=true↔w < m.W.toNat ∧ ¬X w
  rw [BitVec.getLsbD_and,Bool.and_eq_true,hall]
  exact and_congr_right fun hw=>by rw [hnx x w hw,hxX w hw]
 ·refine ⟨rfl,fun w=>?_⟩
  show (x&&&y).getLsbD w=true↔w < m.W.toNat∧(X w∧Y w)
  rw [BitVec.getLsbD_and,Bool.and_eq_true,hx,hy]
  exact ⟨fun h=>⟨h.1.1,h.1.2,h.2.2⟩,fun h=>⟨⟨h.1,h.2.1⟩,h.1,h.2.2⟩⟩
 ·refine ⟨rfl,fun w=>?_⟩
  show (x|||y).getLsbD w=true↔w < m.W.toNat∧(X w∨Y w)
  rw [BitVec.getLsbD_or,Bool.or_eq_true,hx,hy,and_or_left]
 ·refine ⟨rfl,fun w=>?_⟩
  show (zbc m.W &&& ~~~x|||y).getLsbD w=true↔w < m.W.toNat∧(X w→Y w)
  rw [BitVec.getLsbD_or,Bool.or_eq_true,BitVec.getLsbD_and,Bool.and_eq_true,hall]
  constructor
  ·rintro (⟨h1,h2⟩|h2)
   ·exact ⟨h1,fun h=>absurd ((hxX w h1).2 h) ((hnx x w h1).1 h2)⟩
   ·exact ⟨hyl w h2,fun _=>((hy w).1 h2).2⟩
  ·rintro ⟨h1,h2⟩
   by_cases h:X w
   ·exact .inr ((hyY w h1).2 (h2 h))
   ·exact .inl ⟨h1,(hnx x w h1).2 fun h3=>h ((hxX w h1).1 h3)⟩
 ·refine ⟨rfl,fun w=>?_⟩
  show (zbc m.W &&& ~~~(x ^^^ y)).getLsbD w=true↔w < m.W.toNat∧(X w↔Y w)
  rw [BitVec.getLsbD_and,Bool.and_eq_true,hall]
  refine and_congr_right fun hw=>?_
  rw [hnx _ w hw,BitVec.getLsbD_xor,← hxX w hw,← hyY w hw]
  cases x.getLsbD w<;>cases y.getLsbD w<;>decide
 ·have hi:=f2 (.inl rfl)
  obtain ⟨r1,r2⟩:=zxa g hi
  have e1:zbX m ⟨9,i,e,G⟩ x y=(zfG (ze1 m i) x,true):=if_neg (show ¬(m.rel.length:Int)≤i by omega)
  rw [e1]
  refine ⟨rfl,fun w=>?_⟩
  show _↔w < m.W.toNat ∧ ∀ u,u < m.W.toNat→zeY (zi m) i.toNat w u→X u
  rw [hbox r1 r2 (fun w u _=>zkB hi)]
  exact and_congr_right fun hw=>forall_congr' fun u=>⟨fun h _=>h,fun h h2=>h (znN g h2).2.1 h2⟩
 ·have hi:=f2 (.inr rfl)
  obtain ⟨r1,r2⟩:=zxa g hi
  have e1:zbX m ⟨10,i,e,G⟩ x y=(zpi (ze1 m i) x,true):=if_neg (show ¬(m.rel.length:Int)≤i by omega)
  rw [e1]
  refine ⟨rfl,fun w=>?_⟩
  show _↔w < m.W.toNat ∧ ∃ u,u < m.W.toNat∧zeY (zi m) i.toNat w u∧X u
  unfold zpi
  rw [r2,show ((m.W.toNat:Nat):Int)=m.W by omega,BitVec.getLsbD_and,Bool.and_eq_true,hall]
  refine and_congr_right fun hw=>?_
  rw [hnx _ w hw,zo3 (by omega),r2]
  constructor
  ·intro hn
   refine Classical.byContradiction fun hc=>hn ⟨hw,fun u hu=>?_⟩
   have hu2:=(zkB hi).1 hu
   have hul:=(znN g hu2).2.1
   exact (hnx x u hul).2 fun h=>hc ⟨u,hul,hu2,(hxX u hul).1 h⟩
  ·rintro ⟨u,hul,hu,hX⟩ ⟨-,H⟩
   exact (hnx x u hul).1 (H u ((zkB hi).2 hu)) ((hxX u hul).2 hX)
 ·have hi:=f3 (by omega)
  obtain ⟨r1,r2⟩:=zzn hk0 hi
  have hp:((2 ^ m.rel.length:Nat):Int)=(2:Int) ^ m.rel.length:=by simp
  have e1:zbX m ⟨11,i,e,G⟩ x y=(zfG (zer m G) x,true):=if_neg (show ¬(2:Int) ^ m.rel.length≤G by omega)
  rw [e1]
  refine ⟨rfl,fun w=>?_⟩
  show _↔w < m.W.toNat ∧ ∀ u,ziU m.W.toNat (zi m) G.toNat w u→X u
  rw [hbox r1 r2 (fun w u hw=>znE g hi hw)]
 ·have hi:=f3 (by omega)
  obtain ⟨r1,r2⟩:=zEf hk0 hi
  have hp:((2 ^ m.rel.length:Nat):Int)=(2:Int) ^ m.rel.length:=by simp
  have e1:zbX m ⟨12,i,e,G⟩ x y=(zfG (zjE m G) x,true):=if_neg (show ¬(2:Int) ^ m.rel.length≤G by omega)
  rw [e1]
  refine ⟨rfl,fun w=>?_⟩
  show _↔w < m.W.toNat ∧ ∀ u,u < m.W.toNat→(∀ a,G.toNat.testBit a=true→zeY (zi m) a w u)→X u
  rw [hbox r1 r2 (fun w u hw=>zwX g hi hw)]
  refine and_congr_right fun hw=>forall_congr' fun u=>⟨fun h _=>h,fun h h2=>h ?_ h2⟩
  have:=zoR r1 ((zwX g hi hw).2 h2)
  omega
 ·have hi:=f3 (by omega)
  obtain ⟨r1,r2⟩:=zzn hk0 hi
  have hp:((2 ^ m.rel.length:Nat):Int)=(2:Int) ^ m.rel.length:=by simp
  have e1:zbX m ⟨13,i,e,G⟩ x y=(zpg (zer m G) x y,true):=if_neg (show ¬(2:Int) ^ m.rel.length≤G by omega)
  rw [e1]
  refine ⟨rfl,fun w=>?_⟩
  show _↔w < m.W.toNat ∧ ∀ u,CPt (ziU m.W.toNat (zi m) G.toNat) X w u→Y u
  unfold zpg
  rw [zcb (by omega),r2,@decide_eq_true_eq _ (Classical.propDecidable _)]
  refine and_congr_right fun hw=>?_
  unfold zAG
  constructor
  ·intro H u hu
   obtain ⟨h1,h2⟩:=zus (S':=fun a b=>rb (zer m G) a b=true) (c':=fun u=>x.getLsbD u=true) hw (fun a b ha hab=>⟨hab.1,(znE g hi ha).2 hab⟩) (fun a ha h=>(hxX a ha).2 h) hu
   exact (hyY u h1).1 (H u h2)
  ·intro H u hu
   obtain ⟨h1,h2⟩:=zus (S':=ziU m.W.toNat (zi m) G.toNat) (c':=X) hw (fun a b ha hab=>⟨((znE g hi ha).1 hab).1,(znE g hi ha).1 hab⟩) (fun a ha h=>(hxX a ha).1 h) hu
   exact (hyY u h1).2 (H u h2)
theorem zqI {m:KM} (hk0:za m=0) : ∀ (t:Tm),t.ok→t.all (zxp m)→(ev (vnK m) (0#64,false) t).2=true ∧ ∀ w,(ev (vnK m) (0#64,false) t).1.getLsbD w=true↔w < m.W.toNat∧zrE m t w
 | .z h,h1,h2=>by
  have h4 : ¬(4≤h.op∧h.op≤21):=by simpa [zaG] using h1.2.1
  have hop:=h2.op
  have hd : ∀ u,(0#64).getLsbD u=true↔u < m.W.toNat∧False:=fun u=>by simp
  have e:ev (vnK m) (0#64,false) (.z h)=zbX m h 0#64 0#64:=if_pos ⟨fun h=>by omega,fun h=>by omega⟩
  rw [e]
  exact zsA hk0 h2 hd hd
 | .u h x,h1,h2=>by
  obtain ⟨a1,a2⟩:=zqI hk0 x h1.2.2.2 h2.2
  have h5 : ¬(5≤h.op∧h.op≤8∨h.op=13∨h.op=14∨h.op=16∨h.op=19∨h.op=21):=by simpa [zau] using h1.2.2.1
  have hd : ∀ u,(0#64).getLsbD u=true↔u < m.W.toNat∧False:=fun u=>by simp
  have e:ev (vnK m) (0#64,false) (.u h x)=zbX m h (ev (vnK m) (0#64,false) x).1 0#64:=if_pos ⟨fun _=>a1,fun h=>by omega⟩
  rw [e]
  exact zsA hk0 h2.1 a2 hd
 | .b h x y,h1,h2=>by
  obtain ⟨a1,a2⟩:=zqI hk0 x h1.2.2.2.1 h2.2.1
  obtain ⟨b1,b2⟩:=zqI hk0 y h1.2.2.2.2 h2.2.2
  have e:ev (vnK m) (0#64,false) (.b h x y)=zbX m h (ev (vnK m) (0#64,false) x).1 (ev (vnK m) (0#64,false) y).1:=if_pos ⟨fun _=>a1,fun _=>b1⟩
  rw [e]
  exact zsA hk0 h2.1 a2 b2
def znQ (f:List Nd):Tm:=zaQ f (f.length - 1)
theorem zCY {m:KM} {f:List Nd} (h:zbw m f=0):(znQ f).ok∧(znQ f).all (zxp m):=by
 obtain ⟨h1,h2,h3,h4⟩:=zky h
 obtain ⟨p1,p2,p3⟩:=zfZ.1 h2
 have g:=zx h1
 refine ⟨zij p3 f.length _ (by omega) (by omega),((zkS h2).1.all (zxp m)).1 fun n hn=>?_⟩
 have hh:=zqi hn
 have ho:1≤n.op∧n.op≤21:=by have:zdl n.op=true:=hh.op;simpa [zdl] using this
 have hlt:uni zcJ (cL f) < 2 ^ 63:=Nat.lt_of_lt_of_le ((znl zcJ (b:=9)).2 fun n _=>zps n.hd) (by decide)
 have a1:=(zvX hlt (b:=15) (by decide)).1 h3
 have a2 : ∀ i,(zcJ n.hd).testBit i=true→(15:Nat).testBit i=true:=fun i hi=>a1 i (by rw [znT];exact List.any_eq_true.2 ⟨n,hn,hi⟩)
 have key : ∀ (o:Int) (i:Nat),n.op=o→((zbf o).toNat).testBit i=true→(15:Nat).testBit i=true:=fun o i e hi=>a2 i (by rw [zcJ];show ((zbf n.op).toNat).testBit i=true;rw [e];exact hi)
 have hop:n.op≤13:=by
  refine Classical.byContradiction fun hn13=>?_
  have:n.op=14∨n.op=15∨n.op=16∨n.op=17∨n.op=18∨n.op=19∨n.op=20∨n.op=21:=by omega
  rcases this with e|e|e|e|e|e|e|e
  ·exact absurd (key _ 4 e (by decide)) (by decide)
  ·exact absurd (key _ 5 e (by decide)) (by decide)
  ·exact absurd (key _ 6 e (by decide)) (by decide)
  ·exact absurd (key _ 7 e (by decide)) (by decide)
  ·exact absurd (key _ 8 e (by decide)) (by decide)
  ·exact absurd (key _ 8 e (by decide)) (by decide)
  ·exact absurd (key _ 8 e (by decide)) (by decide)
  ·exact absurd (key _ 8 e (by decide)) (by decide)
 simp only [zk8,zhk,Bool.and_eq_true,decide_eq_true_eq,Int.toNat_natCast] at h4
 obtain ⟨⟨-,b1⟩,b2⟩:=h4
 have n4:=g.n4
 have v8:=g.v8
 have b1:=(znl zdA).1 (b1.resolve_left (by omega)) n hn
 have b2:=(znl zgo).1 (b2.resolve_left (by omega)) n hn
 refine ⟨⟨ho.1,hop⟩,fun e=>?_,fun e=>?_,fun e=>?_⟩
 ·have e':zag n.hd.op=true:=decide_eq_true e
  have h3:0≤n.i∧n.i≤7:=hh.fact e'
  rw [zgo,if_pos e'] at b2
  have b2:2 ^ n.i.toNat < 2 ^ m.val.length:=b2
  have:=(Nat.pow_lt_pow_iff_right (by decide:1 < 2)).1 b2
  show 0≤n.i∧n.i < _
  omega
 ·have e':zT n.hd.op=true:=decide_eq_true (by rcases e with e|e<;>rw [e]<;>simp)
  have h3:0≤n.i∧n.i≤3:=hh.agent e'
  rw [zdA,if_pos e'] at b1
  have b1:2 ^ n.i.toNat < 2 ^ m.rel.length:=b1
  have:=(Nat.pow_lt_pow_iff_right (by decide:1 < 2)).1 b1
  show 0≤n.i∧n.i < _
  omega
 ·have e2:11≤n.op∧n.op≤13:=e
  have h3:1≤n.g∧n.g≤15:=hh.group (decide_eq_true e2)
  have e3 : ¬ zT n.hd.op=true:=by
   simp only [zT,decide_eq_true_eq];show ¬(n.op=9∨n.op=10∨n.op=14∨n.op=15);omega
  rw [zdA,if_neg e3] at b1
  exact ⟨h3.1,b1⟩
theorem zEH {m:KM} {f:List Nd} (h:zbw m f=0):(zdM m f).2=0 ∧ ∀ w,(zdM m f).1.getLsbD w=true↔w < m.W.toNat∧zrE m (znQ f) w:=by
 obtain ⟨h1,h2,h3,h4⟩:=zky h
 obtain ⟨p1,p2,p3⟩:=zfZ.1 h2
 have hd:zdM m f=((ev (vnK m) (0#64,false) (znQ f)).1,0):=by
  unfold zdM znQ
  rw [if_neg (by omega),zxd (zCk m) p3 f [] (by simp) (by simp) (fun i hi=>by simp at hi) (f.length - 1) (by omega)]
 rw [hd]
 obtain ⟨a1,a2⟩:=zCY h
 exact ⟨rfl,(zqI h1 _ a1 a2).2⟩
theorem zE6 {f:List Nd} (hf:zdi f=0) (h:zbx .i64 (fun p q=>p&&&q) (uni zcJ (cL f):Int) 4=0):(znQ f).all fun h=>h.op≠12:=by
 refine ((zkS hf).1.all _).1 fun n hn e=>?_
 have hlt:uni zcJ (cL f) < 2 ^ 63:=Nat.lt_of_lt_of_le ((znl zcJ (b:=9)).2 fun n _=>zps n.hd) (by decide)
 rw [show (4:Int)=((4:Nat):Int) from rfl,zug hlt (by decide)] at h
 have h0:uni zcJ (cL f)&&&4=0:=by omega
 have h1:(uni zcJ (cL f)).testBit 2=true:=by
  rw [znT]
  refine List.any_eq_true.2 ⟨n,hn,?_⟩
  rw [zcJ,e];decide
 have h2:=congrArg (fun x=>x.testBit 2) h0
 simp only [Nat.testBit_and,h1,Bool.true_and,Nat.zero_testBit] at h2
 exact absurd h2 (by decide)
theorem zEY {m m':KM} {f:List Nd} (h:zbw m f=0) (hk:za m'=0) (hr:m'.rel.length=m.rel.length) (hv:m'.val.length=m.val.length):zbw m' f=0:=by
 obtain ⟨h1,h2,h3,h4⟩:=zky h
 unfold zbw
 rw [if_neg (by omega),if_neg (by omega),if_neg (by omega),hr,hv,if_neg (by rw [h4];decide)]
theorem zCX {m m':KM} (hv:m'.val.length=m.val.length) {v v':Nat} (e:zF m v=zF m' v') (i:Nat):(m.val.getD i 0#64).getLsbD v=true↔(m'.val.getD i 0#64).getLsbD v'=true:=by
 have hb:=fun j=>congrArg (fun x:Nat=>x.testBit j) (Int.ofNat.inj e)
 rcases Nat.lt_or_ge i m.val.length with h|h
 ·have h1:=zhu m.val v (i:=i) m.val.length
  have h2:=zhu m'.val v' (i:=i) m'.val.length
  have e1:(zaT m.val v m.val.length).testBit i=(zaT m'.val v' m'.val.length).testBit i:=hb i
  exact ⟨fun h3=>(h2.1 (by rw [← e1];exact h1.2 ⟨h,h3⟩)).2,fun h3=>(h1.1 (by rw [e1];exact h2.2 ⟨by omega,h3⟩)).2⟩
 ·simp [List.getD,List.getElem?_eq_none h,List.getElem?_eq_none (show m'.val.length≤i by omega)]
theorem zDt {m m':KM} (hv:m'.val.length=m.val.length) {Z:Nat→Nat→Prop} (B:zcL m.W.toNat m'.W.toNat (zi m) (zi m') (zF m) (zF m') Z) {t:Tm} (ht:t.all fun h=>h.op≠12) {v v':Nat} (hz:Z v v'):zrE m t v↔zrE m' t v' :=
 znP B (fun i v v' hz=>zCX hv (B.fac hz) i) t ht v v' hz
end Go.Ab
namespace Go.Ab
open Go
theorem zEZ {m m':KM} (hv:m'.val.length=m.val.length) {v v':Nat} (h:zfC (ptM m v) (ptM m' v')) {t:Tm} (ht:t.all fun h=>h.op≠12):zrE m t v↔zrE m' t v':=by
 obtain ⟨Z,B,hz⟩:=h
 exact zDt hv B ht hz
end Go.Ab
namespace Go.Ab
open Go Go.Proofs
set_option maxRecDepth 10000
set_option maxHeartbeats 4000000
variable {T:Nat→Obj→Prop}
set_option maxRecDepth 1000000 in
theorem zvI:evF zDT 60 zdK [] []=some (.d (.bool true),[]):=by kernel_rfl
theorem zEs (hT:zdf T) (hX:zf9 T):Fn Tryz.prog T zdK [] [] (.d (.bool true)) []:=zsM zn (zCK hT hX) 60 _ _ _ _ _ zvI
end Go.Ab
namespace Go.Ab
open Go Go.Proofs Go.RowKit Go.Lib Go.Sort
theorem zCw:bits BinOp.and IntKind.i64 16 15=0:=by decide
abbrev zep:UInt8→Value:=fun b=>Value.int .u8 (b.toNat:Int)
theorem zzo {P:Program} (t:TypeId) (ht:P.underlying t=some .string) (k:IntKind) (x:Nat) (hx:x < 16) (w:World) :
  (Instr.index t (.string { data := #[48,49,50,51,52,53,54,55,56,57,97,98,99,100,101,102,103,104,105,106,107,108,109,110,111,112,113,114,115,116,117,118,119,120,121,122] }) (.int k (x:Int))).run P w = .ok (.int .u8 ((zav x).toNat:Int)) w:=by
 rw [run_index_string w t _ k _ ht,dif_pos ⟨by omega,by show (x:Int) < 36;omega⟩]
 have:x=0∨x=1∨x=2∨x=3∨x=4∨x=5∨x=6∨x=7∨x=8∨x=9∨x=10∨x=11∨x=12∨x=13∨x=14∨x=15:=by omega
 rcases this with rfl|rfl|rfl|rfl|rfl|rfl|rfl|rfl|rfl|rfl|rfl|rfl|rfl|rfl|rfl|rfl<;>rfl
theorem zBs (x:Nat) (hx:x < 16) (h:x < (ByteArray.mk #[48,49,50,51,52,53,54,55,56,57,97,98,99,100,101,102,103,104,105,106,107,108,109,110,111,112,113,114,115,116,117,118,119,120,121,122]).size) :
  (ByteArray.mk #[48,49,50,51,52,53,54,55,56,57,97,98,99,100,101,102,103,104,105,106,107,108,109,110,111,112,113,114,115,116,117,118,119,120,121,122])[x]=zav x:=by
 have:x=0∨x=1∨x=2∨x=3∨x=4∨x=5∨x=6∨x=7∨x=8∨x=9∨x=10∨x=11∨x=12∨x=13∨x=14∨x=15:=by omega
 rcases this with rfl|rfl|rfl|rfl|rfl|rfl|rfl|rfl|rfl|rfl|rfl|rfl|rfl|rfl|rfl|rfl<;>rfl
theorem zz9 (dk:Array UInt8) (i:Nat) (x:UInt8) (hi:i < dk.size):(dk.setIfInBounds i x)[i]! = x:=by simp [hi]
theorem zAa (dk:Array UInt8) (i j:Nat) (x:UInt8) (h:i≠j):(dk.setIfInBounds i x)[j]! = dk[j]! := by rw [getElem!_def,getElem!_def,Array.getElem?_setIfInBounds_ne h]
theorem zC5 (w:World) (t:TypeId):Holds zep (w.alloc (.cells Tryz.zeroCells222 t)) w.heap.size 0 (Array.replicate 65 0):=by
 intro j hj
 have hj:j < 65:=by simpa using hj
 refine ⟨?_,World.frozen?_alloc_new _ _ _ _⟩
 rw [World.cell?_alloc_new,Nat.zero_add]
 have h:Tryz.zeroCells222=Array.replicate 65 (Value.int .u8 0):=by kernel_rfl
 rw [h]
 simp [hj]
theorem zzl {w w1:World} {o:Obj} {d:Array UInt8} (h:w.alloc o=w1):w.grownBy (putRow zep w1 w.heap.size 0 d) none:=by
 subst h
 refine ⟨rfl,rfl,rfl,by simp,fun b hb _=>?_⟩
 have:(putRow zep (w.alloc o) w.heap.size 0 d).heap[b]? = (w.alloc o).heap[b]? := by
  unfold putRow mapBlock
  rw [Array.getElem?_modify,if_neg (by omega)]
 rw [this]
 exact heap_alloc_old _ _ hb
theorem zC7 (w:World):Calls Tryz.prog 202 #[.int .i64 16] w fun e w'=>e = .returned (.bool true)∧w'=w:=by
 have hp:=zCw
 go_enter Tryz.func202,Tryz.ntmps202
 go_wp2
 go_ret
 exact ⟨rfl,rfl⟩
theorem zE1 (w:World) (T:Nat→Obj→Prop) (hw : ∀ b o,T b o→w.heap[b]? = some o)
  (hz : ∀ w':World,(∀ b o,T b o→w'.heap[b]? = some o)→Calls Tryz.prog 64 #[.int .u64 16] w' fun e w''=>e = .returned (.int .i64 4)∧w''=w') :
  Calls Tryz.prog 203 #[.int .u64 16] w fun e w'=>e = .returned (.int .i64 4)∧w'=w:=by
 go_enter Tryz.func203,Tryz.ntmps203
 go_wp2_with (go_at_call 64;refine (hz _ hw).mono ?_;rintro e w' ⟨rfl,rfl⟩)
 go_ret
 exact ⟨rfl,rfl⟩
set_option maxHeartbeats 4000000 in
set_option maxRecDepth 100000 in
theorem zDP (u:Nat) (hu:u < 18446744073709551616) (w:World) (T:Nat→Obj→Prop) (hw : ∀ b o,T b o→w.heap[b]? = some o)
  (hz : ∀ w':World,(∀ b o,T b o→w'.heap[b]? = some o)→Calls Tryz.prog 64 #[.int .u64 16] w' fun e w''=>e = .returned (.int .i64 4)∧w''=w') :
  Calls Tryz.prog 190 #[.slice none 0 0,.int .u64 u,.int .i64 16,.bool false,.bool false] w fun e w'=>e = .returned (.tuple #[.slice none 0 0,.string ⟨(zes 15 u).toArray⟩])∧w.grownBy w' none:=by
 have hp:=zCw
 go_enter Tryz.func190,Tryz.ntmps190
 go_wp2_with (first|(go_at_call 202;refine (zC7 _).mono ?_;rintro e w' ⟨rfl,rfl⟩)|(go_at_call 203;refine (zE1 _ T ?_ hz).mono ?_;rotate_left;rintro e w' ⟨rfl,rfl⟩))
 ·generalize hw1:w.alloc (Obj.cells Tryz.zeroCells222 222)=w1
  have hH:=zC5 w 222
  rw [hw1] at hH
  have hix:=zzo (P:=Tryz.prog) 9 Tryz.underlying9 .u64
  go_loopw [1,13] (fun vu vi wr => ∃ (k v:Nat) (dk:Array UInt8) (ds:List UInt8),vu = .int .u64 v∧vi = .int .i64 (50+k:Nat)∧k≤15∧v < 16 ^ (k+1)∧zes 15 u=zes k v++ds∧wr=putRow zep w1 w.heap.size 0 dk∧dk.size=65∧ds.length=15 - k ∧ ∀ j (hj:j < ds.length),dk[50+k+j]! = ds[j]) (fun _ vi _=>(RowKit.intOf vi).toNat)
  case atStart=>exact ⟨15,u,Array.replicate 65 0,[],rfl,rfl,Nat.le_refl _,by simpa using hu,by simp,(putRow_self _ _ _ _ _ hH).symm,by simp,rfl,fun j hj=>by simp at hj⟩
  case round =>
   obtain ⟨k,v,dk,ds,rfl,rfl,hk,hv,hx,rfl,hs,hdl,hd⟩:=hrel
   have hHk:Holds zep (putRow zep w1 w.heap.size 0 dk) w.heap.size 0 dk:=holds_putRow zep w1 w.heap.size 0 (Array.replicate 65 0) dk hH (by simp [hs])
   obtain ⟨G,hG⟩ : ∃ G:Nat→Int,∀ t,G t=(dk[t]!.toNat:Int):=⟨_,fun _=>rfl⟩
   have hc0 : ∀ t,t < 65→(putRow zep w1 w.heap.size 0 dk).cell? ⟨w.heap.size,t,none⟩=some (.int .u8 (G t)):=fun t ht=>by have:=(hHk t (by omega)).1;rw [Nat.zero_add] at this;rw [hG];exact this
   have hf0 : ∀ t,t < 65→(putRow zep w1 w.heap.size 0 dk).frozen? ⟨w.heap.size,t,none⟩=false:=fun t ht=>by have:=(hHk t (by omega)).2;rw [Nat.zero_add] at this;exact this
   by_cases h16:16≤v
   ·obtain ⟨k,rfl⟩ : ∃ k',k=k'+1:=⟨k - 1,by
     rcases Nat.eq_zero_or_pos k with rfl|h
     ·simp at hv;omega
     ·omega⟩
    have hand0:bits BinOp.and IntKind.u64 (v:Int) 15=(v:Int) % 16:=by
     have h0:(0:Int)≤v:=by omega
     have h1:(v:Int) < 18446744073709551616:=by
      have:16 ^ (k+1+1)≤16 ^ 16:=Nat.pow_le_pow_right (by omega) (by omega)
      omega
     go_bits2
    have hand:bits BinOp.and IntKind.u64 (v:Int) 15=((v % 16:Nat):Int):=by rw [hand0];omega
    clear hand0
    have hc1:=hc0 (50+k) (by omega)
    have hf1:=hf0 (50+k) (by omega)
    have hm16:v % 16 < 16:=Nat.mod_lt _ (by omega)
    generalize hW:putRow zep w1 w.heap.size 0 dk=W at *
    go_wp2
    rw [zBs (v % 16) hm16]
    have hset:W.setCell { block:=w.heap.size,off:=50+k } (Value.int IntKind.u8 ((zav (v % 16)).toNat:Int))=putRow zep w1 w.heap.size 0 (dk.setIfInBounds (50+k) (zav (v % 16))):=by
     rw [← hW,← putRow_set zep w1 w.heap.size 0 dk (50+k) (zav (v % 16)) (by omega),Nat.zero_add]
    refine ⟨⟨k,v / 16,dk.setIfInBounds (50+k) (zav (v % 16)),zav (v % 16)::ds,by simp,by go_num,by omega,by rw [Nat.pow_succ] at hv;omega,?_,hset,by simp [hs],by simp;omega,fun j hj=>?_⟩,by simp [RowKit.intOf];omega⟩
    ·rw [hx,zes,if_neg (by omega)];simp
    ·cases j with
     | zero=>rw [Nat.add_zero,zz9 _ _ _ (by omega)];rfl
     | succ j =>
      rw [zAa _ _ _ _ (by omega)]
      have:=hd j (by simpa using hj)
      rw [show 50+k+(j+1)=50+(k+1)+j by omega,this];rfl
   ·have h15:v < 16:=by omega
    have hc1:=hc0 (49+k) (by omega)
    have hf1:=hf0 (49+k) (by omega)
    have hal:Tryz.prog.arrayLen 222=65:=by kernel_rfl
    generalize hW:putRow zep w1 w.heap.size 0 dk=W at *
    have hl:(zav v::ds).length=16 - k:=by simp [hdl];omega
    have hxx:zes 15 u=zav v::ds:=by
     rw [hx]
     cases k with
     | zero=>rw [zes,Nat.mod_eq_of_lt h15];rfl
     | succ k=>rw [zes,if_pos h15];rfl
    have hsl : ∀ W,(Instr.sliceAt 222 (.pointer (some ⟨w.heap.size,0,none⟩)) (some (.int .i64 (50+(k:Int) - 1))) none none).run Tryz.prog W = .ok (.slice (some ⟨w.heap.size,49+k,none⟩) (16 - k) (16 - k)) W:=fun W=>by
     rw [run_sliceAt_array_l W 222 ⟨w.heap.size,0,none⟩ (by simp [Program.arrayLen,Program.elem,Tryz.underlying222]) .i64 (50+(k:Int) - 1) (by omega) (by rw [hal];omega)]
     go_simp
     rw [show (50+(k:Int)).toNat=50+k by omega,if_neg (by omega)]
     exact ⟨by rw [show 50+k - 1=49+k by omega],by omega⟩
    have hset:W.setCell { block:=w.heap.size,off:=49+k } (Value.int IntKind.u8 ((zav v).toNat:Int))=putRow zep w1 w.heap.size 0 (dk.setIfInBounds (49+k) (zav v)):=by
     rw [← hW,← putRow_set zep w1 w.heap.size 0 dk (49+k) (zav v) (by omega),Nat.zero_add]
    have hH2:Holds zep (putRow zep w1 w.heap.size 0 (dk.setIfInBounds (49+k) (zav v))) w.heap.size 0 (dk.setIfInBounds (49+k) (zav v)):=holds_putRow zep w1 w.heap.size 0 (Array.replicate 65 0) _ hH (by simp [hs])
    have hcv:(convert 208 9 (.slice (some ⟨w.heap.size,49+k,none⟩) (16 - k) (16 - k))).run Tryz.prog (W.setCell { block:=w.heap.size,off:=49+k } (Value.int IntKind.u8 ((zav v).toNat:Int))) = .ok (.string ⟨(zav v::ds).toArray⟩) (W.setCell { block:=w.heap.size,off:=49+k } (Value.int IntKind.u8 ((zav v).toNat:Int))):=by
     have h:=run_convert_bytes_back (P:=Tryz.prog) (W.setCell { block:=w.heap.size,off:=49+k } (Value.int IntKind.u8 ((zav v).toNat:Int))) 208 9 5 ⟨w.heap.size,49+k,none⟩ (16 - k) (zav v::ds) Tryz.underlying208 Tryz.underlying5 Tryz.underlying9 (fun j hj=>by
      rw [Addr.add_lit,hset]
      have h1:=(hH2 (49+k+j) (by simp [hs];omega)).1
      rw [Nat.zero_add] at h1
      rw [h1]
      cases j with
      | zero=>rw [Nat.add_zero,zz9 _ _ _ (by omega)];rfl
      | succ j =>
       rw [zAa _ _ _ _ (by omega)]
       have:=hd j (by simpa using hj)
       rw [show 49+k+(j+1)=50+k+j by omega,this];rfl)
     rw [hl] at h
     exact h
    rw [hset] at hcv
    go_wp2
    go_ret2
    refine ⟨?_,zzl hw1⟩
    rw [← hx,hxx];rfl
 ·intro b o ht
  exact (heap_alloc_old _ _ (by have:=hw b o ht;exact zq this)).trans (hw b o ht)
theorem zEE (u:Nat) (hu:u < 18446744073709551616) (w:World) (T:Nat→Obj→Prop) (hw : ∀ b o,T b o→w.heap[b]? = some o)
  (hz : ∀ w':World,(∀ b o,T b o→w'.heap[b]? = some o)→Calls Tryz.prog 64 #[.int .u64 16] w' fun e w''=>e = .returned (.int .i64 4)∧w''=w') :
  Calls Tryz.prog 164 #[.int .u64 u,.int .i64 16] w fun e w'=>e = .returned (.string ⟨(zes 15 u).toArray⟩)∧w.grownBy w' none:=by
 go_enter Tryz.func164,Tryz.ntmps164
 go_wp2_with (go_at_call 190;refine (zDP u hu _ T hw hz).mono ?_;rintro e w' ⟨rfl,hg⟩)
 go_ret
 exact ⟨rfl,hg⟩
theorem zEa {T:Nat→Obj→Prop} (hz : ∀ w':World,(∀ b o,T b o→w'.heap[b]? = some o)→Calls Tryz.prog 64 #[.int .u64 16] w' fun e w''=>e = .returned (.int .i64 4)∧w''=w') (x:BitVec 64) :
  Fn Tryz.prog T zds [.d (.u64 x),.d (.int .i64 16)] [] (.d (.str (zgQ x))) []:=by
 refine zoG ⟨_,Tryz.func164,by decide,rfl⟩ fun B σ a w args hT hS hsz hargs=>?_
 have ha:args = #[args.getD 0 undef,args.getD 1 undef]:=by
  apply Array.ext
  ·simpa using hsz
  ·intro i h1 h2
   match i,h2 with
   | 0,_=>simp [Array.getD,show 0 < args.size by omega]
   | 1,_=>simp [Array.getD,show 1 < args.size by omega]
 have h0:=hargs 0 (by simp)
 have h1:=hargs 1 (by simp)
 rw [ha]
 have e0:([V.d (D.u64 x),V.d (D.int .i64 16)].getD 0 .undef) = .d (D.u64 x):=rfl
 have e1:([V.d (D.u64 x),V.d (D.int .i64 16)].getD 1 .undef) = .d (D.int .i64 16):=rfl
 rw [e0] at h0
 rw [e1] at h1
 generalize args.getD 0 undef=va at h0
 generalize args.getD 1 undef=vb at h1
 cases h0 with
 | d _ _ hd0 =>
 cases h1 with
 | d _ _ hd1 =>
 cases hd0
 cases hd1
 refine (zEE x.toNat x.isLt w T (fun b o ht=>hS.pins b o (hT b o ht)) hz).mono ?_
 rintro e w' ⟨he,hg⟩
 refine ⟨_,σ,he,⟨fun t => .undef _,fun id ob h=>by simp [zA] at h,fun i j b h=>absurd (by simp [zA]) h,fun id b h=>absurd (by simp [zA]) h,fun _ _=>by simp [zA],?_,hS.nt,fun b hb=>Nat.lt_of_lt_of_le (hS.olt b hb) hg.size,fun b o hp=>(hg.block b (zq (hS.pins b o hp)) (by simp)).trans (hS.pins b o hp),fun id l h=>by simp [zA] at h⟩,.d _ _ ?_,fun i ob h=>by simp at h⟩
 ·refine ⟨hg.os.trans hS.kept.os,hg.tape.trans hS.kept.tape,hg.output.trans hS.kept.output,Nat.le_trans hS.kept.size hg.size,fun b hb hR=>(hg.block b (Nat.lt_of_lt_of_le hb hS.kept.size) (by simp)).trans (hS.kept.block b hb hR),fun b c e h=>?_⟩
  obtain ⟨c',h1,h2⟩:=hS.kept.cells b c e h
  exact ⟨c',(hg.block b (zq h1) (by simp)).trans h1,h2⟩
 ·exact .str _
end Go.Ab
namespace Go.Ab
open Go Go.Proofs
set_option maxRecDepth 10000
set_option maxHeartbeats 4000000
variable {T:Nat→Obj→Prop}
theorem ztD (x:BitVec 64) (h:Fn Tryz.prog T zds [.d (.u64 x),.d (.int .i64 16)] [] (.d (.str (zgQ x))) []):Fn Tryz.prog T zd8 [.d (.u64 x),.d (.int .i64 16)] [] (.d (.str (zgQ x))) []:=by
 refine zb zn zlm (by show 2≤8;decide) ?_
 (repeat' ((conv=>whnf);first|refine vA ?_|refine vB fun b hb=>?_|refine vC (fun hl=>?_) fun i kv vv hi=>?_|refine vE ?_|refine vG ?_|refine vH ?_|((first|refine vD ?_ ?_|refine vF ?_ ?_|refine vI ?_ ?_)<;>intro hc<;>try simp only [vL] at hc)|refine vJ fun hg=>?_|refine vK fun hg=>?_|refine vT ?_|refine vN ‹_› ?_|(refine vQ ?_ fun x hx=>?_;·first|omega|(simp only [vM] at *;omega))|((first|refine vO ?_ ?_|refine vR ?_ ‹_› ?_|refine vS ?_ fun x hx=>?_|refine vP ?_ ?_);·first|omega|(simp only [vM] at *;omega))|refine vW ⟨by omega,by omega⟩ ?_|(refine vU ?_ ?_;·kernel_rfl)|refine vX ?_|refine vY ?_|refine vZ ?_|refine yD h (by (repeat refine ⟨⟨rfl,rfl⟩,?_⟩);rfl) rfl ?_|refine yN h (by (repeat refine ⟨⟨rfl,rfl⟩,?_⟩);rfl) ?_|refine zaX.mk _ ‹_› ?_|refine vP (show (_:BitVec 64)≠_ by decide) ?_));all_goals try conv=>whnf
 rfl
end Go.Ab
