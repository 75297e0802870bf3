/- A part of the proofs of this seat: functions and their contracts. -/
import Derived.Test.YtkmhdnlmghaooaaGreatMD
import Derived.Shelf.Strconv.Itoa0
import Derived.Sort.WalkA14
import Derived.Test.YtkmhdnlmghaooaaGreatProg
import Derived.WalkKit
import Derived.Maps.OwnRows
import Derived.Maps.RangeRun
import Derived.Sort.LotD4
import Derived.Shelf.Sort.Plain
import Derived.Sort.OwnSortedInts
import Derived.Sort.AssemblyPlain
import Derived.Deep.RegionLaw
import Derived.Deep.AppendLies
import Derived.Deep.DrawnRows
set_option linter.unusedVariables false
set_option linter.unusedSimpArgs false
set_option linter.unusedSectionVars false
namespace Go.Ab
open Go Go.Proofs
set_option maxRecDepth 10000
set_option maxHeartbeats 4000000
set_option maxHeartbeats 40000000
variable {T:Nat→Obj→Prop}
theorem zAu {f:List Nd} (hL:f.length≤1000) {k:Nat} {n:Nd} (hn:f[k]? = some n) (hfd:zF (zG (FSt.done ⟨[],[]⟩)) (.int .i64 (k:Int))=some none) (hu:Fn Tryz.prog T zZ [.d (.int .i64 n.op)] [] (.d (.tup [.agg [.bool true,.bool false,.bool (zT n.op),.bool (zD n.op),.bool (zE n.op),.bool (zL n.op),.int .i64 (zbb n.op)],.bool (zdj n.op)])) []) {r1:Nat} {s1:FSt} (hl1:s1.out.length≤1000) (c1:Fn Tryz.prog T zk (za5 n.x) (za4 f (.nils 6) ⟨[],[]⟩) (.d (.int .i64 (r1:Int))) (zeC f s1)) (hfd1:zF (zG s1.done) (.int .i64 (k:Int))=some none) {j:Nat} (hfn:zF (zak s1.out 0) (dNd ⟨n.op,n.i,n.e,n.g,(r1:Int),n.y⟩)=some (some (.int .i64 (j:Int)))) :
  Fn Tryz.prog T zk (za5 (k:Int)) (za4 f (.nils 6) ⟨[],[]⟩) (.d (.int .i64 (j:Int))) [some (.box [.map 5]),some (.box [.d (dF f)]),some (.box [zaW]),some (.box [.map 6]),some (.box [.own 7]),some (.map (zG s1.done++[(.int .i64 (k:Int),.int .i64 (j:Int))])),some (.map (zak s1.out 0)),some (.row 6 (s1.out.map dNd))]:=by
 refine zJ zn zR (by show 6≤68;decide) _ (fun e env mem n h=>h) ?_
 (repeat' ((conv=>whnf);first|refine vA ?_|refine vG ?_|refine vT ?_|refine vN ‹_› ?_|refine yD hu (by (repeat refine ⟨⟨rfl,rfl⟩,?_⟩);rfl) rfl ?_|refine zaa.mk _ ‹_› ?_));all_goals try conv=>whnf
 refine zw.objsE [0,1,2,3,4,5,6] (c1) (by (repeat' first|exact rfl|refine And.intro ?_ ?_|refine ⟨_,rfl,?_⟩)) (by (repeat' first|exact rfl|refine And.intro ?_ ?_|refine ⟨_,rfl,?_⟩)) (by rfl) (by kernel_rfl) (by simp) [(0,some (.box [.map 5])),(1,some (.box [.d (dF f)])),(2,some (.box [zaW])),(3,some (.box [.map 6])),(4,some (.box [.own 9])),(5,some (.map (zG s1.done))),(6,some (.map (zak s1.out 0))),(9,some (.row 6 (s1.out.map dNd)))] rfl ?_
 (repeat' ((conv=>whnf);first|refine vA ?_|refine vE ?_|refine vG ?_|refine vH ?_|refine vT ?_|refine zaa.mk _ ‹_› ?_));all_goals try conv=>whnf
 refine ⟨trivial,_,[(0,0),(1,1),(2,2),(3,3),(4,4),(5,5),(6,6),(7,9)],[],rfl,.inl (by (repeat' exact rfl)),⟨by rfl,by rfl,by rfl,trivial,by (repeat' first|exact trivial|exact rfl|refine And.intro ?_ ?_|refine ⟨_,rfl,?_⟩|exact of_decide_eq_true rfl)⟩,by (repeat' first|exact trivial|exact rfl|refine And.intro ?_ ?_|refine ⟨_,rfl,?_⟩)⟩
theorem zAv {f:List Nd} (hL:f.length≤1000) {k:Nat} {n:Nd} (hn:f[k]? = some n) (hfd:zF (zG (FSt.done ⟨[],[]⟩)) (.int .i64 (k:Int))=some none) (hu:Fn Tryz.prog T zZ [.d (.int .i64 n.op)] [] (.d (.tup [.agg [.bool true,.bool false,.bool (zT n.op),.bool (zD n.op),.bool (zE n.op),.bool (zL n.op),.int .i64 (zbb n.op)],.bool (zdj n.op)])) []) {r1:Nat} {s1:FSt} (hl1:s1.out.length≤1000) (c1:Fn Tryz.prog T zk (za5 n.x) (za4 f (.nils 6) ⟨[],[]⟩) (.d (.int .i64 (r1:Int))) (zeC f s1)) (hfd1:zF (zG s1.done) (.int .i64 (k:Int))=some none) (hfn:zF (zak s1.out 0) (dNd ⟨n.op,n.i,n.e,n.g,(r1:Int),n.y⟩)=some none) :
  Fn Tryz.prog T zk (za5 (k:Int)) (za4 f (.nils 6) ⟨[],[]⟩) (.d (.int .i64 (((s1.out.map dNd).length:Nat):Int))) [some (.box [.map 5]),some (.box [.d (dF f)]),some (.box [zaW]),some (.box [.map 6]),some (.box [.own 7]),some (.map (zG s1.done++[(.int .i64 (k:Int),.int .i64 (((s1.out.map dNd).length:Nat):Int))])),some (.map (zak s1.out 0++[(dNd ⟨n.op,n.i,n.e,n.g,(r1:Int),n.y⟩,.int .i64 (((s1.out.map dNd).length:Nat):Int))])),some (.row 6 (s1.out.map dNd++[dNd ⟨n.op,n.i,n.e,n.g,(r1:Int),n.y⟩]))]:=by
 refine zJ zn zR (by show 6≤68;decide) _ (fun e env mem n h=>h) ?_
 (repeat' ((conv=>whnf);first|refine vA ?_|refine vG ?_|refine vT ?_|refine vN ‹_› ?_|refine yD hu (by (repeat refine ⟨⟨rfl,rfl⟩,?_⟩);rfl) rfl ?_|refine zaa.mk _ ‹_› ?_));all_goals try conv=>whnf
 refine zw.objsE [0,1,2,3,4,5,6] (c1) (by (repeat' first|exact rfl|refine And.intro ?_ ?_|refine ⟨_,rfl,?_⟩)) (by (repeat' first|exact rfl|refine And.intro ?_ ?_|refine ⟨_,rfl,?_⟩)) (by rfl) (by kernel_rfl) (by simp) [(0,some (.box [.map 5])),(1,some (.box [.d (dF f)])),(2,some (.box [zaW])),(3,some (.box [.map 6])),(4,some (.box [.own 9])),(5,some (.map (zG s1.done))),(6,some (.map (zak s1.out 0))),(9,some (.row 6 (s1.out.map dNd)))] rfl ?_
 (repeat' ((conv=>whnf);first|refine vA ?_|refine vH ?_|refine vJ fun hg=>?_|refine vT ?_|(refine vP ?_ ?_;·(simp only [vM] at *;omega))|refine zaa.mk _ ‹_› ?_));all_goals try conv=>whnf
 refine ⟨trivial,_,[(0,0),(1,1),(2,2),(3,3),(4,4),(5,5),(6,6),(7,11)],[],rfl,.inl (by (repeat' exact rfl)),⟨by rfl,by rfl,by rfl,trivial,by (repeat' first|exact trivial|exact rfl|refine And.intro ?_ ?_|refine ⟨_,rfl,?_⟩|exact of_decide_eq_true rfl)⟩,by (repeat' first|exact trivial|exact rfl|refine And.intro ?_ ?_|refine ⟨_,rfl,?_⟩)⟩
end Go.Ab
namespace Go.Ab
open Go Go.Proofs
set_option maxRecDepth 10000
set_option maxHeartbeats 4000000
set_option maxHeartbeats 40000000
variable {T:Nat→Obj→Prop}
theorem zAw {f:List Nd} (hL:f.length≤1000) {k:Nat} {n:Nd} (hn:f[k]? = some n) (hfd:zF (zG (FSt.done ⟨[],[]⟩)) (.int .i64 (k:Int))=some none) (hu:Fn Tryz.prog T zZ [.d (.int .i64 n.op)] [] (.d (.tup [.agg [.bool true,.bool true,.bool (zT n.op),.bool (zD n.op),.bool (zE n.op),.bool (zL n.op),.int .i64 (zbb n.op)],.bool (zdj n.op)])) []) {r1:Nat} {s1:FSt} (hl1:s1.out.length≤1000) (c1:Fn Tryz.prog T zk (za5 n.x) (za4 f (.nils 6) ⟨[],[]⟩) (.d (.int .i64 (r1:Int))) (zeC f s1)) (hfd1:zF (zG s1.done) (.int .i64 (k:Int))=some none) {r2:Nat} {s2:FSt} (hl2:s2.out.length≤1000) (c2:Fn Tryz.prog T zk (za5 n.y) (za4 f (.own 7) s1++[.row 6 (s1.out.map dNd)]) (.d (.int .i64 (r2:Int))) (zdi f s2)) (hfd2:zF (zG s2.done) (.int .i64 (k:Int))=some none) {j:Nat} (hfn:zF (zak s2.out 0) (dNd ⟨n.op,n.i,n.e,n.g,(r1:Int),(r2:Int)⟩)=some (some (.int .i64 (j:Int)))) :
  Fn Tryz.prog T zk (za5 (k:Int)) (za4 f (.nils 6) ⟨[],[]⟩) (.d (.int .i64 (j:Int))) [some (.box [.map 5]),some (.box [.d (dF f)]),some (.box [zaW]),some (.box [.map 6]),some (.box [.own 7]),some (.map (zG s2.done++[(.int .i64 (k:Int),.int .i64 (j:Int))])),some (.map (zak s2.out 0)),some (.row 6 (s2.out.map dNd))]:=by
 refine zJ zn zR (by show 6≤68;decide) _ (fun e env mem n h=>h) ?_
 (repeat' ((conv=>whnf);first|refine vA ?_|refine vG ?_|refine vT ?_|refine vN ‹_› ?_|refine yD hu (by (repeat refine ⟨⟨rfl,rfl⟩,?_⟩);rfl) rfl ?_|refine zaa.mk _ ‹_› ?_));all_goals try conv=>whnf
 refine zw.objsE [0,1,2,3,4,5,6] (c1) (by (repeat' first|exact rfl|refine And.intro ?_ ?_|refine ⟨_,rfl,?_⟩)) (by (repeat' first|exact rfl|refine And.intro ?_ ?_|refine ⟨_,rfl,?_⟩)) (by rfl) (by kernel_rfl) (by simp) [(0,some (.box [.map 5])),(1,some (.box [.d (dF f)])),(2,some (.box [zaW])),(3,some (.box [.map 6])),(4,some (.box [.own 9])),(5,some (.map (zG s1.done))),(6,some (.map (zak s1.out 0))),(9,some (.row 6 (s1.out.map dNd)))] rfl ?_
 (repeat' ((conv=>whnf);first|refine vA ?_|refine vG ?_|refine vT ?_));all_goals try conv=>whnf
 refine zw.objsE [0,1,2,3,4,5,6,9] (c2) (by (repeat' first|exact rfl|refine And.intro ?_ ?_|refine ⟨_,rfl,?_⟩)) (by (repeat' first|exact rfl|refine And.intro ?_ ?_|refine ⟨_,rfl,?_⟩)) (by rfl) (by kernel_rfl) (by simp) [(0,some (.box [.map 5])),(1,some (.box [.d (dF f)])),(2,some (.box [zaW])),(3,some (.box [.map 6])),(4,some (.box [.own 10])),(5,some (.map (zG s2.done))),(6,some (.map (zak s2.out 0))),(9,none),(10,some (.row 6 (s2.out.map dNd)))] rfl ?_
 (repeat' ((conv=>whnf);first|refine vA ?_|refine vE ?_|refine vG ?_|refine vT ?_|refine zaa.mk _ ‹_› ?_));all_goals try conv=>whnf
 refine ⟨trivial,_,[(0,0),(1,1),(2,2),(3,3),(4,4),(5,5),(6,6),(7,10)],[],rfl,.inl (by (repeat' exact rfl)),⟨by rfl,by rfl,by rfl,trivial,by (repeat' first|exact trivial|exact rfl|refine And.intro ?_ ?_|refine ⟨_,rfl,?_⟩|exact of_decide_eq_true rfl)⟩,by (repeat' first|exact trivial|exact rfl|refine And.intro ?_ ?_|refine ⟨_,rfl,?_⟩)⟩
theorem zAx {f:List Nd} (hL:f.length≤1000) {k:Nat} {n:Nd} (hn:f[k]? = some n) (hfd:zF (zG (FSt.done ⟨[],[]⟩)) (.int .i64 (k:Int))=some none) (hu:Fn Tryz.prog T zZ [.d (.int .i64 n.op)] [] (.d (.tup [.agg [.bool true,.bool true,.bool (zT n.op),.bool (zD n.op),.bool (zE n.op),.bool (zL n.op),.int .i64 (zbb n.op)],.bool (zdj n.op)])) []) {r1:Nat} {s1:FSt} (hl1:s1.out.length≤1000) (c1:Fn Tryz.prog T zk (za5 n.x) (za4 f (.nils 6) ⟨[],[]⟩) (.d (.int .i64 (r1:Int))) (zeC f s1)) (hfd1:zF (zG s1.done) (.int .i64 (k:Int))=some none) {r2:Nat} {s2:FSt} (hl2:s2.out.length≤1000) (c2:Fn Tryz.prog T zk (za5 n.y) (za4 f (.own 7) s1++[.row 6 (s1.out.map dNd)]) (.d (.int .i64 (r2:Int))) (zdi f s2)) (hfd2:zF (zG s2.done) (.int .i64 (k:Int))=some none) (hfn:zF (zak s2.out 0) (dNd ⟨n.op,n.i,n.e,n.g,(r1:Int),(r2:Int)⟩)=some none) :
  Fn Tryz.prog T zk (za5 (k:Int)) (za4 f (.nils 6) ⟨[],[]⟩) (.d (.int .i64 (((s2.out.map dNd).length:Nat):Int))) [some (.box [.map 5]),some (.box [.d (dF f)]),some (.box [zaW]),some (.box [.map 6]),some (.box [.own 7]),some (.map (zG s2.done++[(.int .i64 (k:Int),.int .i64 (((s2.out.map dNd).length:Nat):Int))])),some (.map (zak s2.out 0++[(dNd ⟨n.op,n.i,n.e,n.g,(r1:Int),(r2:Int)⟩,.int .i64 (((s2.out.map dNd).length:Nat):Int))])),some (.row 6 (s2.out.map dNd++[dNd ⟨n.op,n.i,n.e,n.g,(r1:Int),(r2:Int)⟩]))]:=by
 refine zJ zn zR (by show 6≤68;decide) _ (fun e env mem n h=>h) ?_
 (repeat' ((conv=>whnf);first|refine vA ?_|refine vG ?_|refine vT ?_|refine vN ‹_› ?_|refine yD hu (by (repeat refine ⟨⟨rfl,rfl⟩,?_⟩);rfl) rfl ?_|refine zaa.mk _ ‹_› ?_));all_goals try conv=>whnf
 refine zw.objsE [0,1,2,3,4,5,6] (c1) (by (repeat' first|exact rfl|refine And.intro ?_ ?_|refine ⟨_,rfl,?_⟩)) (by (repeat' first|exact rfl|refine And.intro ?_ ?_|refine ⟨_,rfl,?_⟩)) (by rfl) (by kernel_rfl) (by simp) [(0,some (.box [.map 5])),(1,some (.box [.d (dF f)])),(2,some (.box [zaW])),(3,some (.box [.map 6])),(4,some (.box [.own 9])),(5,some (.map (zG s1.done))),(6,some (.map (zak s1.out 0))),(9,some (.row 6 (s1.out.map dNd)))] rfl ?_
 (repeat' ((conv=>whnf);first|refine vA ?_|refine vG ?_|refine vT ?_));all_goals try conv=>whnf
 refine zw.objsE [0,1,2,3,4,5,6,9] (c2) (by (repeat' first|exact rfl|refine And.intro ?_ ?_|refine ⟨_,rfl,?_⟩)) (by (repeat' first|exact rfl|refine And.intro ?_ ?_|refine ⟨_,rfl,?_⟩)) (by rfl) (by kernel_rfl) (by simp) [(0,some (.box [.map 5])),(1,some (.box [.d (dF f)])),(2,some (.box [zaW])),(3,some (.box [.map 6])),(4,some (.box [.own 10])),(5,some (.map (zG s2.done))),(6,some (.map (zak s2.out 0))),(9,none),(10,some (.row 6 (s2.out.map dNd)))] rfl ?_
 (repeat' ((conv=>whnf);first|refine vA ?_|refine vJ fun hg=>?_|refine vT ?_|(refine vP ?_ ?_;·(simp only [vM] at *;omega))|refine zaa.mk _ ‹_› ?_));all_goals try conv=>whnf
 refine ⟨trivial,_,[(0,0),(1,1),(2,2),(3,3),(4,4),(5,5),(6,6),(7,12)],[],rfl,.inl (by (repeat' exact rfl)),⟨by rfl,by rfl,by rfl,trivial,by (repeat' first|exact trivial|exact rfl|refine And.intro ?_ ?_|refine ⟨_,rfl,?_⟩|exact of_decide_eq_true rfl)⟩,by (repeat' first|exact trivial|exact rfl|refine And.intro ?_ ?_|refine ⟨_,rfl,?_⟩)⟩
end Go.Ab
namespace Go.Ab
open Go Go.Proofs
set_option maxRecDepth 10000
set_option maxHeartbeats 4000000
variable {T:Nat→Obj→Prop}
theorem zAA {f:List Nd} (hf:zan f) (hL:f.length≤1000) : ∀ (m k:Nat) (i:Int) (s:FSt),k < m→i=k→k < f.length→zjC f s →
  Fn Tryz.prog T zk (za5 i) (za4 f (.own 7) s++[.row 6 (s.out.map dNd)]) (.d (.int .i64 ((fin f (k+1) k s).1:Int))) (zdi f (fin f (k+1) k s).2):=by
 intro m
 induction m with
 | zero=>intro k i s h;omega
 | succ m ih =>
  intro k i s hk hi hkf hs
  subst hi
  have hl:s.out.length≤1000:=Nat.le_trans (zi2 hs) hL
  cases hd:s.done.lookup k with
  | some r =>
   have e:fin f (k+1) k s=(r,s):=by rw [fin,hd]
   have hfd:zF (zG s.done) (.int .i64 (k:Int))=some (some (D.int .i64 (r:Int))):=by rw [zqQ,hd];rfl
   rw [e]
   refine zJ zn zR (by show 6≤68;decide) _ (fun e env mem n h=>h) ?_
   (repeat' ((conv=>whnf);first|refine vA ?_|refine vG ?_|refine vT ?_|refine zaa.mk _ ‹_› ?_));all_goals try conv=>whnf
   refine ⟨trivial,_,[(0,0),(1,1),(2,2),(3,3),(4,4),(5,5),(6,6),(8,7)],[],rfl,.inl (by (repeat' exact rfl)),⟨by rfl,by rfl,by rfl,trivial,by (repeat' first|exact trivial|exact rfl|refine And.intro ?_ ?_|refine ⟨_,rfl,?_⟩|exact of_decide_eq_true rfl)⟩,by (repeat' first|exact trivial|exact rfl|refine And.intro ?_ ?_|refine ⟨_,rfl,?_⟩)⟩
  | none =>
   obtain ⟨n,hn⟩ : ∃ n,f[k]? = some n:=⟨f[k],by simp [hkf]⟩
   have hn':f.getD k default=n:=by simp [List.getD,hn]
   cases hx:z7 n.op with
   | false =>
    have hy:zQ n.op=false:=by
     cases hy:zQ n.op with
     | true=>rw [zar hy] at hx;cases hx
     | false=>rfl
    have hu:=zej (T:=T) hx hy
    have e:=zwl hf hkf hd (by rw [hn'];exact hx) (by rw [hn'];exact hy)
    rw [hn'] at e
    cases hp:s.out.idxOf? n with
    | some j =>
     rw [zai hp] at e
     rw [e]
     simp only [zdi,zaK]
     exact zAn hL hn hl (zB hd) hu (zdq hp)
    | none =>
     rw [zbv hp,← List.length_map (f:=dNd)] at e
     rw [e]
     simp only [zdi,zaK,zcY,List.map_append,List.map_cons,List.map_nil]
     exact zAo hL hn hl (zB hd) hu (zcq hp)
   | true =>
    have hxk:=zbc hf hkf (by rw [hn'];exact hx)
    rw [hn'] at hxk
    obtain ⟨i1,d1⟩:=zgR hf hxk.2 (by omega) hs hd
    have c1:=ih n.x.toNat n.x s (by omega) (by omega) (by omega) hs
    cases h1:fin f (n.x.toNat+1) n.x.toNat s with
    | mk r1 s1 =>
    rw [h1] at i1 d1 c1
    simp only at i1 d1 c1
    have l1:s1.out.length≤1000:=Nat.le_trans (zi2 i1) hL
    cases hy:zQ n.op with
    | false =>
     have hu:=zej (T:=T) hx hy
     have e:=zwm hf hkf hd hn' hx hy h1
     cases hp:s1.out.idxOf? ⟨n.op,n.i,n.e,n.g,(r1:Int),n.y⟩ with
     | some j =>
      rw [zai hp] at e
      rw [e]
      simp only [zdi,zaK]
      exact zAp hL hn hl (zB hd) hu l1 c1 (zB d1) (zdq hp)
     | none =>
      rw [zbv hp,← List.length_map (f:=dNd)] at e
      rw [e]
      simp only [zdi,zaK,zcY,List.map_append,List.map_cons,List.map_nil]
      exact zAq hL hn hl (zB hd) hu l1 c1 (zB d1) (zcq hp)
    | true =>
     have hyk:=zd1 hf hkf (by rw [hn'];exact hy)
     rw [hn'] at hyk
     obtain ⟨i2,d2⟩:=zgR hf hyk.2 (by omega) i1 d1
     have c2:=ih n.y.toNat n.y s1 (by omega) (by omega) (by omega) i1
     cases h2:fin f (n.y.toNat+1) n.y.toNat s1 with
     | mk r2 s2 =>
     rw [h2] at i2 d2 c2
     simp only at i2 d2 c2
     have l2:s2.out.length≤1000:=Nat.le_trans (zi2 i2) hL
     have hu:=zej (T:=T) hx hy
     have e:=zwn hf hkf hd hn' hx hy h1 h2
     cases hp:s2.out.idxOf? ⟨n.op,n.i,n.e,n.g,(r1:Int),(r2:Int)⟩ with
     | some j =>
      rw [zai hp] at e
      rw [e]
      simp only [zdi,zaK]
      exact zAr hL hn hl (zB hd) hu l1 c1 (zB d1) l2 c2 (zB d2) (zdq hp)
     | none =>
      rw [zbv hp,← List.length_map (f:=dNd)] at e
      rw [e]
      simp only [zdi,zaK,zcY,List.map_append,List.map_cons,List.map_nil]
      exact zAs hL hn hl (zB hd) hu l1 c1 (zB d1) l2 c2 (zB d2) (zcq hp)
theorem zzG {f:List Nd} (hf:zan f) (hL:f.length≤1000) : ∀ (m k:Nat) (i:Int),k < m→i=k→k < f.length →
  Fn Tryz.prog T zk (za5 i) (za4 f (.nils 6) ⟨[],[]⟩) (.d (.int .i64 ((fin f (k+1) k ⟨[],[]⟩).1:Int))) (zeC f (fin f (k+1) k ⟨[],[]⟩).2):=by
 intro m
 induction m with
 | zero=>intro k i h;omega
 | succ m ih =>
  intro k i hk hi hkf
  subst hi
  have hs:=zuC f
  have hd:(FSt.mk [] []).done.lookup k=none:=rfl
  have hx0:True:=trivial
  cases hx0 with
  | intro =>
   obtain ⟨n,hn⟩ : ∃ n,f[k]? = some n:=⟨f[k],by simp [hkf]⟩
   have hn':f.getD k default=n:=by simp [List.getD,hn]
   cases hx:z7 n.op with
   | false =>
    have hy:zQ n.op=false:=by
     cases hy:zQ n.op with
     | true=>rw [zar hy] at hx;cases hx
     | false=>rfl
    have hu:=zej (T:=T) hx hy
    have e:=zwl hf hkf hd (by rw [hn'];exact hx) (by rw [hn'];exact hy)
    rw [hn'] at e
    have hp:([]:List Nd).idxOf? n=none:=rfl
    rw [zbv hp,← List.length_map (f:=dNd)] at e
    rw [e]
    simp only [zeC,zaK,zcY,List.map_append,List.map_cons,List.map_nil]
    exact zAt hL hn (zB hd) hu (zcq hp)
   | true =>
    have hxk:=zbc hf hkf (by rw [hn'];exact hx)
    rw [hn'] at hxk
    obtain ⟨i1,d1⟩:=zgR hf hxk.2 (by omega) hs hd
    have c1:=ih n.x.toNat n.x (by omega) (by omega) (by omega)
    cases h1:fin f (n.x.toNat+1) n.x.toNat (FSt.mk [] []) with
    | mk r1 s1 =>
    rw [h1] at i1 d1 c1
    simp only at i1 d1 c1
    have l1:s1.out.length≤1000:=Nat.le_trans (zi2 i1) hL
    cases hy:zQ n.op with
    | false =>
     have hu:=zej (T:=T) hx hy
     have e:=zwm hf hkf hd hn' hx hy h1
     cases hp:s1.out.idxOf? ⟨n.op,n.i,n.e,n.g,(r1:Int),n.y⟩ with
     | some j =>
      rw [zai hp] at e
      rw [e]
      simp only [zeC,zaK]
      exact zAu hL hn (zB hd) hu l1 c1 (zB d1) (zdq hp)
     | none =>
      rw [zbv hp,← List.length_map (f:=dNd)] at e
      rw [e]
      simp only [zeC,zaK,zcY,List.map_append,List.map_cons,List.map_nil]
      exact zAv hL hn (zB hd) hu l1 c1 (zB d1) (zcq hp)
    | true =>
     have hyk:=zd1 hf hkf (by rw [hn'];exact hy)
     rw [hn'] at hyk
     obtain ⟨i2,d2⟩:=zgR hf hyk.2 (by omega) i1 d1
     have c2:=zAA (T:=T) hf hL (n.y.toNat+1) n.y.toNat n.y s1 (by omega) (by omega) (by omega) i1
     cases h2:fin f (n.y.toNat+1) n.y.toNat s1 with
     | mk r2 s2 =>
     rw [h2] at i2 d2 c2
     simp only at i2 d2 c2
     have l2:s2.out.length≤1000:=Nat.le_trans (zi2 i2) hL
     have hu:=zej (T:=T) hx hy
     have e:=zwn hf hkf hd hn' hx hy h1 h2
     cases hp:s2.out.idxOf? ⟨n.op,n.i,n.e,n.g,(r1:Int),(r2:Int)⟩ with
     | some j =>
      rw [zai hp] at e
      rw [e]
      simp only [zeC,zaK]
      exact zAw hL hn (zB hd) hu l1 c1 (zB d1) l2 c2 (zB d2) (zdq hp)
     | none =>
      rw [zbv hp,← List.length_map (f:=dNd)] at e
      rw [e]
      simp only [zeC,zaK,zcY,List.map_append,List.map_cons,List.map_nil]
      exact zAx hL hn (zB hd) hu l1 c1 (zB d1) l2 c2 (zB d2) (zcq hp)
end Go.Ab
namespace Go.Ab
open Go Go.Proofs
set_option maxRecDepth 10000
set_option maxHeartbeats 4000000
variable {T:Nat→Obj→Prop}
theorem zoL {f:List Nd} (hf:zan f) (hL:f.length≤1000) {k:Nat} {i:Int} (hi:i=k) (hk:k < f.length):Fn Tryz.prog T zgF [.d (dF f),.d (.int .i64 i)] [] (.d (dF (zbp f k))) []:=by
 have c:=zzG (T:=T) hf hL (k+1) k i (by omega) hi hk
 refine zb zn zmy (by show 2≤16;decide) ?_
 (repeat' ((conv=>whnf);refine vT ?_));all_goals try conv=>whnf
 refine zw.objs [5,0,6,3,1,4,2] (c) (by (repeat' first|exact rfl|refine And.intro ?_ ?_|refine ⟨_,rfl,?_⟩)) (by (repeat' first|exact rfl|refine And.intro ?_ ?_|refine ⟨_,rfl,?_⟩)) (by rfl) (by rfl) (by simp) ?_
 (repeat' ((conv=>whnf);refine vT ?_));all_goals try conv=>whnf
 rfl
def zlP (f:List Nd) (i:Int):List Nd:=if zbi f≠0∨i < 0∨(f.length:Int)≤i then [] else zbp f i.toNat
def cL (f:List Nd):List Nd:=if zbi f≠0 then [] else zbp f (f.length - 1)
theorem zAR (f:List Nd):zlP f ((f.length:Int) - 1)=cL f:=by
 unfold zlP cL
 by_cases h:zbi f=0
 ·have:=(zd8.1 h).1
  rw [if_neg (by omega),if_neg (by omega)]
  congr 1
  omega
 ·rw [if_pos (.inl h),if_pos h]
theorem zAz (f:List Nd) (i:Int):Fn Tryz.prog T zkn [.d (dF f),.d (.int .i64 i)] [] (.d (dF (zlP f i))) []:=by
 refine zb zn zrI (by show 2≤21;decide) ?_
 (repeat' ((conv=>whnf);first|refine vA ?_|((first|refine vD ?_ ?_|refine vF ?_ ?_)<;>intro hc<;>try simp only [vL] at hc)|refine vJ fun hg=>?_|refine vT ?_|refine yD (zgc _) ⟨⟨rfl,rfl⟩,rfl⟩ rfl ?_));all_goals try conv=>whnf
 ·have hp:zlP f i=[]:=if_pos (.inl ‹_›)
  rw [hp];rfl
 ·have hp:zlP f i=[]:=if_pos (.inr (.inl ‹_›))
  rw [hp];rfl
 ·have hp:zlP f i=[]:=if_pos (.inr (.inr (by omega)))
  rw [hp];rfl
 ·have h0:zbi f=0:=by omega
  have h1:=zd8.1 h0
  have hp:zlP f i=zbp f i.toNat:=if_neg (by omega)
  rw [hp]
  have cS:=zoL (T:=T) (f:=f) h1.2.2 (by omega) (k:=i.toNat) (i:=i) (by omega) (by omega)
  (repeat' ((conv=>whnf);first|refine vT ?_|refine yN cS ⟨⟨rfl,rfl⟩,⟨rfl,rfl⟩,rfl⟩ ?_));all_goals try conv=>whnf
  rfl
theorem zio (f:List Nd):Fn Tryz.prog T zgE [.d (dF f)] [] (.d (dF (cL f))) []:=by
 refine zb zn zmw (by show 1≤8;decide) ?_
 (repeat' ((conv=>whnf);first|refine vJ fun hg=>?_|refine vT ?_|(refine vO ?_ ?_;·(simp only [vM] at *;omega))|fail));all_goals try conv=>whnf
 have cC:=zAz (T:=T) f (((f.map dNd).length:Int) - 1)
 rw [show zlP f (((f.map dNd).length:Int) - 1)=cL f by rw [List.length_map,zAR]] at cC
 (repeat' ((conv=>whnf);first|refine vT ?_|refine yN cC ⟨⟨rfl,rfl⟩,⟨rfl,rfl⟩,rfl⟩ ?_));all_goals try conv=>whnf
 rfl
theorem zjN {f:List Nd} (h:zbi f=0):zlU (zag f (f.length - 1)) (cL f)∧(cL f).length≤f.length:=by
 obtain ⟨h1,h2,h3⟩:=zd8.1 h
 unfold cL
 rw [if_neg (by omega)]
 exact ⟨ziG h3 (by omega),(zim h3 (by omega)).2.1⟩
theorem zwc {f:List Nd} (h:zbi f≠0):cL f=[]:=if_pos h
theorem zso (f:List Nd):(cL f).length≤200:=by
 by_cases h:zbi f=0
 ·have:=(zjN h).2
  have:=(zd8.1 h).2.1
  omega
 ·rw [zwc h];simp
theorem zpv (f:List Nd):zan (cL f):=by
 by_cases h:zbi f=0
 ·exact (zjN h).1.ok
 ·rw [zwc h];exact zcf
theorem zhS {f:List Nd} {n:Nd} (h:n∈cL f):zdb n.hd:=by
 obtain ⟨i,hi⟩:=List.getElem?_of_mem h
 exact (zaC.1 (zpv f i n hi)).1
theorem zAV (m:Hd→Nat) {b:Nat} (f:List Nd) (h : ∀ n∈cL f,m n.hd < 2 ^ b) (k:Nat):uni m ((cL f).take k) < 2 ^ b :=
 (zd3 m).2 fun n hn=>h n (List.mem_of_mem_take hn)
theorem znw (f:List Nd) (g:Nat) (m:Hd→Nat) (hm : ∀ n,n∈cL f→m n.hd < 2 ^ 31∧Fn Tryz.prog T g [.d (dNd n),.d (znm n.op)] [] (.d (.int .i64 (m n.hd:Int))) []) :
  Fn Tryz.prog T zhZ [.d (dF f),.d (.fn g [])] [] (.d (.int .i64 (uni m (cL f):Int))) []:=by
 have hlen:=zso f
 refine zb zn zo0 (by show 2≤31;decide) ?_
 (repeat' ((conv=>whnf);first|refine vA ?_|refine vJ fun hg=>?_|refine vT ?_|refine yN (zio _) ⟨⟨rfl,rfl⟩,rfl⟩ ?_));all_goals try conv=>whnf
 refine zaN (fun ((k,x):Nat×Int)=>[(1,.d (.fn g [])),(11,.d (dF (cL f))),(12,.d (.int .i64 (((cL f).map dNd).length:Int))),(5,.d (.int .i64 (x))),(13,.d (.int .i64 ((k:Int))))]) (fun ((k,x):Nat×Int)=>k≤(cL f).length∧x=(uni m ((cL f).take k):Nat)) (fun ((k,x):Nat×Int)=>(cL f).length - k) ((0,0)) (⟨by simp,rfl⟩) (by (repeat' first|exact trivial|exact rfl|refine And.intro ?_ ?_)) ?_
 rintro ⟨k,x⟩ ⟨hk,hI⟩
 subst hI
 (repeat' ((conv=>whnf);first|refine vA ?_|(refine vF ?_ ?_<;>intro hc<;>try simp only [vL] at hc)|refine vT ?_|(refine vQ ?_ fun x hx=>?_;·omega)|refine vX ?_|refine yN (zpV _) ⟨⟨rfl,rfl⟩,rfl⟩ ?_));all_goals try conv=>whnf
 ·obtain ⟨h1,h2⟩:=hm _ (List.mem_of_getElem? hx)
  (repeat' ((conv=>whnf);first|refine vT ?_|(refine vO ?_ ?_;·omega)|refine yD h2 (by (repeat refine ⟨⟨rfl,rfl⟩,?_⟩);rfl) rfl ?_));all_goals try conv=>whnf
  refine ⟨(k+1,_),[],[],?_,?_,by (refine ⟨rfl,rfl,rfl,?_,?_⟩;repeat' first|exact trivial|exact rfl|refine And.intro ?_ ?_)⟩
  ·exact ⟨by (omega),by rw [zy3 m hx];exact zzu (Nat.lt_trans (zAV m f (fun n hn=>(hm n hn).1) k) (by decide)) (Nat.lt_trans h1 (by decide))⟩
  ·((simp only [vM] at *;omega))
 ·rw [show k=(cL f).length by omega,List.take_length]
theorem zri {i:Int} (h0:0≤i) (h7:i≤7):(-9223372036854775808≤(1:Int) * 2 ^ (min i.toNat IntKind.i64.bits)∧(1:Int) * 2 ^ (min i.toNat IntKind.i64.bits)≤9223372036854775807)∧((2 ^ i.toNat:Nat):Int)=(1:Int) * 2 ^ (min i.toNat IntKind.i64.bits):=by
 have:i=0∨i=1∨i=2∨i=3∨i=4∨i=5∨i=6∨i=7:=by omega
 rcases this with rfl|rfl|rfl|rfl|rfl|rfl|rfl|rfl<;>decide
theorem zsT (f:List Nd):Fn Tryz.prog T zhX [.d (dF f)] [] (.d (.int .i64 (uni zap (cL f):Int))) []:=by
 have cU:=znw (T:=T) f zeu zap (fun n hn=>⟨Nat.lt_trans (znx n.hd) (by decide),by
  refine zb zn zmx (by show 2≤7;decide) ?_
  (repeat' ((conv=>whnf);first|refine vT ?_|refine vX ?_));all_goals try conv=>whnf
  exact (zoQ n.hd).symm⟩)
 refine zb zn zoY (by show 1≤5;decide) ?_
 (repeat' ((conv=>whnf);first|refine vT ?_|refine vX ?_|refine yD cU ⟨⟨rfl,rfl⟩,⟨rfl,rfl⟩,rfl⟩ rfl ?_));all_goals try conv=>whnf
 all_goals skip
theorem zx4 (f:List Nd):Fn Tryz.prog T zhW [.d (dF f)] [] (.d (.int .i64 (uni zb2 (cL f):Int))) []:=by
 have cU:=znw (T:=T) f zet zb2 (fun n hn=>⟨Nat.lt_trans (zx3 (zhS hn)) (by decide),by
  have hh:=zhS hn
  cases hf:zT n.op with
  | true =>
   obtain ⟨h0,h7⟩:0≤n.i∧n.i≤7:=hh.fact hf
   obtain ⟨h1,h2⟩:=zri h0 h7
   have e:((zb2 n.hd:Nat):Int)=1 * 2 ^ min n.i.toNat IntKind.i64.bits:=by rw [zb2,if_pos (by exact hf)];exact h2
   rw [e,znm,hf]
   refine zb zn zgK (by show 2≤10;decide) ?_
   (repeat' ((conv=>whnf);first|refine vA ?_|refine vG ?_|refine vT ?_|((first|refine vO ?_ ?_|refine vP ?_ ?_);·omega)|refine vX ?_));all_goals try conv=>whnf
  | false =>
   have e:zb2 n.hd=0:=by rw [zb2,if_neg (by simp [Nd.hd,hf])]
   rw [e,znm,hf]
   refine zb zn zgK (by show 2≤10;decide) ?_
   (repeat' ((conv=>whnf);first|refine vA ?_|refine vH ?_|refine vT ?_|refine vX ?_));all_goals try conv=>whnf
   rfl⟩)
 refine zb zn zoX (by show 1≤5;decide) ?_
 (repeat' ((conv=>whnf);first|refine vT ?_|refine vX ?_|refine yD cU ⟨⟨rfl,rfl⟩,⟨rfl,rfl⟩,rfl⟩ rfl ?_));all_goals try conv=>whnf
theorem zwo (f:List Nd):Fn Tryz.prog T zhx [.d (dF f)] [] (.d (.int .i64 (uni za8 (cL f):Int))) []:=by
 have cU:=znw (T:=T) f zdV za8 (fun n hn=>⟨Nat.lt_trans (zv1 (zhS hn)) (by decide),by
  have hh:=zhS hn
  cases hf:zD n.op with
  | true =>
   obtain ⟨h0,h7⟩:0≤n.i∧n.i≤3:=hh.agent hf
   obtain ⟨h1,h2⟩:=zri h0 (by omega)
   have e:((za8 n.hd:Nat):Int)=1 * 2 ^ min n.i.toNat IntKind.i64.bits:=by rw [za8,if_pos (by exact hf)];exact h2
   rw [e,znm,hf]
   refine zb zn zgh (by show 2≤12;decide) ?_
   (repeat' ((conv=>whnf);first|refine vA ?_|refine vG ?_|refine vT ?_|((first|refine vO ?_ ?_|refine vP ?_ ?_);·omega)|refine vX ?_));all_goals try conv=>whnf
  | false =>
   have h0:0≤n.g:=by
    cases hg:zE n.op with
    | true=>have:1≤n.g∧n.g≤15:=hh.group hg;omega
    | false=>have:n.g=0:=hh.g0 hg;omega
   have e:((za8 n.hd:Nat):Int)=n.g:=by rw [za8,if_neg (by simp [Nd.hd,hf])];exact Int.toNat_of_nonneg h0
   rw [e,znm,hf]
   refine zb zn zgh (by show 2≤12;decide) ?_
   (repeat' ((conv=>whnf);first|refine vA ?_|refine vH ?_|refine vT ?_|refine vX ?_));all_goals try conv=>whnf⟩)
 refine zb zn znI (by show 1≤5;decide) ?_
 (repeat' ((conv=>whnf);first|refine vT ?_|refine vX ?_|refine yD cU ⟨⟨rfl,rfl⟩,⟨rfl,rfl⟩,rfl⟩ rfl ?_));all_goals try conv=>whnf
def zdO (m:Nat) (n:Int):Bool:=decide (31≤n∨m < 2 ^ n.toNat)
theorem zx7 (m:Nat) (n:Int):Fn Tryz.prog T zeN [.d (.int .i64 (m:Int)),.d (.int .i64 n)] [] (.d (.bool (zdO m n))) []:=by
 refine zb zn znK (by show 2≤14;decide) ?_
 (repeat' ((conv=>whnf);first|refine vA ?_|(refine vF ?_ ?_<;>intro hc<;>try simp only [vL] at hc)|refine vT ?_|(refine vP ?_ ?_;·omega)|refine vZ ?_));all_goals try conv=>whnf
 ·simp [zdO, *]
 ·show decide ((m:Int).fdiv (2 ^ min (max n 0).toNat IntKind.i64.bits)=0)=_
  have e1:(max n 0).toNat=n.toNat:=by omega
  have e2:min n.toNat IntKind.i64.bits=n.toNat:=Nat.min_eq_left (show n.toNat≤64 by omega)
  rw [e1,e2,zqs,zdO,Nat.shiftRight_eq_div_pow]
  refine decide_eq_decide.2 ⟨fun h => .inr ?_,fun h=>?_⟩
  ·have h0:m / 2 ^ n.toNat=0:=by omega
   exact (Nat.div_eq_zero_iff.1 h0).resolve_left (by have:=Nat.two_pow_pos n.toNat;omega)
  ·have h0:m / 2 ^ n.toNat=0:=Nat.div_eq_zero_iff.2 (.inr (h.resolve_left (by omega)))
   rw [h0];rfl
def zcy (f:List Nd) (agents facts:Int):Bool:=decide (zbi f=0)&&zdO (uni za8 (cL f)) agents&&zdO (uni zb2 (cL f)) facts
theorem zuw (f:List Nd) (agents facts:Int):Fn Tryz.prog T ziO [.d (dF f),.d (.int .i64 agents),.d (.int .i64 facts)] [] (.d (.bool (zcy f agents facts))) []:=by
 refine zb zn zpZ (by show 3≤25;decide) ?_
 (repeat' ((conv=>whnf);first|refine vA ?_|(refine vF ?_ ?_<;>intro hc)|refine vT ?_|refine vZ ?_|refine yD (zgc _) ⟨⟨rfl,rfl⟩,rfl⟩ rfl ?_|refine yD (zwo _) ⟨⟨rfl,rfl⟩,rfl⟩ rfl ?_|refine yD (zx4 _) ⟨⟨rfl,rfl⟩,rfl⟩ rfl ?_|refine yD (zx7 _ _) ⟨⟨rfl,rfl⟩,⟨rfl,rfl⟩,rfl⟩ rfl ?_));all_goals try conv=>whnf
 ·simp_all [zcy,zdO]
 ·have:zdO (uni za8 (cL f)) agents=false:=decide_eq_false ‹_›
  simp [zcy,this]
 ·simp_all [zcy]
end Go.Ab
namespace Go.Ab
open Go Go.Proofs
set_option maxRecDepth 10000
set_option maxHeartbeats 4000000
variable {T:Nat→Obj→Prop}
theorem zwy (hR:zaY T) (p:PM) (hp:za2 p.rank) (hc0:zy p=0) (n:Nd) (hn:0≤n.g∧n.g < 9223372036854775808) (x y:BitVec 64) (h3:n.op=3→0≤n.i∧n.i < p.val.length) (h15:n.op=15→0≤n.i∧n.i < p.cell.length) :
  Fn Tryz.prog T zeM [.d (dPM p),.d (dNd n),.d (.u64 x),.d (.u64 y)] [] (.d (.u64 (zaD p n.hd x y))) []:=by
 obtain ⟨op,i,e,g,nx,ny⟩:=n
 obtain ⟨G,rfl⟩ : ∃ G:Nat,g=(G:Int):=⟨g.toNat,by have:=hn.1;simp only at this;omega⟩
 exact zyb hR p hp hc0 op i e G (by have:=hn.2;simp only at this;omega) nx ny x y h3 h15
theorem zrl {β:Type} (v:Hd→β→β→β) (d:β) (n:Nd) : ∀ (l:List Nd) (acc:List β),zax v d (l++[n]) acc=zax v d l acc++[v n.hd ((zax v d l acc).getD n.x.toNat d) ((zax v d l acc).getD n.y.toNat d)]
 | [],acc=>rfl
 | m::r,acc=>by rw [List.cons_append,zax,zax,zrl v d n r]
theorem zxz (p:PM):zuV (zaD p) where
 x h a b c hx:=by
  have : ¬(4≤h.op∧h.op≤21):=by simpa [z7] using hx
  unfold zaD
  repeat (rw [if_neg (show ¬h.op=4 by omega)])
  by_cases h1:h.op=1
  ·simp [h1]
  ·by_cases h3:h.op=3
   ·simp [h3]
   ·simp only [h1,h3,if_false,show ¬h.op=5 by omega,show ¬h.op=6 by omega,show ¬h.op=7 by omega,show ¬h.op=8 by omega,show ¬h.op=9 by omega,show ¬h.op=10 by omega,show ¬h.op=11 by omega,show ¬h.op=13 by omega,show ¬h.op=14 by omega,show ¬h.op=15 by omega]
 y h a b c hy:=by
  have : ¬(5≤h.op∧h.op≤8∨h.op=13∨h.op=14∨h.op=16∨h.op=19∨h.op=21):=by simpa [zQ] using hy
  unfold zaD
  simp only [show ¬h.op=5 by omega,show ¬h.op=6 by omega,show ¬h.op=7 by omega,show ¬h.op=8 by omega,show ¬h.op=13 by omega,show ¬h.op=14 by omega,if_false]
noncomputable def zS (p:PM) (f:List Nd):BitVec 64×Int :=
 if zy p≠0 then (0#64,zy p) else if zbi f≠0 then (0#64,zbi f) else if zaU .i64 (fun p q=>p &&& ~~~q) (uni zap (cL f):Int) 59≠0 then (0#64,10) else
 if zcy f p.cell.length p.val.length=false then (0#64,2) else ((zax (zaD p) 0#64 (cL f) []).getD ((cL f).length - 1) 0#64,0)
abbrev dUE (x:BitVec 64×Int):D := .tup [.u64 x.1,.int .i64 x.2]
theorem zAy {f:List Nd} {a b:Nat} (ha:a≤4) (hb:b≤8) (h:zcy f a b=true) {n:Nd} (hn:n∈cL f):(n.op=3→0≤n.i∧n.i < b)∧(zD n.op=true→0≤n.i∧n.i < a)∧(zE n.op=true→n.g.toNat < 2 ^ a):=by
 have hh:=zhS hn
 simp only [zcy,zdO,Bool.and_eq_true,decide_eq_true_eq,Int.toNat_natCast] at h
 obtain ⟨⟨-,h1⟩,h2⟩:=h
 have h1:=(zd3 za8).1 (h1.resolve_left (by omega)) n hn
 have h2:=(zd3 zb2).1 (h2.resolve_left (by omega)) n hn
 refine ⟨fun e=>?_,fun e=>?_,fun e=>?_⟩
 ·have e':zT n.hd.op=true:=decide_eq_true e
  have h3:0≤n.i∧n.i≤7:=hh.fact e'
  rw [zb2,if_pos e'] at h2
  have h2:2 ^ n.i.toNat < 2 ^ b:=h2
  have:=(Nat.pow_lt_pow_iff_right (by decide:1 < 2)).1 h2
  omega
 ·have h3:0≤n.i∧n.i≤3:=hh.agent e
  rw [za8,if_pos (show zD n.hd.op=true from e)] at h1
  have h1:2 ^ n.i.toNat < 2 ^ a:=h1
  have:=(Nat.pow_lt_pow_iff_right (by decide:1 < 2)).1 h1
  omega
 ·have h3 : ¬ zD n.hd.op=true:=by
   have:11≤n.op∧n.op≤13:=by simpa [zE] using e
   simp only [zD,decide_eq_true_eq];show ¬(n.op=9∨n.op=10∨n.op=14∨n.op=15);omega
  rw [za8,if_neg h3] at h1
  exact h1
theorem zye {n:Nd} (hh:zdb n.hd):0≤n.g∧n.g≤15:=by
 cases hg:zE n.op with
 | true=>have:1≤n.g∧n.g≤15:=hh.group hg;omega
 | false=>have:n.g=0:=hh.g0 hg;omega
theorem zBg {c:List Nd} (hc:zan c) {k:Nat} {n:Nd} (h:c[k]? = some n) (hk:0 < k):(0≤n.x∧n.x < k)∧0≤n.y∧n.y < k:=by
 have h1:=zaC.1 (hc k n h)
 constructor
 ·cases hx:z7 n.op with
  | true=>exact h1.2.1 hx
  | false=>have:=h1.2.2.1 hx;omega
 ·cases hy:zQ n.op with
  | true=>exact h1.2.2.2.1 hy
  | false=>have:=h1.2.2.2.2 hy;omega
theorem zsU (hR:zaY T) (p:PM) (hp:za2 p.rank) (f:List Nd):Fn Tryz.prog T zhu [.d (dPM p),.d (dF f)] [] (.d (dUE (zS p f))) []:=by
 have hlen:=zso f
 have hok:=zpv f
 refine zb zn znE (by show 2≤71;decide) ?_
 (repeat' ((conv=>whnf);first|refine vA ?_|refine vE ?_|((first|refine vD ?_ ?_|refine vI ?_ ?_)<;>intro hc<;>try simp only [vL] at hc)|refine vJ fun hg=>?_|refine vT ?_|refine yD (zd9 hR _ hp) ⟨⟨rfl,rfl⟩,rfl⟩ rfl ?_|refine yD (zgc _) ⟨⟨rfl,rfl⟩,rfl⟩ rfl ?_|refine yD (zsT _) ⟨⟨rfl,rfl⟩,rfl⟩ rfl ?_|refine yD (zuw _ _ _) ⟨⟨rfl,rfl⟩,⟨rfl,rfl⟩,⟨rfl,rfl⟩,rfl⟩ rfl ?_|refine yN (zio _) ⟨⟨rfl,rfl⟩,rfl⟩ ?_));all_goals try conv=>whnf
 ·have e:zS p f=(0#64,zy p):=if_pos ‹_›
  rw [e];rfl
 ·have e:zS p f=(0#64,zbi f):=by rw [zS,if_neg (by omega),if_pos ‹_›]
  rw [e];rfl
 ·have e:zS p f=(0#64,10):=by rw [zS,if_neg (by omega),if_neg (by omega),if_pos ‹_›]
  rw [e];rfl
 ·have hc0:=‹zy p=0›
  have hf0:=‹zbi f=0›
  have hgd:=zA hc0
  have hfit:=‹zcy f _ _=true›
  have e:zS p f=((zax (zaD p) 0#64 (cL f) []).getD ((cL f).length - 1) 0#64,0):=by rw [zS,if_neg (by omega),if_neg (by omega),if_neg (by omega),if_neg (by simp [hfit])]
  have hpos:=(zjN hf0).1.pos
  rw [e]
  refine zt (fun ((k,zs):Nat×List D)=>[(2,.ptr 0 0),(8,.own 1),(37,.d (dF (cL f))),(38,.d (.int .i64 (((cL f).map dNd).length:Int))),(39,.d (.int .i64 ((k:Int))))]) (fun ((k,zs):Nat×List D)=>[(0,some (zck p)),(1,some (.row 1 zs))]) 2 (fun ((k,zs):Nat×List D)=>k≤(cL f).length∧zs=(zax (zaD p) 0#64 ((cL f).take k) []).map D.u64) (fun ((k,zs):Nat×List D)=>(cL f).length - k) ((0,[])) [(0,0)]   [1] (⟨by simp,rfl⟩) (by (refine ⟨rfl,rfl,rfl,?_,?_⟩;repeat' first|exact trivial|exact rfl|exact ⟨_,rfl⟩|refine And.intro ?_ ?_|refine ⟨_,rfl,?_⟩|decide)) ?_
  rintro ⟨k,zs⟩ ⟨hk,hI⟩
  subst hI
  have hl:(zax (zaD p) 0#64 ((cL f).take k) []).length=k:=by rw [zfL];simp;omega
  by_cases hkl:k < (cL f).length
  ·obtain ⟨n,hn⟩ : ∃ n,(cL f)[k]? = some n:=⟨(cL f)[k],by simp [hkl]⟩
   have hnm:=List.mem_of_getElem? hn
   obtain ⟨f1,f2,-⟩:=zAy hgd.n4 hgd.v8 hfit hnm
   have hgn:=zye (zhS hnm)
   have hst:zax (zaD p) 0#64 ((cL f).take (k+1)) []=zax (zaD p) 0#64 ((cL f).take k) []++[zaD p n.hd ((zax (zaD p) 0#64 ((cL f).take k) []).getD n.x.toNat 0#64) ((zax (zaD p) 0#64 ((cL f).take k) []).getD n.y.toNat 0#64)]:=by
    rw [List.take_add_one,hn];exact zrl _ _ _ _ _
   have h15:n.op=15→0≤n.i∧n.i < p.cell.length:=fun e=>f2 (decide_eq_true (by omega))
   have hgn2:0≤n.g∧n.g < 9223372036854775808:=⟨hgn.1,by omega⟩
   have hxy:0 < k→(0≤n.x∧n.x < k)∧0≤n.y∧n.y < k:=fun h=>zBg hok hn h
   (repeat' ((conv=>whnf);first|refine vA ?_|(refine vF ?_ ?_<;>intro hc<;>try simp only [vL] at hc)|refine vJ fun hg=>?_|refine vT ?_|refine vN ‹_› ?_|(refine vQ ?_ fun x hx=>?_;·omega)|((first|refine vO ?_ ?_|refine vP ?_ ?_);·first|omega|(simp only [vM] at *;omega))|(refine vU ?_ ?_;·kernel_rfl)|refine yD (zwy hR p hp hc0 n hgn2 _ _ f1 h15) (by (repeat refine ⟨⟨rfl,rfl⟩,?_⟩);rfl) rfl ?_));all_goals try conv=>whnf
   ·rename_i a ha
    have ea:(zax (zaD p) 0#64 ((cL f).take k) []).getD n.x.toNat 0#64=a:=by rw [List.getD,ha];rfl
    have eb:(zax (zaD p) 0#64 ((cL f).take k) []).getD n.y.toNat 0#64=x:=by rw [List.getD,hx];rfl
    rw [ea,eb] at hst
    refine ⟨(k+1,_),[(0,0),(1,4)],[],?_,?_,by (refine ⟨rfl,rfl,rfl,?_,?_⟩;repeat' first|exact trivial|exact rfl|refine And.intro ?_ ?_|refine ⟨_,rfl,?_⟩|decide)⟩
    ·exact ⟨hkl,by rw [hst,List.map_append];rfl⟩
    ·((simp only [vM] at *;omega))
   ·have h0:zax (zaD p) 0#64 ((cL f).take k) []=[]:=List.length_eq_zero_iff.1 (by omega)
    rw [h0] at hst
    rw [h0]
    refine ⟨(k+1,_),[(0,0),(1,4)],[],?_,?_,by (refine ⟨rfl,rfl,rfl,?_,?_⟩;repeat' first|exact trivial|exact rfl|refine And.intro ?_ ?_|refine ⟨_,rfl,?_⟩|decide)⟩
    ·exact ⟨hkl,by rw [hst];rfl⟩
    ·((simp only [vM] at *;omega))
   ·omega
  ·(repeat' ((conv=>whnf);first|refine vA ?_|(refine vF ?_ ?_<;>intro hc<;>try simp only [vL] at hc)|refine vJ fun hg=>?_|refine vT ?_|(refine vQ ?_ fun x hx=>?_;·first|omega|(simp only [vM] at *;omega))|((first|refine vO ?_ ?_|refine vP ?_ ?_);·first|omega|(simp only [vM] at *;omega))|(refine vU ?_ ?_;·kernel_rfl)|fail));all_goals try conv=>whnf
   ·omega
   ·omega
   ·have ek:k=(cL f).length:=by omega
    rw [ek,List.take_length] at hx hl
    rw [show ((((zax (zaD p) 0#64 (cL f) []).map D.u64).length:Int) - 1).toNat=(cL f).length - 1 by rw [List.length_map];omega] at hx
    rw [List.getD,hx];rfl
 ·have e:zS p f=(0#64,2):=by rw [zS,if_neg (by omega),if_neg (by omega),if_neg (by omega),if_pos ‹_›]
  rw [e];rfl
end Go.Ab
namespace Go.Ab
def zaz (k:Nat) (n:Nd):Nd := { n with x:=if z7 n.op=true then n.x+k else n.x,y:=if zQ n.op=true then n.y+k else n.y }
def zae (f c:List Nd):List Nd:=f++c.map (zaz f.length)
theorem zvB {n:Nd} {j:Int} {k:Nat} (hj:0≤j) (h:zbM n j=0):zbM (zaz k n) (k+j)=0:=by
 obtain ⟨h1,h2,h3,h4,h5⟩:=zaC.1 h
 refine zaC.2 ⟨h1,fun e=>?_,fun e=>?_,fun e=>?_,fun e=>?_⟩
 ·have e:z7 n.op=true:=e
  have:=h2 e
  simp only [zaz,e,if_true];omega
 ·have e:z7 n.op=false:=e
  have:=h3 e
  simp only [zaz,e];simpa using this
 ·have e:zQ n.op=true:=e
  have:=h4 e
  simp only [zaz,e,if_true];omega
 ·have e:zQ n.op=false:=e
  have:=h5 e
  simp only [zaz,e];simpa using this
theorem zf2 {f c:List Nd} (hf:zan f) (hc:zan c):zan (zae f c):=by
 intro k n hk
 unfold zae at hk
 rw [List.getElem?_append] at hk
 split at hk
 ·exact hf k n hk
 ·rename_i h
  rw [List.getElem?_map,Option.map_eq_some_iff] at hk
  obtain ⟨m,hm,rfl⟩:=hk
  have:=zvB (k:=f.length) (by omega) (hc _ m hm)
  rwa [show ((f.length:Nat):Int)+((k - f.length:Nat):Int)=k by omega] at this
theorem zeZ {f c:List Nd} (hf:zan f) (hc:zan c) : ∀ (m j:Nat),j < m→j < c.length→zag (zae f c) (f.length+j)=zag c j
 | 0,j,h,_=>by omega
 | m+1,j,h,hj=>by
  have ho:=zf2 hf hc
  have hl:f.length+j < (zae f c).length:=by simp [zae];omega
  have hg:(zae f c).getD (f.length+j) default=zaz f.length (c.getD j default):=by
   simp [zae,List.getD,hj]
  rw [zei ho hl,zei hc hj,hg]
  have eo:(zaz f.length (c.getD j default)).op=(c.getD j default).op:=rfl
  have eh:(zaz f.length (c.getD j default)).hd=(c.getD j default).hd:=rfl
  rw [eo,eh]
  cases hy:zQ (c.getD j default).op with
  | true =>
   have hx:=zar hy
   have e1:=zbc hc hj hx
   have e2:=zd1 hc hj hy
   have x1:(zaz f.length (c.getD j default)).x.toNat=f.length+(c.getD j default).x.toNat:=by simp only [zaz,hx,if_true];omega
   have y1:(zaz f.length (c.getD j default)).y.toNat=f.length+(c.getD j default).y.toNat:=by simp only [zaz,hy,if_true];omega
   simp only [cond_true]
   rw [x1,y1,zeZ hf hc m _ (by omega) (by omega),zeZ hf hc m _ (by omega) (by omega)]
  | false =>
   cases hx:z7 (c.getD j default).op with
   | true =>
    have e1:=zbc hc hj hx
    have x1:(zaz f.length (c.getD j default)).x.toNat=f.length+(c.getD j default).x.toNat:=by simp only [zaz,hx,if_true];omega
    simp only [cond_true,cond_false]
    rw [x1,zeZ hf hc m _ (by omega) (by omega)]
   | false=>rfl
theorem zxK {f c:List Nd} (hf:zan f) {j:Nat} (hj:j < f.length):zag (zae f c) j=zag f j:=zaL hf hj
def zd5:Nat→List Nd→Nd→List (List Nd)→Option (Nd×List Nd)
 | _,f,x,[]=>some (x,f)
 | k,f,x,o::r=>if zbi o≠0 then none else
  zd5 (k+1) (zae f (cL o)) (if k=0 then { x with x:=((zae f (cL o)).length:Int) - 1 } else { x with y:=((zae f (cL o)).length:Int) - 1 }) r
def zca (x:Nd) (f:List Nd):List Nd:=if zbM x f.length≠0 then [] else if 200 < (zbp (f++[x]) f.length).length then [] else zbp (f++[x]) f.length
def z8 (x:Nd) (os:List (List Nd)):List Nd:=match zd5 0 [] x os with
 | none=>[]
 | some (x,f)=>zca x f
structure IsF (f:List Nd) (t:Tm):Prop where
 ok:zbi f=0
 tree:zag f (f.length - 1)=t
theorem zwJ {f:List Nd} (h:zbi f=0):IsF f (zag f (f.length - 1)):=⟨h,rfl⟩
theorem IsF.canon {f:List Nd} {t:Tm} (h:IsF f t):zlU t (cL f)∧(cL f).length≤f.length:=by
 have:=zjN h.ok
 rwa [h.tree] at this
theorem IsF.tok {f:List Nd} {t:Tm} (h:IsF f t):t.ok:=by
 obtain ⟨h1,h2,h3⟩:=zd8.1 h.ok
 rw [← h.tree]
 exact zhb h3 f.length _ (by omega) (by omega)
theorem zjV {x:Nd} {f:List Nd} (hf:zan f) (hx:zbM x f.length=0) (hl:f.length≤199):IsF (zca x f) (zag (f++[x]) f.length)∧(zca x f).length≤f.length+1:=by
 have hok:zan (f++[x]):=by
  intro k n hk
  rw [List.getElem?_append] at hk
  split at hk
  ·exact hf k n hk
  ·rename_i h1
   have:k=f.length:=by have:=(List.getElem?_eq_some_iff.1 hk).1;simp at this;omega
   subst this
   simp at hk;subst hk;exact hx
 have hlt:f.length < (f++[x]).length:=by simp
 have h1:=ziG hok hlt
 have h2:=(zim hok hlt).2.1
 simp only [List.length_append,List.length_cons,List.length_nil] at h2
 have e:zca x f=zbp (f++[x]) f.length:=by
  unfold zca
  rw [if_neg (by omega),if_neg (by omega)]
 rw [e]
 exact ⟨⟨zd8.2 ⟨h1.pos,by omega,h1.ok⟩,h1.tree⟩,h2⟩
theorem zqj {x:Nd} {f:List Nd} (hf:zan f) (hx:zbM x f.length=0):zag (f++[x]) f.length=cond (zQ x.op) (.b x.hd (zag f x.x.toNat) (zag f x.y.toNat)) (cond (z7 x.op) (.u x.hd (zag f x.x.toNat)) (.z x.hd)):=by
 have hok:zan (f++[x]):=by
  intro k n hk
  rw [List.getElem?_append] at hk
  split at hk
  ·exact hf k n hk
  ·rename_i h1
   have:k=f.length:=by have:=(List.getElem?_eq_some_iff.1 hk).1;simp at this;omega
   subst this
   simp at hk;subst hk;exact hx
 have hg:(f++[x]).getD f.length default=x:=by simp [List.getD]
 obtain ⟨-,h2,-,h4,-⟩:=zaC.1 hx
 rw [zei hok (by simp),hg]
 cases hy:zQ x.op with
 | true =>
  have hxx:=zar hy
  have e1:=h2 hxx
  have e2:=h4 hy
  simp only [cond_true]
  rw [zaL hf (by omega),zaL hf (by omega)]
 | false =>
  cases hxx:z7 x.op with
  | true =>
   have e1:=h2 hxx
   simp only [cond_true,cond_false]
   rw [zaL hf (by omega)]
  | false=>rfl
theorem zu3 {h:Hd} (hh:zdb h) (hx:z7 h.op=false) (hy:zQ h.op=false):IsF (z8 ⟨h.op,h.i,h.e,h.g,0,0⟩ []) (.z h)∧(z8 ⟨h.op,h.i,h.e,h.g,0,0⟩ []).length≤1:=by
 have hn:zbM ⟨h.op,h.i,h.e,h.g,0,0⟩ ([]:List Nd).length=0:=zaC.2 ⟨hh,fun e=>by simp [hx] at e,fun _=>rfl,fun e=>by simp [hy] at e,fun _=>rfl⟩
 have h1:=zjV zcf hn (by simp)
 rw [zqj zcf hn] at h1
 simp only [hx,hy,cond_false] at h1
 exact h1
theorem zkP {h:Hd} (hh:zdb h) (hx:z7 h.op=true) (hy:zQ h.op=false) {o:List Nd} {t:Tm} (ho:IsF o t) (hl:o.length≤199):IsF (z8 ⟨h.op,h.i,h.e,h.g,0,0⟩ [o]) (.u h t)∧(z8 ⟨h.op,h.i,h.e,h.g,0,0⟩ [o]).length≤o.length+1:=by
 obtain ⟨c1,c2⟩:=ho.canon
 have hp:=c1.pos
 have e0:(zae [] (cL o)).length=(cL o).length:=by simp [zae]
 have hok:=zf2 zcf c1.ok
 have ht:zag (zae [] (cL o)) ((cL o).length - 1)=t:=by
  have:=zeZ (f:=[]) zcf c1.ok (cL o).length ((cL o).length - 1) (by omega) (by omega)
  rw [List.length_nil,Nat.zero_add] at this
  rw [this];exact c1.tree
 have hn:zbM ⟨h.op,h.i,h.e,h.g,((zae [] (cL o)).length:Int) - 1,0⟩ (zae [] (cL o)).length=0:=zaC.2 ⟨hh,fun _=>by simp only;omega,fun e=>by simp [hx] at e,fun e=>by simp [hy] at e,fun _=>rfl⟩
 have e:z8 ⟨h.op,h.i,h.e,h.g,0,0⟩ [o]=zca ⟨h.op,h.i,h.e,h.g,((zae [] (cL o)).length:Int) - 1,0⟩ (zae [] (cL o)):=by
  simp [z8,zd5,ho.ok]
 have h1:=zjV hok hn (by omega)
 rw [zqj hok hn] at h1
 simp only [hx,hy,cond_false,cond_true] at h1
 rw [show (((zae [] (cL o)).length:Int) - 1).toNat=(cL o).length - 1 by omega,ht] at h1
 rw [e]
 exact ⟨h1.1,by have:=h1.2;omega⟩
theorem zqG {h:Hd} (hh:zdb h) (hy:zQ h.op=true) {o q:List Nd} {t u:Tm} (ho:IsF o t) (hq:IsF q u) (hl:o.length+q.length≤199):IsF (z8 ⟨h.op,h.i,h.e,h.g,0,0⟩ [o,q]) (.b h t u)∧(z8 ⟨h.op,h.i,h.e,h.g,0,0⟩ [o,q]).length≤o.length+q.length+1:=by
 have hx:=zar hy
 obtain ⟨c1,c2⟩:=ho.canon
 obtain ⟨d1,d2⟩:=hq.canon
 have hp:=c1.pos
 have hp2:=d1.pos
 have e0:(zae [] (cL o)).length=(cL o).length:=by simp [zae]
 have hok:=zf2 zcf c1.ok
 have hok2:=zf2 hok d1.ok
 have e2:(zae (zae [] (cL o)) (cL q)).length=(cL o).length+(cL q).length:=by rw [zae,List.length_append,List.length_map,e0]
 have ht:zag (zae (zae [] (cL o)) (cL q)) ((cL o).length - 1)=t:=by
  rw [zxK hok (by omega)]
  have:=zeZ (f:=[]) zcf c1.ok (cL o).length ((cL o).length - 1) (by omega) (by omega)
  rw [List.length_nil,Nat.zero_add] at this
  rw [this];exact c1.tree
 have hu:zag (zae (zae [] (cL o)) (cL q)) ((cL o).length+(cL q).length - 1)=u:=by
  have:=zeZ hok d1.ok (cL q).length ((cL q).length - 1) (by omega) (by omega)
  rw [e0,show (cL o).length+((cL q).length - 1)=(cL o).length+(cL q).length - 1 by omega] at this
  rw [this];exact d1.tree
 have hn:zbM ⟨h.op,h.i,h.e,h.g,((zae [] (cL o)).length:Int) - 1,((zae (zae [] (cL o)) (cL q)).length:Int) - 1⟩ (zae (zae [] (cL o)) (cL q)).length=0 :=
  zaC.2 ⟨hh,fun _=>by simp only;omega,fun e=>by simp [hx] at e,fun _=>by simp only;omega,fun e=>by simp [hy] at e⟩
 have e:z8 ⟨h.op,h.i,h.e,h.g,0,0⟩ [o,q]=zca ⟨h.op,h.i,h.e,h.g,((zae [] (cL o)).length:Int) - 1,((zae (zae [] (cL o)) (cL q)).length:Int) - 1⟩ (zae (zae [] (cL o)) (cL q)):=by
  simp [z8,zd5,ho.ok,hq.ok]
 have h1:=zjV hok2 hn (by omega)
 rw [zqj hok2 hn] at h1
 simp only [hy,cond_true] at h1
 rw [show (((zae [] (cL o)).length:Int) - 1).toNat=(cL o).length - 1 by omega,show (((zae (zae [] (cL o)) (cL q)).length:Int) - 1).toNat=(cL o).length+(cL q).length - 1 by omega,ht,hu] at h1
 rw [e]
 exact ⟨h1.1,by have:=h1.2;omega⟩
end Go.Ab
namespace Go.Ab
open Go
def ze7 (h:Hd):Prop := ∀ i,(zap h).testBit i=true→(59:Nat).testBit i=true
def zen (p:PM) (h:Hd):Prop:=za8 h < 2 ^ p.cell.length∧zb2 h < 2 ^ p.val.length
theorem ztc {c:List Nd} {t:Tm} (hc:zlU t c):zaU .i64 (fun p q=>p &&& ~~~q) (uni zap c:Int) 59=0↔t.all ze7:=by
 have hu:uni zap c < 2 ^ 63:=Nat.lt_trans ((zd3 zap).2 fun n _=>znx n.hd) (by decide)
 have:=zmF (b:=59) hu (by decide)
 rw [show ((59:Nat):Int)=59 from rfl] at this
 rw [this,← hc.all]
 constructor
 ·intro h n hn i hi
  exact h i (by rw [zjw];exact List.any_eq_true.2 ⟨n,hn,hi⟩)
 ·intro h i hi
  rw [zjw,List.any_eq_true] at hi
  obtain ⟨n,hn,hi⟩:=hi
  exact h n hn i hi
theorem zlX {p q:Hd→Prop} : ∀ {t:Tm},t.all (fun h=>p h∧q h)↔t.all p∧t.all q
 | .z h=>Iff.rfl
 | .u h x=>by
  simp only [Tm.all,zlX (t:=x)]
  exact ⟨fun ⟨⟨a,b⟩,c,d⟩=>⟨⟨a,c⟩,b,d⟩,fun ⟨⟨a,c⟩,b,d⟩=>⟨⟨a,b⟩,c,d⟩⟩
 | .b h x y=>by
  simp only [Tm.all,zlX (t:=x),zlX (t:=y)]
  exact ⟨fun ⟨⟨a,b⟩,⟨c,d⟩,e,f⟩=>⟨⟨a,c,e⟩,b,d,f⟩,fun ⟨⟨a,c,e⟩,b,d,f⟩=>⟨⟨a,b⟩,⟨c,d⟩,e,f⟩⟩
theorem zsO {p:PM} (hg:zr8 p) {f:List Nd} {t:Tm} (hf:IsF f t):zcy f p.cell.length p.val.length=true↔t.all (zen p):=by
 have h4:=hg.n4
 have h8:=hg.v8
 have hc:=hf.canon.1
 unfold zen
 rw [zlX,← hc.all,← hc.all,← zd3 za8,← zd3 zb2]
 simp only [zcy,zdO,Bool.and_eq_true,decide_eq_true_eq,Int.toNat_natCast]
 constructor
 ·rintro ⟨⟨-,h1⟩,h2⟩
  exact ⟨h1.resolve_left (by omega),h2.resolve_left (by omega)⟩
 ·rintro ⟨h1,h2⟩
  exact ⟨⟨hf.ok,.inr h1⟩,.inr h2⟩
theorem zs6 {p:PM} {f:List Nd} {t:Tm} (hf:IsF f t) (hc0:zy p=0) (h1:t.all ze7) (h2:t.all (zen p)):zS p f=(ev (zaD p) 0#64 t,0):=by
 have hc:=hf.canon.1
 have hg:=zA hc0
 rw [zS,if_neg (not_not_intro hc0),if_neg (not_not_intro hf.ok),if_neg (not_not_intro ((ztc hc).2 h1)),if_neg (by rw [(zsO hg hf).2 h2];decide),zxb (zxz p) hc]
theorem zq3 {p:PM} {f:List Nd} (h:(zS p f).2=0):zy p=0 ∧ ∃ t,IsF f t∧t.all ze7∧t.all (zen p)∧(zS p f).1=ev (zaD p) 0#64 t:=by
 by_cases hc0:zy p=0
 ·by_cases hf0:zbi f=0
  ·have hf:=zwJ hf0
   have hg:=zA hc0
   have hc:=hf.canon.1
   by_cases h1:zaU .i64 (fun p q=>p &&& ~~~q) (uni zap (cL f):Int) 59=0
   ·cases h2:zcy f p.cell.length p.val.length with
    | true =>
     have a1:=(ztc hc).1 h1
     have a2:=(zsO hg hf).1 h2
     exact ⟨hc0,_,hf,a1,a2,by rw [zs6 hf hc0 a1 a2]⟩
    | false=>rw [zS,if_neg (not_not_intro hc0),if_neg (not_not_intro hf0),if_neg (not_not_intro h1),if_pos h2] at h;cases h
   ·rw [zS,if_neg (not_not_intro hc0),if_neg (not_not_intro hf0),if_pos h1] at h;cases h
  ·rw [zS,if_neg (not_not_intro hc0),if_pos hf0] at h;exact absurd h hf0
 ·rw [zS,if_pos hc0] at h;exact absurd h hc0
structure OkT (p:PM) (f:List Nd) (t:Tm):Prop where
 isF:IsF f t
 lang:t.all ze7
 fit:t.all (zen p)
theorem OkT.holds {p:PM} {f:List Nd} {t:Tm} (h:OkT p f t) (hc0:zy p=0):zS p f=(ev (zaD p) 0#64 t,0):=zs6 h.isF hc0 h.lang h.fit
theorem zAJ {p:PM} {f:List Nd} (h:(zS p f).2=0) : ∃ t,OkT p f t∧(zS p f).1=ev (zaD p) 0#64 t:=by
 obtain ⟨-,t,h1,h2,h3,h4⟩:=zq3 h
 exact ⟨t,⟨h1,h2,h3⟩,h4⟩
theorem OkT.unary {p:PM} {f:List Nd} {t:Tm} (hf:OkT p f t) {h:Hd} (hh:zdb h) (hx:z7 h.op=true) (hy:zQ h.op=false) (ha:ze7 h) (hp:zen p h) (hl:f.length≤199) :
  OkT p (z8 ⟨h.op,h.i,h.e,h.g,0,0⟩ [f]) (.u h t):=⟨(zkP hh hx hy hf.isF hl).1,⟨ha,hf.lang⟩,⟨hp,hf.fit⟩⟩
theorem OkT.binary {p:PM} {f g:List Nd} {t u:Tm} (hf:OkT p f t) (hg:OkT p g u) {h:Hd} (hh:zdb h) (hy:zQ h.op=true) (ha:ze7 h) (hp:zen p h) (hl:f.length+g.length≤199) :
  OkT p (z8 ⟨h.op,h.i,h.e,h.g,0,0⟩ [f,g]) (.b h t u):=⟨(zqG hh hy hf.isF hg.isF hl).1,⟨ha,hf.lang,hg.lang⟩,⟨hp,hf.fit,hg.fit⟩⟩
theorem zsb {h:Hd} (hf:zap h=0∨zap h=1∨zap h=2∨zap h=8∨zap h=16∨zap h=32):ze7 h:=by
 intro i hi
 have key : ∀ k,(2 ^ k).testBit i=true→i=k:=fun k hk=>by
  rw [Nat.testBit_two_pow] at hk;exact (of_decide_eq_true hk).symm
 rcases hf with e|e|e|e|e|e<;>rw [e] at hi
 ·simp at hi
 ·have:=key 0 hi;subst this;decide
 ·have:=key 1 hi;subst this;decide
 ·have:=key 3 hi;subst this;decide
 ·have:=key 4 hi;subst this;decide
 ·have:=key 5 hi;subst this;decide
theorem zjG {op:Int} (ho:op=9∨op=10∨op=14∨op=15) {p:PM} (hg:zr8 p) {a:Nat} (ha:a < p.cell.length):zdb ⟨op,a,0,0⟩∧ze7 ⟨op,a,0,0⟩∧zen p ⟨op,a,0,0⟩:=by
 have h4:=hg.n4
 have hag:zD op=true:=decide_eq_true (by omega)
 have hfa:zT op=false:=decide_eq_false (by omega)
 have hev:zL op=false:=decide_eq_false (by omega)
 have hgr:zE op=false:=decide_eq_false (by omega)
 refine ⟨⟨decide_eq_true (by simp only;omega),fun e=>?_,fun _=>⟨by simp only;omega,by simp only;omega⟩,fun e=>?_,fun e=>?_,fun _ e=>?_,fun _=>rfl,fun _=>rfl⟩,zsb ?_,?_,?_⟩
 ·simp [hfa] at e
 ·simp [hev] at e
 ·simp [hgr] at e
 ·simp [hag] at e
 ·show zap ⟨op,0,0,0⟩=0∨zap ⟨op,0,0,0⟩=1∨zap ⟨op,0,0,0⟩=2∨zap ⟨op,0,0,0⟩=8∨zap ⟨op,0,0,0⟩=16∨zap ⟨op,0,0,0⟩=32
  rcases ho with rfl|rfl|rfl|rfl<;>decide
 ·rw [za8,if_pos (show zD (Hd.mk op a 0 0).op=true from hag)]
  exact Nat.pow_lt_pow_right (by omega) (by simp only;omega)
 ·rw [zb2,if_neg (show ¬zT (Hd.mk op a 0 0).op=true by simp [hfa])]
  exact Nat.two_pow_pos _
theorem zl0 {op:Int} (ho:op=1∨op=2∨op=4∨op=5∨op=6∨op=7∨op=8) {p:PM} : zdb ⟨op,0,0,0⟩∧ze7 ⟨op,0,0,0⟩∧zen p ⟨op,0,0,0⟩:=by
 have hag:zD op=false:=decide_eq_false (by omega)
 have hfa:zT op=false:=decide_eq_false (by omega)
 have hev:zL op=false:=decide_eq_false (by omega)
 have hgr:zE op=false:=decide_eq_false (by omega)
 refine ⟨⟨decide_eq_true (by simp only;omega),fun e=>?_,fun e=>?_,fun e=>?_,fun e=>?_,fun _ _ _=>rfl,fun _=>rfl,fun _=>rfl⟩,zsb ?_,?_,?_⟩
 ·simp [hfa] at e
 ·simp [hag] at e
 ·simp [hev] at e
 ·simp [hgr] at e
 ·rcases ho with rfl|rfl|rfl|rfl|rfl|rfl|rfl<;>decide
 ·rw [za8,if_neg (show ¬zD (Hd.mk op 0 0 0).op=true by simp [hag])]
  exact Nat.two_pow_pos _
 ·rw [zb2,if_neg (show ¬zT (Hd.mk op 0 0 0).op=true by simp [hfa])]
  exact Nat.two_pow_pos _
theorem ztl {p:PM} : OkT p (z8 ⟨1,0,0,0,0,0⟩ []) (.z ⟨1,0,0,0⟩)∧(z8 ⟨1,0,0,0,0,0⟩ []).length≤1:=by
 obtain ⟨h1,h2,h3⟩:=zl0 (op:=1) (p:=p) (by decide)
 obtain ⟨a,b⟩:=zu3 h1 (by decide) (by decide)
 exact ⟨⟨a,h2,h3⟩,b⟩
end Go.Ab
namespace Go.Ab
open Go
structure Fm (p:PM) (f:List Nd) (x:BitVec 64) (n:Nat):Prop where
 ok : ∃ t,OkT p f t∧ev (zaD p) 0#64 t=x
 len:f.length≤n
theorem Fm.holds {p:PM} {f:List Nd} {x:BitVec 64} {n:Nat} (h:Fm p f x n) (hc0:zy p=0):zS p f=(x,0):=by
 obtain ⟨t,h1,h2⟩:=h.ok
 rw [h1.holds hc0,h2]
theorem Fm.of {p:PM} {f:List Nd} {n:Nat} (h:(zS p f).2=0) (hl:f.length≤n):Fm p f (zS p f).1 n:=by
 obtain ⟨t,h1,h2⟩:=zAJ h
 exact ⟨⟨t,h1,h2.symm⟩,hl⟩
theorem Fm.un {p:PM} {f:List Nd} {x:BitVec 64} {n:Nat} (h:Fm p f x n) {hd:Hd} (hh:zdb hd∧ze7 hd∧zen p hd) (hx:z7 hd.op=true) (hy:zQ hd.op=false) (hn:n≤199) :
  Fm p (z8 ⟨hd.op,hd.i,hd.e,hd.g,0,0⟩ [f]) (zaD p hd x 0#64) (n+1):=by
 obtain ⟨t,h1,h2⟩:=h.ok
 have h3:=h.len
 exact ⟨⟨_,h1.unary hh.1 hx hy hh.2.1 hh.2.2 (by omega),by rw [ev,h2]⟩,by have:=(zkP hh.1 hx hy h1.isF (by omega)).2;omega⟩
theorem Fm.bi {p:PM} {f g:List Nd} {x y:BitVec 64} {n m:Nat} (h:Fm p f x n) (h':Fm p g y m) {hd:Hd} (hh:zdb hd∧ze7 hd∧zen p hd) (hy:zQ hd.op=true) (hn:n+m≤199) :
  Fm p (z8 ⟨hd.op,hd.i,hd.e,hd.g,0,0⟩ [f,g]) (zaD p hd x y) (n+m+1):=by
 obtain ⟨t,h1,h2⟩:=h.ok
 obtain ⟨u,g1,g2⟩:=h'.ok
 have h3:=h.len
 have g3:=h'.len
 exact ⟨⟨_,h1.binary g1 hh.1 hy hh.2.1 hh.2.2 (by omega),by rw [ev,h2,g2]⟩,by have:=(zqG hh.1 hy h1.isF g1.isF (by omega)).2;omega⟩
section
variable {p:PM} (hc0:zy p=0) {f g:List Nd} {x y:BitVec 64} {n m:Nat}
include hc0
theorem Fm.poss {a:Nat} (h:Fm p f x n) (ha:a < p.cell.length) (hn:n≤199):Fm p (z8 ⟨10,a,0,0,0,0⟩ [f]) (zU p.W &&& ~~~zfn p a (zU p.W &&& ~~~x)) (n+1) :=
 h.un (hd:=⟨10,a,0,0⟩) (zjG (by decide) (zA hc0) ha) (by simp only;decide) (by simp only;decide) hn
theorem Fm.safe {a:Nat} (h:Fm p f x n) (ha:a < p.cell.length) (hn:n≤199):Fm p (z8 ⟨15,a,0,0,0,0⟩ [f]) (zfK p a x) (n+1) :=
 h.un (hd:=⟨15,a,0,0⟩) (zjG (by decide) (zA hc0) ha) (by simp only;decide) (by simp only;decide) hn
theorem Fm.belief {a:Nat} (h:Fm p f x n) (h':Fm p g y m) (ha:a < p.cell.length) (hn:n+m≤199):Fm p (z8 ⟨14,a,0,0,0,0⟩ [f,g]) (zaT p a x y) (n+m+1) :=
 h.bi h' (hd:=⟨14,a,0,0⟩) (zjG (by decide) (zA hc0) ha) (by simp only;decide) hn
omit hc0 in
theorem Fm.not (h:Fm p f x n) (hn:n≤199):Fm p (z8 ⟨4,0,0,0,0,0⟩ [f]) (zU p.W &&& ~~~x) (n+1) :=
 h.un (hd:=⟨4,0,0,0⟩) (zl0 (by decide)) (by decide) (by decide) hn
omit hc0 in
theorem Fm.and (h:Fm p f x n) (h':Fm p g y m) (hn:n+m≤199):Fm p (z8 ⟨5,0,0,0,0,0⟩ [f,g]) (x&&&y) (n+m+1) :=
 h.bi h' (hd:=⟨5,0,0,0⟩) (zl0 (by decide)) (by decide) hn
omit hc0 in
theorem Fm.imp (h:Fm p f x n) (h':Fm p g y m) (hn:n+m≤199):Fm p (z8 ⟨7,0,0,0,0,0⟩ [f,g]) (zU p.W &&& ~~~x|||y) (n+m+1) :=
 h.bi h' (hd:=⟨7,0,0,0⟩) (zl0 (by decide)) (by decide) hn
omit hc0 in
theorem Fm.tru:Fm p (z8 ⟨1,0,0,0,0,0⟩ []) (zU p.W) 1 :=
 ⟨⟨_,(ztl (p:=p)).1,rfl⟩,(ztl (p:=p)).2⟩
end
section
variable {p:PM} (hc0:zy p=0) {a:Nat} (ha:a < p.cell.length)
include hc0 ha
omit hc0 ha in
theorem InC.same {w v u:Nat} (h:InC p a w v):InC p a w u↔InC p a v u:=by
 unfold InC at *
 exact and_congr_right fun _=>⟨fun e=>e.trans h.2.symm,fun e=>e.trans h.2⟩
end
end Go.Ab
namespace Go.Ab
open Go
section
variable {p:PM} (hc0:zy p=0) {a:Nat} (ha:a < p.cell.length)
include hc0 ha
omit hc0 ha in
theorem zg1 {x y:BitVec 64} {i:Nat} : (x&&&y).getLsbD i=true↔x.getLsbD i=true∧y.getLsbD i=true:=by
 rw [BitVec.getLsbD_and,Bool.and_eq_true]
omit hc0 ha in
theorem zqg {x y:BitVec 64} {i:Nat} : (x &&& ~~~y).getLsbD i=true↔x.getLsbD i=true ∧ ¬y.getLsbD i=true:=by
 rw [BitVec.getLsbD_and,BitVec.getLsbD_not,Bool.and_eq_true]
 constructor
 ·rintro ⟨h1,h2⟩
  refine ⟨h1,fun h=>?_⟩
  rw [h] at h2;simp at h2
 ·rintro ⟨h1,h2⟩
  have:i < 64:=BitVec.lt_of_getLsbD h1
  refine ⟨h1,?_⟩
  rw [decide_eq_true this,Bool.true_and]
  cases hy:y.getLsbD i with
  | true=>exact absurd hy h2
  | false=>rfl
end
end Go.Ab
namespace Go.Ab
open Go
theorem zAI {α:Type} : ∀ {l l':List α},l.Nodup→(∀ x∈l,x∈l')→l.length≤l'.length:=by
 intro l l' h1 h2
 haveI:DecidableEq α:=fun a b=>Classical.propDecidable _
 exact List.Nodup.length_le_of_subset h1 h2
end Go.Ab
namespace Go.Ab
def clA (p:PM) (a w:Nat):Int:=at0 (ze p.cell a) w
def zbj (p:PM) (fs:Nat→Nat→BitVec 64) (a w:Nat):Int:=if (fs a w).getLsbD w=true then rkA p a w else p.W+rkA p a w
def upR (p:PM) (fs:Nat→Nat→BitVec 64) (a:Nat):List Int:=(List.range p.W.toNat).map fun w=>(zaV p.W.toNat (2 * p.W.toNat) (clA p a) (zbj p fs a) w:Int)
def upL (p:PM) (fs:Nat→Nat→BitVec 64):PM:=⟨p.W,p.val,p.cell,(List.range p.cell.length).map (upR p fs)⟩
theorem zkM {n:Nat} {f:Nat→Int} {w:Nat} (hw:w < n):at0 ((List.range n).map f) w=f w:=zah (by simp [hw])
section
variable {p:PM} (hc0:zy p=0) {fs:Nat→Nat→BitVec 64} {a:Nat} (ha:a < p.cell.length)
include hc0 ha
theorem zyI {w:Nat} : ∀ k:Nat,w < p.W.toNat→(k:Int)≤rkA p a w → ∃ v,v < p.W.toNat∧rkA p a v=k:=by
 have hg:=zA hc0
 have hl:=hg.lens a ha
 suffices H : ∀ (n:Nat) (w:Nat) (k:Nat),w < p.W.toNat→rkA p a w=k+n → ∃ v,v < p.W.toNat∧rkA p a v=k from fun k hw h=>H (rkA p a w - k).toNat w k hw (by omega)
 intro n
 induction n with
 | zero=>intro w k hw h;exact ⟨w,hw,by omega⟩
 | succ n ih =>
  intro w k hw h
  rcases (hg.ranked a ha w (by omega)).2 with h0|⟨v,hv,-,hr⟩
  ·unfold rkA at h;omega
  ·refine ih v k (by omega) ?_
   unfold rkA at h ⊢;omega
theorem zib {w:Nat} (hw:w < p.W.toNat):0≤rkA p a w∧rkA p a w < p.W:=by
 have hg:=zA hc0
 have hl:=hg.lens a ha
 have h0:0≤rkA p a w:=(hg.ranked a ha w (by omega)).1
 refine ⟨h0,?_⟩
 have hn:=zAI (l:=(List.range ((rkA p a w).toNat+1)).map fun k:Nat=>(k:Int)) (l':=(List.range p.W.toNat).map (rkA p a)) (by
  refine List.Pairwise.map _ (fun x y h=>?_) List.nodup_range
  omega) (fun x hx=>by
  obtain ⟨k,hk,rfl⟩:=List.mem_map.1 hx
  rw [List.mem_range] at hk
  obtain ⟨v,hv,e⟩:=zyI hc0 ha k hw (by omega)
  exact List.mem_map.2 ⟨v,List.mem_range.2 hv,e⟩)
 simp at hn
 omega
theorem zj5 : ∀ v,v < p.W.toNat→0≤zbj p fs a v∧zbj p fs a v < ((2 * p.W.toNat:Nat):Int):=by
 intro v hv
 have:=zib hc0 ha hv
 unfold zbj
 split<;>omega
theorem ztH:ze (upL p fs).rank a=upR p fs a:=zbZ (by simp [upL,ha])
theorem zzp {w:Nat} (hw:w < p.W.toNat):rkA (upL p fs) a w=zaV p.W.toNat (2 * p.W.toNat) (clA p a) (zbj p fs a) w:=by
 unfold rkA
 rw [ztH hc0 ha]
 exact zkM hw
theorem zvY {u v w:Nat} (hu:InC p a w u) (hv:InC p a w v):rkA (upL p fs) a u≤rkA (upL p fs) a v↔zbj p fs a u≤zbj p fs a v:=by
 rw [zzp hc0 ha hu.1,zzp hc0 ha hv.1,Int.ofNat_le]
 exact zx2 (hu.2.trans hv.2.symm) hu.1 hv.1 (zj5 hc0 ha)
end
theorem ztG {p:PM} (hc0:zy p=0) (fs:Nat→Nat→BitVec 64):zy (upL p fs)=0:=by
 have hg:=zA hc0
 have h1:=hg.w1
 have h2:=hg.w2
 have hs:zbC p.W p.cell.length p.val=0:=by
  refine Classical.byContradiction fun h=>?_
  have e:zy p=zbC p.W p.cell.length p.val:=by unfold zy;rw [if_pos h]
  omega
 refine zsu hs (by simp [upL]) (fun a ha=>?_) hg.cells fun a ha=>?_
 ·have ha:a < p.cell.length:=ha
  rw [ztH hc0 ha]
  exact ⟨(hg.lens a ha).1,by simp [upR];show _=p.W;omega⟩
 ·have ha:a < p.cell.length:=ha
  have hl:=(hg.lens a ha).1
  rw [ztH hc0 ha]
  show zob (ze p.cell a) (upR p fs a)
  intro w hw
  have hw':w < p.W.toNat:=by omega
  unfold upR
  rw [zkM hw']
  refine ⟨by omega,?_⟩
  by_cases h0:zaV p.W.toNat (2 * p.W.toNat) (clA p a) (zbj p fs a) w=0
  ·left;omega
  ·right
   obtain ⟨v,hv,e1,e2⟩:=zvc hw' h0 (zj5 hc0 ha)
   exact ⟨v,by omega,e1,by rw [zkM hv];omega⟩
section
variable {p:PM} (hc0:zy p=0) {fs:Nat→Nat→BitVec 64} {a:Nat} (ha:a < p.cell.length)
include hc0 ha
theorem zAh {c s:BitVec 64} {w:Nat} : (zaT (upL p fs) a c s).getLsbD w=true↔w < p.W.toNat ∧ ∀ v,InC p a w v→c.getLsbD v=true→(∀ u,InC p a w u→c.getLsbD u=true→zbj p fs a v≤zbj p fs a u)→s.getLsbD v=true:=by
 rw [zfa (ztG hc0 fs) (show a < (upL p fs).cell.length from ha)]
 refine and_congr_right fun hw=>forall_congr' fun v=>⟨fun h h1 h2 h3=>?_,fun h h1 h2 h3=>?_⟩
 ·exact h h1 h2 fun u hu hu'=>(zvY hc0 ha h1 hu).2 (h3 u hu hu')
 ·exact h h1 h2 fun u hu hu'=>(zvY hc0 ha h1 hu).1 (h3 u hu hu')
open Classical in
theorem zzW {F G H:BitVec 64} {w:Nat} : (zaT (upL p fun _ _=>F) a G H).getLsbD w=true↔if ∃ v,InC p a w v∧(F&&&G).getLsbD v=true then (zaT p a (F&&&G) H).getLsbD w=true else (zaT p a G H).getLsbD w=true:=by
 have rk:=fun v (hv:InC p a w v)=>zib hc0 ha hv.1
 rw [zAh hc0 ha]
 split
 ·rename_i hex
  obtain ⟨x,hx,hx'⟩:=hex
  rw [zg1] at hx'
  rw [zfa hc0 ha]
  refine and_congr_right fun hw=>forall_congr' fun v=>⟨fun h h1 h2 h3=>?_,fun h h1 h2 h3=>?_⟩
  ·rw [zg1] at h2
   refine h h1 h2.2 fun u hu hu'=>?_
   have a1:=rk u hu
   have a2:=rk v h1
   unfold zbj
   rw [if_pos h2.1]
   split
   ·rename_i hF;exact h3 u hu (zg1.2 ⟨hF,hu'⟩)
   ·omega
  ·have hF:F.getLsbD v=true:=by
    refine Classical.byContradiction fun hn=>?_
    have:=h3 x hx hx'.2
    have a1:=rk x hx
    have a2:=rk v h1
    unfold zbj at this
    rw [if_neg hn,if_pos hx'.1] at this
    omega
   refine h h1 (zg1.2 ⟨hF,h2⟩) fun u hu hu'=>?_
   rw [zg1] at hu'
   have:=h3 u hu hu'.2
   unfold zbj at this
   rwa [if_pos hF,if_pos hu'.1] at this
 ·rename_i hex
  have hno : ∀ v,InC p a w v→G.getLsbD v=true → ¬F.getLsbD v=true:=fun v hv hG hF=>hex ⟨v,hv,zg1.2 ⟨hF,hG⟩⟩
  rw [zfa hc0 ha]
  refine and_congr_right fun hw=>forall_congr' fun v=>⟨fun h h1 h2 h3=>h h1 h2 fun u hu hu'=>?_,fun h h1 h2 h3=>h h1 h2 fun u hu hu'=>?_⟩
  ·have:=h3 u hu hu'
   unfold zbj
   rw [if_neg (hno v h1 h2),if_neg (hno u hu hu')]
   omega
  ·have:=h3 u hu hu'
   unfold zbj at this
   rw [if_neg (hno v h1 h2),if_neg (hno u hu hu')] at this
   omega
end
end Go.Ab
namespace Go.Ab
open Go
def Prp (h:Hd):Prop:=1≤h.op∧h.op≤8
theorem zn3 {m:Hd→Nat} {c:List Nd} (h:uni m c=0) {n:Nd} (hn:n∈c):m n.hd=0:=by
 refine Nat.eq_of_testBit_eq fun i=>?_
 rw [Nat.zero_testBit]
 refine Bool.eq_false_iff.2 fun hi=>?_
 have:(uni m c).testBit i=true:=by rw [zjw];exact List.any_eq_true.2 ⟨n,hn,hi⟩
 rw [h,Nat.zero_testBit] at this;cases this
theorem zzV {h:Hd} (hh:zdb h) (h0:zap h=0):Prp h:=by
 have ho:1≤h.op∧h.op≤21:=of_decide_eq_true hh.op
 have e:zbb h.op=0:=by rw [← zoQ,h0];rfl
 refine ⟨ho.1,Classical.byContradiction fun hn=>?_⟩
 have:h.op=9∨h.op=10∨h.op=11∨h.op=12∨h.op=13∨h.op=14∨h.op=15∨h.op=16∨h.op=17∨h.op=18∨h.op=19∨h.op=20∨h.op=21:=by omega
 rcases this with e'|e'|e'|e'|e'|e'|e'|e'|e'|e'|e'|e'|e'<;>rw [e'] at e<;>exact absurd e (by decide)
theorem zBB {p:PM} (hg:zr8 p) {f:List Nd} (h1:uni zap (cL f)=0) (h2:zcy f 0 p.val.length=true) : ∃ t,OkT p f t∧t.all Prp:=by
 have h8:=hg.v8
 simp only [zcy,zdO,Bool.and_eq_true,decide_eq_true_eq,Int.toNat_natCast] at h2
 obtain ⟨⟨h0,hA⟩,hF⟩:=h2
 have hA:uni za8 (cL f)=0:=by
  have:=hA.resolve_left (by omega)
  simpa using this
 have hF:=hF.resolve_left (by omega)
 have hf:=zwJ h0
 have hc:=hf.canon.1
 refine ⟨_,⟨hf,?_,?_⟩,?_⟩
 ·rw [← hc.all]
  intro n hn i hi
  rw [zn3 h1 hn,Nat.zero_testBit] at hi;cases hi
 ·rw [← hc.all]
  intro n hn
  exact ⟨by rw [zn3 hA hn];exact Nat.two_pow_pos _,(zd3 zb2).1 hF n hn⟩
 ·rw [← hc.all]
  intro n hn
  exact zzV (zhS hn) (zn3 h1 hn)
theorem zn5 {p q:PM} (hW:q.W=p.W) (hv:q.val=p.val) {h:Hd} (hp:Prp h) (x y:BitVec 64):zaD q h x y=zaD p h x y:=by
 obtain ⟨a,b⟩:=hp
 have:h.op=1∨h.op=2∨h.op=3∨h.op=4∨h.op=5∨h.op=6∨h.op=7∨h.op=8:=by omega
 unfold zaD
 rw [hW,hv]
 rcases this with e|e|e|e|e|e|e|e<;>simp only [e]<;>rfl
theorem zpS {p q:PM} (hW:q.W=p.W) (hv:q.val=p.val) : ∀ {t:Tm},t.all Prp→ev (zaD q) 0#64 t=ev (zaD p) 0#64 t
 | .z h,ht=>zn5 hW hv ht _ _
 | .u h x,ht=>by rw [ev,ev,zpS hW hv ht.2,zn5 hW hv ht.1]
 | .b h x y,ht=>by rw [ev,ev,zpS hW hv ht.2.1,zpS hW hv ht.2.2,zn5 hW hv ht.1]
theorem zBx {p q:PM} (hc:q.cell.length=p.cell.length) (hv:q.val.length=p.val.length) {f:List Nd} {t:Tm} (h:OkT p f t):OkT q f t:=by
 refine ⟨h.isF,h.lang,?_⟩
 have e:zen q=zen p:=by funext x;unfold zen;rw [hc,hv]
 rw [e];exact h.fit
end Go.Ab
namespace Go.Ab
open Go
section
variable {p:PM} (hc0:zy p=0) {a:Nat} (ha:a < p.cell.length)
include hc0 ha
abbrev zzi (p:PM) (a:Nat) (s:BitVec 64):BitVec 64:=zU p.W &&& ~~~zfn p a (zU p.W &&& ~~~s)
theorem zyC {s:BitVec 64} {w:Nat} : (zzi p a s).getLsbD w=true↔w < p.W.toNat ∧ ∃ v,InC p a w v∧s.getLsbD v=true:=by
 rw [zqg,zdv hc0,zq5 hc0 ha]
 constructor
 ·rintro ⟨h1,h2⟩
  refine ⟨h1,Classical.byContradiction fun hn=>h2 ⟨h1,fun v hv=>zqg.2 ⟨(zdv hc0).2 hv.1,fun hs=>hn ⟨v,hv,hs⟩⟩⟩⟩
 ·rintro ⟨h1,v,h2,h3⟩
  exact ⟨h1,fun h=>(zqg.1 (h.2 v h2)).2 h3⟩
end
end Go.Ab
namespace Go.Ab
open Go
theorem zqL {p p':Nat→Bool} (hi : ∀ w,p w=true→p' w=true) : ∀ l:List Nat,(l.filter p).length≤(l.filter p').length∧((∃ w∈l,p w=false∧p' w=true)→(l.filter p).length < (l.filter p').length)
 | []=>⟨Nat.le_refl _,fun ⟨w,h,_⟩=>by cases h⟩
 | x::l=>by
  obtain ⟨h1,h2⟩:=zqL hi l
  cases hp:p x with
  | true =>
   rw [List.filter_cons_of_pos hp,List.filter_cons_of_pos (hi x hp)]
   refine ⟨by simpa using h1,fun ⟨w,hw,h3,h4⟩=>?_⟩
   rcases List.mem_cons.1 hw with rfl|hw
   ·rw [hp] at h3;cases h3
   ·have:=h2 ⟨w,hw,h3,h4⟩;simpa using this
  | false =>
   rw [List.filter_cons_of_neg (by simp [hp])]
   cases hp':p' x with
   | true =>
    rw [List.filter_cons_of_pos hp',List.length_cons]
    exact ⟨by omega,fun _=>by omega⟩
   | false =>
    rw [List.filter_cons_of_neg (by simp [hp'])]
    refine ⟨h1,fun ⟨w,hw,h3,h4⟩=>?_⟩
    rcases List.mem_cons.1 hw with rfl|hw
    ·rw [hp'] at h4;cases h4
    ·exact h2 ⟨w,hw,h3,h4⟩
end Go.Ab
namespace Go.Ab
open Go Go.Proofs
set_option maxRecDepth 10000
set_option maxHeartbeats 4000000
variable {T:Nat→Obj→Prop}
def zac (m:KM):Int :=
 if m.W < 1∨64 < m.W then 2 else if 4 < m.rel.length∨8 < m.val.length then 8 else if m.rel.any (fun r=>decide ((r.length:Int)≠m.W)) then 3 else if m.val.any (bad m.W) then 2 else if m.rel.any (fun r=>r.any (bad m.W)) then 2 else 0
structure zeH (m:KM):Prop where
 w1:1≤m.W
 w2:m.W≤64
 n4:m.rel.length≤4
 v8:m.val.length≤8
 len : ∀ r∈m.rel,(r.length:Int)=m.W
 val : ∀ s∈m.val,bad m.W s=false
 rel : ∀ r∈m.rel,∀ s∈r,bad m.W s=false
theorem zfX {m:KM} (h:zac m=0):zeH m:=by
 unfold zac at h
 split at h
 ·cases h
 ·split at h
  ·cases h
  ·split at h
   ·cases h
   ·split at h
    ·cases h
    ·split at h
     ·cases h
     ·rename_i h1 h2 h3 h4 h5
      refine ⟨by omega,by omega,by omega,by omega,fun r hr=>?_,fun s hs=>?_,fun r hr s hs=>?_⟩
      ·simp only [List.any_eq_true,not_exists,not_and] at h3;simpa using h3 r hr
      ·simp only [List.any_eq_true,not_exists,not_and] at h4;simpa using h4 s hs
      ·simp only [List.any_eq_true,not_exists,not_and] at h5;simpa using h5 r hr s hs
end Go.Ab
namespace Go.Ab
structure Ren (n:Nat) (f:Nat→Nat):Prop where
 lt : ∀ w,w < n→f w < n
 inj : ∀ v w,v < n→w < n→f v=f w→v=w
abbrev zuU:=List (Nat→Nat→Bool)
end Go.Ab
namespace Go.Ab
theorem zid {n:Nat} (hn:n≤64) {f:Nat→Bool} {w:Nat} : (zP f n).getLsbD w=true↔w < n∧f w=true:=by
 rw [zgn];simp only [Bool.and_eq_true,decide_eq_true_eq]
 exact ⟨fun h=>⟨h.1.2,h.2⟩,fun h=>⟨⟨by omega,h.1⟩,h.2⟩⟩
def zcN (m:KM):zuU:=m.rel.map fun r=>fun v w=>rb r v w
theorem zps {n:Int} {s:BitVec 64} (h:0≤n):bad n s=false ↔ ∀ i,s.getLsbD i=true→i < n.toNat:=by
 rw [zkN h]
 exact ⟨fun k i hi=>by have:=k i hi;omega,fun k i hi=>by have:=k i hi;omega⟩
theorem zvt {m:KM} (h:zeH m):zac m=0:=by
 obtain ⟨h1,h2,h3,h4,h5,h6,h7⟩:=h
 unfold zac
 rw [if_neg (by omega),if_neg (by omega),if_neg,if_neg,if_neg]
 ·simp only [List.any_eq_true,not_exists,not_and]
  intro r hr s hs e
  rw [h7 r hr s hs] at e;cases e
 ·simp only [List.any_eq_true,not_exists,not_and]
  intro s hs e
  rw [h6 s hs] at e;cases e
 ·simp only [List.any_eq_true,not_exists,not_and,decide_eq_true_eq]
  intro r hr e
  exact e (h5 r hr)
theorem zyE (m:KM):(zcN m).length=m.rel.length:=by simp [zcN]
end Go.Ab
namespace Go.Ab
open Go Go.Proofs
set_option maxRecDepth 10000
set_option maxHeartbeats 4000000
variable {T:Nat→Obj→Prop}
theorem zzH (n:Int) (h:0≤n):Fn Tryz.prog T zmI [.d (.int .i64 n)] [] (.d (.u64 (zU n))) []:=by
 refine zb zn zub (by show 1≤8;decide) ?_
 (repeat' ((conv=>whnf);first|refine vA ?_|(refine vF ?_ ?_<;>intro hc<;>try simp only [vL] at hc)|refine vT ?_|(refine vP ?_ ?_;·omega)|refine vY ?_));all_goals try conv=>whnf
 ·simp [zU, *]
 ·rw [zU,if_neg (by omega)];rfl
theorem zzD (l:List (BitVec 64)) (g:Nat) (y:D) (p:BitVec 64→Bool) (hF : ∀ x,Fn Tryz.prog T g [.d (.u64 x),.d y] [] (.d (.bool (p x))) []):Fn Tryz.prog T zb0 [.d (dU l),.d (.fn g [y])] [] (.d (.int .i64 (zgS p l))) []:=by
 refine zb zn zev (by show 2≤19;decide) ?_
 (repeat' ((conv=>whnf);first|refine vA ?_|refine vJ fun hg=>?_|refine vT ?_));all_goals try conv=>whnf
 refine zaN (fun (k:Nat)=>[(0,.d (dU l)),(1,.d (.fn g [y])),(7,.d (.int .i64 ((l.map D.u64).length:Int))),(8,.d (.int .i64 ((k:Int))))]) (fun (k:Nat)=>k≤l.length ∧ ∀ (i:Nat) x,i < k→l[i]? = some x→p x=false) (fun (k:Nat)=>l.length - k) (0) (⟨by simp,fun i x h=>by omega⟩) (by (repeat' first|exact trivial|exact rfl|refine And.intro ?_ ?_)) ?_
 rintro k ⟨hk,hI⟩
 (repeat' ((conv=>whnf);first|refine vA ?_|((first|refine vF ?_ ?_|refine vI ?_ ?_)<;>intro hc<;>try simp only [vL] at hc)|refine vT ?_|(refine vQ ?_ fun x hx=>?_;·omega)|(refine vO ?_ ?_;·omega)|refine vX ?_|refine yD (hF _) (by (repeat refine ⟨⟨rfl,rfl⟩,?_⟩);rfl) rfl ?_));all_goals try conv=>whnf
 ·rw [zqP hx ‹_› hI]
 ·exact ⟨k+1,[],[],⟨by (omega),fun i z hi hz=>by
   by_cases e:i=k
   ·subst e;rw [hx] at hz;cases hz;assumption
   ·exact hI i z (by omega) hz⟩,by (omega),by (refine ⟨rfl,rfl,rfl,?_,?_⟩;repeat' first|exact trivial|exact rfl|refine And.intro ?_ ?_)⟩
 ·rw [zoJ fun i x hi hx=>hI i x (by omega) hx]
theorem zx5 (l:List (List (BitVec 64))) (g:Nat) (y:D) (p:List (BitVec 64)→Bool) (hF : ∀ x,Fn Tryz.prog T g [.d (dU x),.d y] [] (.d (.bool (p x))) []):Fn Tryz.prog T zbK [.d (dUU l),.d (.fn g [y])] [] (.d (.int .i64 (zgS p l))) []:=by
 refine zb zn zdY (by show 2≤19;decide) ?_
 (repeat' ((conv=>whnf);first|refine vA ?_|refine vJ fun hg=>?_|refine vT ?_));all_goals try conv=>whnf
 refine zaN (fun (k:Nat)=>[(0,.d (dUU l)),(1,.d (.fn g [y])),(7,.d (.int .i64 ((l.map dU).length:Int))),(8,.d (.int .i64 ((k:Int))))]) (fun (k:Nat)=>k≤l.length ∧ ∀ (i:Nat) x,i < k→l[i]? = some x→p x=false) (fun (k:Nat)=>l.length - k) (0) (⟨by simp,fun i x h=>by omega⟩) (by (repeat' first|exact trivial|exact rfl|refine And.intro ?_ ?_)) ?_
 rintro k ⟨hk,hI⟩
 (repeat' ((conv=>whnf);first|refine vA ?_|((first|refine vF ?_ ?_|refine vI ?_ ?_)<;>intro hc<;>try simp only [vL] at hc)|refine vT ?_|(refine vQ ?_ fun x hx=>?_;·omega)|(refine vO ?_ ?_;·omega)|refine vX ?_|refine yD (hF _) (by (repeat refine ⟨⟨rfl,rfl⟩,?_⟩);rfl) rfl ?_));all_goals try conv=>whnf
 ·rw [zqP hx ‹_› hI]
 ·exact ⟨k+1,[],[],⟨by (omega),fun i z hi hz=>by
   by_cases e:i=k
   ·subst e;rw [hx] at hz;cases hz;assumption
   ·exact hI i z (by omega) hz⟩,by (omega),by (refine ⟨rfl,rfl,rfl,?_,?_⟩;repeat' first|exact trivial|exact rfl|refine And.intro ?_ ?_)⟩
 ·rw [zoJ fun i x hi hx=>hI i x (by omega) hx]
theorem zqO {α:Type} {p:α→Bool} {l:List α} : decide (0≤zgS p l)=l.any p:=by
 rw [Bool.eq_iff_iff,decide_eq_true_eq,zsM,List.any_eq_true]
theorem zt6 (n:Int) (h:0≤n) (s:BitVec 64):Fn Tryz.prog T zcS [.d (.u64 s),.d (.box [.int .i64 n])] [] (.d (.bool (bad n s))) []:=by
 refine zb zn zmA (by show 2≤9;decide) ?_
 (repeat' ((conv=>whnf);first|refine vT ?_|refine vZ ?_|refine yD (zzH n h) ⟨⟨rfl,rfl⟩,rfl⟩ rfl ?_));all_goals try conv=>whnf
 rfl
theorem zmN (l:List (BitVec 64)) (n:Int) (h:0≤n):Fn Tryz.prog T zh0 [.d (dU l),.d (.int .i64 n)] [] (.d (.bool (l.any (bad n)))) []:=by
 have c1:Fn Tryz.prog T zbF [.d (dU l),.d (.fn zcS [.box [.int .i64 n]])] [] (.d (.bool (l.any (bad n)))) []:=by
  refine zb zn zdL (by show 2≤9;decide) ?_
  (repeat' ((conv=>whnf);first|refine vT ?_|refine vZ ?_|refine yD (zzD l _ _ (bad n) (zt6 n h)) ⟨⟨rfl,rfl⟩,⟨rfl,rfl⟩,rfl⟩ rfl ?_));all_goals try conv=>whnf
  exact zqO
 refine zb zn zo4 (by show 2≤8;decide) ?_
 (repeat' ((conv=>whnf);first|refine vT ?_|refine vZ ?_|refine yD c1 (by (repeat refine ⟨⟨rfl,rfl⟩,?_⟩);rfl) rfl ?_));all_goals try conv=>whnf
abbrev bKM (m:KM):D := .box [.int .i64 m.W,dU m.val,dUU m.rel]
theorem zqV (m:KM):Fn Tryz.prog T zko [.d (dKM m)] [] (.d (.int .i64 (zac m))) []:=by
 have c1:0≤m.W → ∀ x:List (BitVec 64),Fn Tryz.prog T zdI [.d (dU x),.d (bKM m)] [] (.d (.bool (x.any (bad m.W)))) []:=fun h x=>by
  refine zb zn zo2 (by show 2≤8;decide) ?_
  (repeat' ((conv=>whnf);first|refine vT ?_|refine vZ ?_|refine yD (zmN x m.W h) ⟨⟨rfl,rfl⟩,⟨rfl,rfl⟩,rfl⟩ rfl ?_));all_goals try conv=>whnf
 have c2:0≤m.W→Fn Tryz.prog T zbx [.d (dUU m.rel),.d (.fn zdI [bKM m])] [] (.d (.bool (m.rel.any fun x=>x.any (bad m.W)))) []:=fun h=>by
  refine zb zn zdt (by show 2≤9;decide) ?_
  (repeat' ((conv=>whnf);first|refine vT ?_|refine vZ ?_|refine yD (zx5 m.rel _ _ (fun x=>x.any (bad m.W)) (c1 h)) ⟨⟨rfl,rfl⟩,⟨rfl,rfl⟩,rfl⟩ rfl ?_));all_goals try conv=>whnf
  exact zqO
 refine zb zn zrJ (by show 1≤47;decide) ?_
 (repeat' ((conv=>whnf);first|refine vA ?_|(refine vF ?_ ?_<;>intro hc<;>try simp only [vL] at hc)|refine vJ fun hg=>?_|refine vT ?_|refine vX ?_));all_goals try conv=>whnf
 ·rw [zac,if_pos (by omega)]
 ·rw [zac,if_pos (by omega)]
 ·rw [zac,if_neg (by omega),if_pos (by omega)]
 ·rw [zac,if_neg (by omega),if_pos (by omega)]
 ·have e0:zac m=if m.rel.any (fun r=>decide ((r.length:Int)≠m.W)) then 3 else if m.val.any (bad m.W) then 2 else if m.rel.any (fun r=>r.any (bad m.W)) then 2 else 0:=by rw [zac,if_neg (by omega),if_neg (by omega)]
  refine zt (fun (k:Nat)=>[(1,.ptr 0 0),(24,.d (dUU m.rel)),(25,.d (.int .i64 ((m.rel.map dU).length:Int))),(26,.d (.int .i64 ((k:Int))))]) (fun (k:Nat)=>[(0,some (zzc m))]) 1 (fun (k:Nat)=>k≤m.rel.length∧m.rel.any (fun r=>decide ((r.length:Int)≠m.W))=(m.rel.drop k).any (fun r=>decide ((r.length:Int)≠m.W))) (fun (k:Nat)=>m.rel.length - k) (0) [(0,0)] [] (⟨by simp,rfl⟩) (by (refine ⟨rfl,rfl,rfl,?_,?_⟩;repeat' first|exact trivial|exact rfl|refine And.intro ?_ ?_|refine ⟨_,rfl,?_⟩|decide)) ?_
  rintro k ⟨hk,hI⟩
  (repeat' ((conv=>whnf);first|refine vA ?_|((first|refine vD ?_ ?_|refine vF ?_ ?_)<;>intro hc<;>try simp only [vL] at hc)|refine vJ fun hg=>?_|refine vT ?_|(refine vQ ?_ fun x hx=>?_;·omega)|(refine vO ?_ ?_;·omega)|refine vX ?_));all_goals try conv=>whnf
  ·rw [e0,if_pos (by rw [hI,zbw hx,List.any_cons,decide_eq_true (by simpa using ‹_›)];rfl)]
  ·exact ⟨k+1,[(0,0)],[],⟨by (omega),by rw [hI,zbw hx,List.any_cons,decide_eq_false (by simpa using ‹_›)];rfl⟩,by (omega),by (refine ⟨rfl,rfl,rfl,?_,?_⟩;repeat' first|exact trivial|exact rfl|refine And.intro ?_ ?_|refine ⟨_,rfl,?_⟩|decide)⟩
  ·have h1:m.rel.any (fun r=>decide ((r.length:Int)≠m.W))=false:=by rw [hI,List.drop_eq_nil_of_le (by omega)];rfl
   rw [h1,if_neg (by decide)] at e0
   have co:=zmN (T:=T) m.val m.W (by omega)
   have c2:=c2 (by omega)
   (repeat' ((conv=>whnf);first|(refine vI ?_ ?_<;>intro hc)|refine vT ?_|refine vX ?_|refine yD co ⟨⟨rfl,rfl⟩,⟨rfl,rfl⟩,rfl⟩ rfl ?_|refine yD c2 (by (repeat refine ⟨⟨rfl,rfl⟩,?_⟩);rfl) rfl ?_));all_goals try conv=>whnf
   ·rw [e0,if_pos ‹_›]
   ·rw [e0,if_neg (by simp [‹m.val.any (bad m.W)=false›]),if_pos ‹_›]
   ·rw [e0,if_neg (by simp [‹m.val.any (bad m.W)=false›]),if_neg (by simp [‹(m.rel.any fun x=>x.any (bad m.W))=false›])]
end Go.Ab
namespace Go.Ab
open Go Go.Proofs
set_option maxRecDepth 10000
set_option maxHeartbeats 4000000
def zj2:List D→Option (List Int)
 | []=>some []
 | .int .i64 n::r=>match zj2 r with
  | some l=>some (n::l)
  | none=>none
 | _=>none
theorem zhB : ∀ {ds:List D} {l:List Int},zj2 ds=some l→ds=l.map (D.int .i64)
 | [],l,h=>by cases h;rfl
 | .int .i64 n::r,l,h=>by
  unfold zj2 at h
  split at h
  ·rename_i l' h';cases h;rw [zhB h'];rfl
  ·cases h
variable {T:Nat→Obj→Prop}
end Go.Ab
namespace Go.Ab
def zeU (R:zuU) (a:Nat) (w u:Nat):Prop := ∃ r,R[a]? = some r∧r w u=true
def znW (n:Nat) (R:zuU) (g:Nat) (w u:Nat):Prop:=u < n ∧ ∃ a,g.testBit a=true∧zeU R a w u
inductive CPt (S:Nat→Nat→Prop) (c:Nat→Prop):Nat→Nat→Prop where
 | one {v u:Nat} : S v u→c u→CPt S c v u
 | more {v x u:Nat} : CPt S c v x→S x u→c u→CPt S c v u
def zAO (n:Nat) (R:zuU) (fc:Nat→Nat→Prop) (h:Hd) (X Y:Nat→Prop) (w:Nat):Prop :=
 if h.op=1 then True else if h.op=3 then fc h.i.toNat w else if h.op=4 then ¬X w else if h.op=5 then X w∧Y w else if h.op=6 then X w∨Y w else if h.op=7 then (X w→Y w) else if h.op=8 then (X w↔Y w) else
 if h.op=9 then ∀ u,u < n→zeU R h.i.toNat w u→X u else if h.op=10 then ∃ u,u < n∧zeU R h.i.toNat w u∧X u else if h.op=11 then ∀ u,znW n R h.g.toNat w u→X u else
 if h.op=12 then ∀ u,u < n→(∀ a,h.g.toNat.testBit a=true→zeU R a w u)→X u else if h.op=13 then ∀ u,CPt (znW n R h.g.toNat) X w u→Y u else False
end Go.Ab
namespace Go.Ab
open Go Go.Proofs
set_option maxRecDepth 10000
set_option maxHeartbeats 4000000
variable {T:Nat→Obj→Prop}
def zdQ (r:List (BitVec 64)) (s:BitVec 64):BitVec 64:=zP (fun w=>decide (r.getD w 0#64 &&& ~~~s=0#64)) r.length
theorem zgd {r:List (BitVec 64)} (s:BitVec 64) (hc0:zas r=0):Fn Tryz.prog T ziZ [.d (dU r),.d (.u64 s)] [] (.d (.u64 (zdQ r s))) []:=by
 have hl:=(zbI.1 hc0).1
 have crc:=zmO (T:=T) r
 rw [hc0] at crc
 refine zb zn zqb (by show 2≤30;decide) ?_
 (repeat' ((conv=>whnf);first|refine vA ?_|refine vJ fun hg=>?_|refine vT ?_));all_goals try conv=>whnf
 refine zw.data (crc) (by (repeat refine ⟨⟨rfl,rfl⟩,?_⟩);rfl) rfl ?_
 (repeat' ((conv=>whnf);first|refine vA ?_|refine vH ?_|refine vJ fun hg=>?_|refine vT ?_));all_goals try conv=>whnf
 refine zaN (fun ((k,o):Nat×BitVec 64)=>[(0,.d (dU r)),(1,.d (.u64 (s))),(5,.d (.u64 (o))),(13,.d (.int .i64 ((r.map D.u64).length:Int))),(14,.d (.int .i64 ((k:Int))))]) (fun ((k,o):Nat×BitVec 64)=>k≤r.length∧o=zP (fun w=>decide (r.getD w 0#64 &&& ~~~s=0#64)) k) (fun ((k,o):Nat×BitVec 64)=>r.length - k) ((0,0#64)) (⟨by omega,rfl⟩) (by (repeat' first|exact trivial|exact rfl|refine And.intro ?_ ?_)) ?_
 rintro ⟨k,o⟩ ⟨hk,ho⟩
 (repeat' ((conv=>whnf);first|refine vA ?_|(refine vF ?_ ?_<;>intro hc<;>try simp only [vL] at hc)|refine vT ?_|(refine vQ ?_ fun x hx=>?_;·omega)|((first|refine vO ?_ ?_|refine vP ?_ ?_);·omega)|refine vY ?_));all_goals try conv=>whnf
 ·refine ⟨(k+1,_),[],[],?_,?_,by (refine ⟨rfl,rfl,rfl,?_,?_⟩;repeat' first|exact trivial|exact rfl|refine And.intro ?_ ?_)⟩
  ·refine ⟨by (omega),?_⟩
   have hrk:r.getD k 0#64=x:=by simp [List.getD,hx]
   rw [zP,if_pos (decide_eq_true (by rw [hrk];exact hc)),← ho];rfl
  ·((simp only [vM] at *;omega))
 ·refine ⟨(k+1,o),[],[],?_,?_,by (refine ⟨rfl,rfl,rfl,?_,?_⟩;repeat' first|exact trivial|exact rfl|refine And.intro ?_ ?_)⟩
  ·refine ⟨by (omega),?_⟩
   have hrk:r.getD k 0#64=x:=by simp [List.getD,hx]
   rw [zP,if_neg (by rw [hrk,decide_eq_true_eq];exact hc),← ho]
  ·((simp only [vM] at *;omega))
 ·obtain rfl:k=r.length:=by omega
  rw [ho];rfl
def znn (r:List (BitVec 64)) (s:BitVec 64):BitVec 64:=zU r.length &&& ~~~(zdQ r (~~~s))
theorem zrE {r:List (BitVec 64)} (s:BitVec 64) (hc0:zas r=0):Fn Tryz.prog T zga [.d (dU r),.d (.u64 s)] [] (.d (.u64 (znn r s))) []:=by
 have crc:=zmO (T:=T) r
 rw [hc0] at crc
 have cra:=zh3 (T:=T) ((r.map D.u64).length:Int) (by omega)
 have crb:=zgd (T:=T) (r:=r) (~~~s) hc0
 refine zb zn zlq (by show 2≤18;decide) ?_
 (repeat' ((conv=>whnf);first|refine vA ?_|refine vJ fun hg=>?_|refine vT ?_));all_goals try conv=>whnf
 refine zw.data (crc) (by (repeat refine ⟨⟨rfl,rfl⟩,?_⟩);rfl) rfl ?_
 (repeat' ((conv=>whnf);first|refine vH ?_|refine vJ fun hg=>?_|refine vT ?_|refine vY ?_|refine yD cra ⟨⟨rfl,rfl⟩,rfl⟩ rfl ?_|refine yD crb ⟨⟨rfl,rfl⟩,⟨rfl,rfl⟩,rfl⟩ rfl ?_));all_goals try conv=>whnf
 rw [znn,List.length_map]
def zxF (r:List (BitVec 64)) (c s:BitVec 64) (w:Nat):Prop := ∀ u,CPt (fun a b=>rb r a b=true) (fun u=>c.getLsbD u=true) w u→s.getLsbD u=true
noncomputable def znl (r:List (BitVec 64)) (c s:BitVec 64):BitVec 64:=zP (fun w => @decide (zxF r c s w) (Classical.propDecidable _)) r.length
theorem CPt.pre {S:Nat→Nat→Prop} {c:Nat→Prop} {w u v:Nat} (h1:S w u) (h2:c u) (h:CPt S c u v):CPt S c w v:=by
 induction h with
 | one a b=>exact .more (.one h1 h2) a b
 | more _ a b ih=>exact .more ih a b
theorem zjM {r:List (BitVec 64)} {s:BitVec 64} (hl:r.length≤64) {w:Nat} : (zdQ r s).getLsbD w=true↔w < r.length ∧ ∀ u,rb r w u=true→s.getLsbD u=true:=by
 unfold zdQ
 rw [zid hl,decide_eq_true_eq,ztL];rfl
def zil (r:List (BitVec 64)) (c s o:BitVec 64):BitVec 64:=zdQ r ((zU r.length &&& ~~~c)|||(s&&&o))
theorem zeL {r:List (BitVec 64)} {c s o:BitVec 64} (hc0:zas r=0) {w:Nat} : (zil r c s o).getLsbD w=true↔w < r.length ∧ ∀ u,rb r w u=true→c.getLsbD u=true→s.getLsbD u=true∧o.getLsbD u=true:=by
 obtain ⟨hl,hin⟩:=zbI.1 hc0
 unfold zil
 rw [zjM hl]
 refine and_congr Iff.rfl (forall_congr' fun u=>forall_congr' fun hu=>?_)
 have hul:=hin w u hu
 have ha:(zU r.length).getLsbD u=true:=by rw [zdd (by omega) (by omega),decide_eq_true_eq];omega
 rw [BitVec.getLsbD_or,BitVec.getLsbD_and,BitVec.getLsbD_and,BitVec.getLsbD_not,ha,decide_eq_true (show u < 64 by omega)]
 cases c.getLsbD u<;>simp
structure zih (r:List (BitVec 64)) (c s o:BitVec 64):Prop where
 sup : ∀ w,w < r.length→zxF r c s w→o.getLsbD w=true
 dec : ∀ w,(zil r c s o).getLsbD w=true→o.getLsbD w=true
 ins : ∀ w,o.getLsbD w=true→w < r.length
theorem zih.start {r:List (BitVec 64)} (c s:BitVec 64) (hc0:zas r=0):zih r c s (zU r.length):=by
 obtain ⟨hl,hin⟩:=zbI.1 hc0
 have ha : ∀ w,w < r.length→(zU r.length).getLsbD w=true:=fun w hw=>by rw [zdd (by omega) (by omega),decide_eq_true_eq];omega
 refine ⟨fun w hw _=>ha w hw,fun w h=>ha w ((zeL hc0).1 h).1,fun w h=>?_⟩
 have hw64:w < 64:=by
  refine Nat.lt_of_not_le fun h2=>?_
  rw [BitVec.getLsbD_of_ge _ _ h2] at h;exact absurd h (by decide)
 rw [zdd (by omega) hw64,decide_eq_true_eq] at h
 omega
theorem zih.next {r:List (BitVec 64)} {c s o:BitVec 64} (hc0:zas r=0) (h:zih r c s o):zih r c s (zil r c s o):=by
 obtain ⟨hl,hin⟩:=zbI.1 hc0
 refine ⟨fun w hw hp=>(zeL hc0).2 ⟨hw,fun u hu hcu=>⟨hp u (.one hu hcu),h.sup u (hin w u hu) fun v hv=>hp v (hv.pre hu hcu)⟩⟩,fun w hw=>?_,fun w hw=>((zeL hc0).1 hw).1⟩
 obtain ⟨h1,h2⟩:=(zeL hc0).1 hw
 exact (zeL hc0).2 ⟨h1,fun u hu hcu=>⟨(h2 u hu hcu).1,h.dec u (h2 u hu hcu).2⟩⟩
theorem zih.done {r:List (BitVec 64)} {c s o:BitVec 64} (hc0:zas r=0) (h:zih r c s o) (e:zil r c s o=o):o=znl r c s:=by
 obtain ⟨hl,hin⟩:=zbI.1 hc0
 refine BitVec.eq_of_getLsbD_eq fun w _=>?_
 rw [Bool.eq_iff_iff,znl,zid hl,@decide_eq_true_eq _ (Classical.propDecidable _)]
 constructor
 ·intro hw
  refine ⟨h.ins w hw,fun u hu=>?_⟩
  have key : ∀ u,CPt (fun a b=>rb r a b=true) (fun u=>c.getLsbD u=true) w u→s.getLsbD u=true∧o.getLsbD u=true:=fun u hu=>by
   induction hu with
   | one a b=>rw [← e] at hw;exact ((zeL hc0).1 hw).2 _ a b
   | more _ a b ih =>
    have:=ih.2
    rw [← e] at this
    exact ((zeL hc0).1 this).2 _ a b
  exact (key u hu).1
 ·rintro ⟨h1,h2⟩
  exact h.sup w h1 h2
theorem zih.less {r:List (BitVec 64)} {c s o:BitVec 64} (h:zih r c s o) (e:zil r c s o≠o):(zoi (zil r c s o)).length < (zoi o).length:=by
 unfold zoi
 refine (zqL (fun i hi=>h.dec i hi) _).2 ?_
 refine Classical.byContradiction fun hn=>e (BitVec.eq_of_getLsbD_eq fun i hi=>?_)
 cases ho:o.getLsbD i with
 | true =>
  cases hf:(zil r c s o).getLsbD i with
  | true=>rfl
  | false=>exact absurd ⟨i,List.mem_range.2 hi,hf,ho⟩ hn
 | false =>
  cases hf:(zil r c s o).getLsbD i with
  | true=>rw [h.dec i hf] at ho;cases ho
  | false=>rfl
theorem zws {r:List (BitVec 64)} (c s:BitVec 64) (hc0:zas r=0):Fn Tryz.prog T zhs [.d (dU r),.d (.u64 (zU r.length)),.d (.u64 c),.d (.u64 s)] [] (.d (.u64 (znl r c s))) []:=by
 have cb:=fun x=>zgd (T:=T) (r:=r) x hc0
 refine zb zn znC (by show 4≤26;decide) ?_
 (repeat' ((conv=>whnf);refine vT ?_));all_goals try conv=>whnf
 refine zaN (fun (o:BitVec 64)=>[(0,.d (dU r)),(1,.d (.u64 ((zU r.length)))),(2,.d (.u64 (c))),(3,.d (.u64 (s))),(9,.d (.u64 (o)))]) (fun (o:BitVec 64)=>zih r c s o) (fun (o:BitVec 64)=>(zoi o).length) (zU r.length) (.start c s hc0) (by (repeat' first|exact trivial|exact rfl|refine And.intro ?_ ?_)) ?_
 rintro o hI
 (repeat' ((conv=>whnf);first|refine vA ?_|(refine vF ?_ ?_<;>intro hc)|refine vT ?_|refine vY ?_|refine yD (cb _) (by (repeat refine ⟨⟨rfl,rfl⟩,?_⟩);rfl) rfl ?_));all_goals try conv=>whnf
 ·exact hI.done hc0 hc
 ·refine ⟨zil r c s o,[],[],?_,?_,by (refine ⟨rfl,rfl,rfl,?_,?_⟩;repeat' first|exact trivial|exact rfl|refine And.intro ?_ ?_)⟩
  ·exact hI.next hc0
  ·exact hI.less hc
end Go.Ab
namespace Go.Ab
open Go Go.Proofs
set_option maxRecDepth 10000
set_option maxHeartbeats 4000000
variable {T:Nat→Obj→Prop}
def zmb (m:KM) (i v:Nat):BitVec 64:=(m.rel.getD i []).getD v 0#64
end Go.Ab
namespace Go.Ab
open Go
theorem zw4 {m:KM} {i v u:Nat} {r:Nat→Nat→Bool} (h:(zcN m)[i]? = some r):(zmb m i v).getLsbD u=r v u:=by
 unfold zcN at h
 rw [List.getElem?_map,Option.map_eq_some_iff] at h
 obtain ⟨s,hs,rfl⟩:=h
 unfold zmb rb
 simp [List.getD,hs]
theorem zjY {m:KM} (g:zeH m) {i v u:Nat} (h:(zmb m i v).getLsbD u=true):u < m.W.toNat:=by
 have w1:=g.w1
 unfold zmb at h
 by_cases hi:i < m.rel.length
 ·by_cases hv:v < (m.rel[i]).length
  ·have e:(m.rel.getD i []).getD v 0#64=(m.rel[i])[v]:=by simp [List.getD,hi,hv]
   rw [e] at h
   exact (zps (by omega)).1 (g.rel _ (List.getElem_mem hi) _ (List.getElem_mem hv)) u h
  ·simp [List.getD,hi,hv] at h
 ·simp [List.getD,hi] at h
end Go.Ab
namespace Go.Ab
open Go Go.Proofs
set_option maxRecDepth 10000
set_option maxHeartbeats 4000000
variable {T:Nat→Obj→Prop}
theorem zwp (l:List (BitVec 64)) (h:l≠[]) (hl:l.length≤1000):Fn Tryz.prog T zbq [.d (dU l)] [] (.own 0) [some (.row 1 (l.map D.u64))]:=by
 refine zJ zn zcC (by show 1≤8;decide) _ (fun e env mem n h=>h) ?_
 (repeat' ((conv=>whnf);first|refine vA ?_|refine vB fun b hb=>?_|refine vE ?_|(refine vF ?_ ?_<;>intro hc)|refine vT ?_|(refine vP ?_ ?_;·(simp only [vM] at *;omega))|fail));all_goals try conv=>whnf
 ·refine ⟨trivial,_,[(0,1)],[],rfl,.inl (by (repeat' exact rfl)),⟨by rfl,by rfl,by rfl,trivial,by (repeat' first|exact trivial|exact rfl|refine And.intro ?_ ?_|refine ⟨_,rfl,?_⟩|exact of_decide_eq_true rfl)⟩,by (repeat' exact trivial)⟩
 ·exact absurd (List.map_eq_nil_iff.1 (hb (by simpa using hc))) h
end Go.Ab
namespace Go.Ab
open Go Go.Proofs
set_option maxRecDepth 10000
set_option maxHeartbeats 4000000
variable {T:Nat→Obj→Prop}
def zBv (op:BitVec 64→BitVec 64→BitVec 64) (n:Nat):Option (List (BitVec 64))→List (BitVec 64)→Option (List (BitVec 64))
 | none,r=>some r
 | some a,r=>some ((List.range n).map fun w=>op (a.getD w 0#64) (r.getD w 0#64))
def zaA (op:BitVec 64→BitVec 64→BitVec 64) (m:KM) (g:Nat):Nat→Option (List (BitVec 64))
 | 0=>none
 | k+1=>if g.testBit k=true then zBv op m.W.toNat (zaA op m g k) (m.rel.getD k []) else zaA op m g k
def zBw:Option (List (BitVec 64))→V
 | none => .nils 1
 | some _ => .own 0
def zBu:Option (List (BitVec 64))→List D
 | none=>[]
 | some r=>r.map D.u64
theorem zr1 {g k:Nat} (hg:g < 2 ^ 63) (hk:k≤64):zaU .i64 (fun p q=>p&&&q) ((g:Int).fdiv (2 ^ (min ((k:Nat):Int).toNat IntKind.i64.bits))) 1=0↔g.testBit k=false:=by
 have e1:min ((k:Nat):Int).toNat IntKind.i64.bits=k:=Nat.min_eq_left (show k≤64 from hk)
 have h1:g >>> k < 2 ^ 63:=Nat.lt_of_le_of_lt (by rw [Nat.shiftRight_eq_div_pow];exact Nat.div_le_self _ _) hg
 rw [e1,zqs,show (1:Int)=((1:Nat):Int) from rfl,zsk h1 (by decide)]
 rw [Nat.testBit,Nat.and_one_is_mod,Nat.one_and_eq_mod_two,bne_eq_false_iff_eq]
 omega
theorem zl4 {op:BitVec 64→BitVec 64→BitVec 64} {m:KM} (hg:zeH m) {g:Nat} : ∀ {k:Nat} {r:List (BitVec 64)},k≤m.rel.length→zaA op m g k=some r→r.length=m.W.toNat
 | 0,_,_,h=>by cases h
 | k+1,r,hk,h=>by
  rw [zaA] at h
  split at h
  ·cases hz:zaA op m g k with
   | none =>
    rw [hz] at h
    have e:m.rel.getD k []=r:=Option.some.inj h
    have:=hg.len r (by rw [← e,List.getD,List.getElem?_eq_getElem (by omega)];exact List.getElem_mem _)
    omega
   | some a =>
    rw [hz] at h
    have e:=Option.some.inj h
    rw [← e];simp
  ·exact zl4 hg (by omega) h
theorem zqT {m:KM} (hk0:zac m=0) {f:Nat} {op:BitVec 64→BitVec 64→BitVec 64} (hop : ∀ x y,Fn Tryz.prog T f [.d (.u64 x),.d (.u64 y)] [] (.d (.u64 (op x y))) []) {g:Nat} (hg1:1≤g) (hg2:(g:Int) < 2 ^ m.rel.length):Fn Tryz.prog T ziT [.d (dKM m),.d (.int .i64 (g:Int)),.d (.fn f [])] [] (.d (dU ((zaA op m g m.rel.length).getD []))) []:=by
 have gm:=zfX hk0
 have w1:=gm.w1
 have w2:=gm.w2
 have n4:=gm.n4
 have ck:=zqV (T:=T) m
 rw [hk0] at ck
 refine zb zn zp5 (by show 3≤64;decide) ?_
 have hg63:g < 2 ^ 63:=by
  have h4:(2:Nat) ^ m.rel.length≤2 ^ 4:=Nat.pow_le_pow_right (by decide) n4
  have h6:(2:Nat) ^ 63=9223372036854775808:=by decide
  have h7:((2 ^ m.rel.length:Nat):Int)=(2:Int) ^ m.rel.length:=by simp
  omega
 have hpw : ∀ k:Nat,k≤4→inR .i64 (1 * 2 ^ min ((k:Nat):Int).toNat IntKind.i64.bits:Int)∧(1 * 2 ^ min ((k:Nat):Int).toNat IntKind.i64.bits:Int)=2 ^ k:=fun k hk=>by
  match k,hk with
  | 0,_=>exact ⟨by decide,by decide⟩
  | 1,_=>exact ⟨by decide,by decide⟩
  | 2,_=>exact ⟨by decide,by decide⟩
  | 3,_=>exact ⟨by decide,by decide⟩
  | 4,_=>exact ⟨by decide,by decide⟩
 (repeat' ((conv=>whnf);first|refine vA ?_|refine vH ?_|(refine vF ?_ ?_<;>intro hc<;>try simp only [vL] at hc)|refine vJ fun hg=>?_|refine vT ?_|((first|refine vO ?_ ?_|refine vP ?_ ?_);·omega)|refine yD ck ⟨⟨rfl,rfl⟩,rfl⟩ rfl ?_));all_goals try conv=>whnf
 ·exfalso;omega
 ·have hp1:=hpw (m.rel.map dU).length (by rw [List.length_map];exact n4)
  have hp2:=hp1.2
  rw [List.length_map] at hp2
  refine zjA.fit hp1.1 ?_
  (repeat' ((conv=>whnf);first|refine vA ?_|(refine vF ?_ ?_<;>intro hc<;>try simp only [vL] at hc)|refine vJ fun hg=>?_|refine vT ?_));all_goals try conv=>whnf
  ·exfalso;rw [hp2] at hc;omega
  refine zt (fun ((k,z):Nat×Option (List (BitVec 64)))=>[(1,.d (.int .i64 ((g:Int)))),(2,.d (.fn f [])),(7,zBw z),(27,.d (dUU m.rel)),(28,.d (.int .i64 ((m.rel.map dU).length:Int))),(29,.d (.int .i64 ((k:Int))))]) (fun ((k,z):Nat×Option (List (BitVec 64)))=>[(0,some (.row 1 (zBu z)))]) 1 (fun ((k,z):Nat×Option (List (BitVec 64)))=>k≤m.rel.length∧z=zaA op m g k) (fun ((k,z):Nat×Option (List (BitVec 64)))=>m.rel.length - k) ((0,none)) []   [0] (⟨by omega,rfl⟩) (by (refine ⟨rfl,rfl,rfl,?_,?_⟩;repeat' first|exact trivial|exact rfl|exact ⟨_,rfl⟩|refine And.intro ?_ ?_|decide)) ?_
  rintro ⟨k,z⟩ ⟨hk,hz⟩
  by_cases hkl:k < m.rel.length
  ·cases z with
   | none =>
    (repeat' ((conv=>whnf);first|refine vA ?_|(refine vF ?_ ?_<;>intro hc<;>try simp only [vL] at hc)|refine vT ?_|(refine vQ ?_ fun x hx=>?_;·omega)|((first|refine vO ?_ ?_|refine vP ?_ ?_);·omega)|fail));all_goals try conv=>whnf
    ·have hb0:=(zr1 hg63 (by omega)).1 hc
     refine ⟨(k+1,none),[] ,  [0],?_,?_,by (refine ⟨rfl,rfl,rfl,?_,?_⟩;repeat' first|exact trivial|exact rfl|exact ⟨_,rfl⟩|refine And.intro ?_ ?_|decide)⟩
     ·exact ⟨by (omega),by rw [zaA,if_neg (by rw [hb0];decide),hz]⟩
     ·((simp only [vM] at *;omega))
    ·have hb0:=mt (zr1 (k:=k) hg63 (by omega)).2 ‹¬_›
     have hxl:=gm.len _ (List.mem_of_getElem? hx)
     refine zw.res (zwp x (fun e=>by subst e;simp at hxl;omega) (by omega)) (by (repeat refine ⟨⟨rfl,rfl⟩,?_⟩);rfl) ?_
     (repeat' ((conv=>whnf);first|refine vT ?_|(refine vO ?_ ?_;·omega)|fail));all_goals try conv=>whnf
     refine ⟨(k+1,some x),[(0,1)],[],?_,?_,by (refine ⟨rfl,rfl,rfl,?_,?_⟩;repeat' first|exact trivial|exact rfl|refine And.intro ?_ ?_|refine ⟨_,rfl,?_⟩|decide)⟩
     ·refine ⟨by (omega),?_⟩
      have hxk:m.rel.getD k []=x:=by simp [List.getD,hx]
      rw [zaA,if_pos (by simpa using hb0),← hz,hxk];rfl
     ·((simp only [vM] at *;omega))
    ·exfalso;omega
   | some a =>
    have hal:=zl4 gm hk hz.symm
    (repeat' ((conv=>whnf);first|refine vA ?_|refine vB fun b hb=>?_|refine vE ?_|(refine vF ?_ ?_<;>intro hc<;>try simp only [vL] at hc)|refine vJ fun hg=>?_|refine vT ?_|(refine vQ ?_ fun x hx=>?_;·omega)|((first|refine vO ?_ ?_|refine vP ?_ ?_);·omega)|fail));all_goals try conv=>whnf
    ·have hb0:=(zr1 hg63 (by omega)).1 hc
     refine ⟨(k+1,some a),[(0,0)],[],?_,?_,by (refine ⟨rfl,rfl,rfl,?_,?_⟩;repeat' first|exact trivial|exact rfl|refine And.intro ?_ ?_|refine ⟨_,rfl,?_⟩|decide)⟩
     ·exact ⟨by (omega),by rw [zaA,if_neg (by rw [hb0];decide),hz]⟩
     ·((simp only [vM] at *;omega))
    ·have hb0:=mt (zr1 (k:=k) hg63 (by omega)).2 ‹¬_›
     have hxl:=gm.len _ (List.mem_of_getElem? hx)
     have hxk:m.rel.getD k []=x:=by simp [List.getD,hx]
     refine zt (fun ((j,zs):Nat×List D)=>[(1,.d (.int .i64 ((g:Int)))),(2,.d (.fn f [])),(7,.own 0),(9,.d (dU x)),(27,.d (dUU m.rel)),(28,.d (.int .i64 ((m.rel.map dU).length:Int))),(29,.d (.int .i64 ((k:Int)))),(44,.d (.int .i64 (((a.map D.u64).length:Int)))),(45,.d (.int .i64 ((j:Int))))]) (fun ((j,zs):Nat×List D)=>[(0,some (.row 1 zs))]) 1 (fun ((j,zs):Nat×List D)=>j≤m.W.toNat∧zs=(List.range m.W.toNat).map fun w=>D.u64 (if w < j then op (a.getD w 0#64) (x.getD w 0#64) else a.getD w 0#64)) (fun ((j,zs):Nat×List D)=>m.W.toNat - j) ((0,a.map D.u64)) [(0,0)] [] (⟨by omega,by
      refine List.ext_getElem (by simp [hal]) fun i h1 h2=>?_
      have:i < a.length:=by simpa using h1
      simp [List.getD,this]⟩) (by (refine ⟨rfl,rfl,rfl,?_,?_⟩;repeat' first|exact trivial|exact rfl|refine And.intro ?_ ?_|refine ⟨_,rfl,?_⟩|decide)) ?_
     rintro ⟨j,zs⟩ ⟨hj,hzs⟩
     by_cases hjl:j < m.W.toNat
     ·subst hzs
      (repeat' ((conv=>whnf);first|refine vA ?_|(refine vF ?_ ?_<;>intro hc<;>try simp only [vL] at hc)|refine vT ?_|(refine vQ ?_ fun x hx=>?_;·first|omega|(simp only [vM] at *;omega))|((first|refine vO ?_ ?_|refine vP ?_ ?_);·first|omega|(simp only [vM] at *;omega))|(refine vU ?_ ?_;·kernel_rfl)|refine yD (hop _ _) (by (repeat refine ⟨⟨rfl,rfl⟩,?_⟩);rfl) rfl ?_));all_goals try conv=>whnf
      ·rename_i xn hxn
       rw [Int.toNat_natCast] at hxn
       have hxe:=zqZ hxn
       subst hxe
       have hxj:(m.rel.getD k []).getD xn 0#64=x:=by rw [hxk];simp [List.getD,hx]
       refine ⟨(xn+1,_),[(0,0)],[],?_,?_,by (refine ⟨rfl,rfl,rfl,?_,?_⟩;repeat' first|exact trivial|exact rfl|refine And.intro ?_ ?_|refine ⟨_,rfl,?_⟩|decide)⟩
       ·refine ⟨by (omega),(zlK _).trans (zav fun u hu=>?_)⟩
        rw [Int.toNat_natCast,if_neg (Nat.lt_irrefl _)]
        by_cases e:u=xn
        ·subst e
         rw [if_pos rfl,if_pos (by omega)]
         rw [hxk] at hxj
         rw [hxj]
        ·rw [if_neg e]
         by_cases e2:u < xn
         ·rw [if_pos e2,if_pos (by omega)]
         ·rw [if_neg e2,if_neg (by omega)]
       ·((simp only [vM] at *;omega))
      ·exfalso;omega
     ·obtain rfl:j=m.W.toNat:=by omega
      obtain rfl:zs=((List.range m.W.toNat).map fun w=>op (a.getD w 0#64) (x.getD w 0#64)).map D.u64:=by
       rw [hzs,List.map_map]
       exact zav fun u hu=>by rw [if_pos hu];rfl
      clear hzs
      (repeat' ((conv=>whnf);first|refine vA ?_|(refine vF ?_ ?_<;>intro hc<;>try simp only [vL] at hc)|refine vT ?_|(refine vQ ?_ fun x hx=>?_;·omega)|((first|refine vO ?_ ?_|refine vP ?_ ?_);·omega)|fail));all_goals try conv=>whnf
      ·exfalso;omega
      ·refine ⟨(k+1,some ((List.range m.W.toNat).map fun w=>op (a.getD w 0#64) (x.getD w 0#64))),[(0,0)],[],?_,?_,by (refine ⟨rfl,rfl,rfl,?_,?_⟩;repeat' first|exact trivial|exact rfl|refine And.intro ?_ ?_|refine ⟨_,rfl,?_⟩|decide)⟩
       ·refine ⟨by (omega),?_⟩
        rw [zaA,if_pos (by simpa using hb0),← hz,hxk];rfl
       ·((simp only [vM] at *;omega))
    ·exfalso
     have hnil:a.map D.u64=[]:=hb (by simpa using hc)
     rw [List.map_eq_nil_iff] at hnil
     rw [hnil] at hal
     simp at hal;omega
    ·exfalso;omega
  ·obtain rfl:k=m.rel.length:=by omega
   cases z with
   | none =>
    (repeat' ((conv=>whnf);first|refine vA ?_|(refine vF ?_ ?_<;>intro hc<;>try simp only [vL] at hc)|refine vT ?_|(refine vQ ?_ fun x hx=>?_;·omega)|((first|refine vO ?_ ?_|refine vP ?_ ?_);·omega)|fail));all_goals try conv=>whnf
    all_goals first|(exfalso;omega)|skip
    rw [← hz];rfl
   | some a =>
    (repeat' ((conv=>whnf);first|refine vA ?_|refine vB fun b hb=>?_|refine vE ?_|(refine vF ?_ ?_<;>intro hc<;>try simp only [vL] at hc)|refine vJ fun hg=>?_|refine vT ?_|(refine vQ ?_ fun x hx=>?_;·omega)|((first|refine vO ?_ ?_|refine vP ?_ ?_);·omega)|fail));all_goals try conv=>whnf
    all_goals first|(exfalso;omega)|skip
    rw [← hz];rfl
theorem zww {m:KM} (hk0:zac m=0) {g:Nat} (hg1:1≤g) (hg2:(g:Int) < 2 ^ m.rel.length):Fn Tryz.prog T zkp [.d (dKM m),.d (.int .i64 (g:Int))] [] (.d (dU ((zaA (fun x y=>x|||y) m g m.rel.length).getD []))) []:=by
 have h1 : ∀ x y,Fn Tryz.prog T zfj [.d (.u64 x),.d (.u64 y)] [] (.d (.u64 (x|||y))) []:=fun x y=>by
  refine zb zn zo3 (by show 2≤8;decide) ?_
  (repeat' ((conv=>whnf);first|refine vT ?_|refine vY ?_));all_goals try conv=>whnf
 have c1:=zqT (T:=T) hk0 h1 hg1 hg2
 refine zb zn zrK (by show 2≤8;decide) ?_
 (repeat' ((conv=>whnf);first|refine vT ?_|refine yN c1 ⟨⟨rfl,rfl⟩,⟨rfl,rfl⟩,⟨rfl,rfl⟩,rfl⟩ ?_));all_goals try conv=>whnf
 rfl
theorem zya {m:KM} (hk0:zac m=0) {g:Nat} (hg1:1≤g) (hg2:(g:Int) < 2 ^ m.rel.length):Fn Tryz.prog T zk8 [.d (dKM m),.d (.int .i64 (g:Int))] [] (.d (dU ((zaA (fun x y=>x&&&y) m g m.rel.length).getD []))) []:=by
 have h1 : ∀ x y,Fn Tryz.prog T zfD [.d (.u64 x),.d (.u64 y)] [] (.d (.u64 (x&&&y))) []:=fun x y=>by
  refine zb zn zp4 (by show 2≤8;decide) ?_
  (repeat' ((conv=>whnf);first|refine vT ?_|refine vY ?_));all_goals try conv=>whnf
 have c1:=zqT (T:=T) hk0 h1 hg1 hg2
 refine zb zn zs8 (by show 2≤8;decide) ?_
 (repeat' ((conv=>whnf);first|refine vT ?_|refine yN c1 ⟨⟨rfl,rfl⟩,⟨rfl,rfl⟩,⟨rfl,rfl⟩,rfl⟩ ?_));all_goals try conv=>whnf
 rfl
end Go.Ab
namespace Go.Ab
open Go Go.Proofs
set_option maxRecDepth 10000
set_option maxHeartbeats 4000000
variable {T:Nat→Obj→Prop}
theorem zjX {op:BitVec 64→BitVec 64→BitVec 64} {m:KM} {g:Nat} : ∀ {k:Nat},(∃ i,i < k∧g.testBit i=true) → ∃ r,zaA op m g k=some r
 | 0,⟨i,hi,_⟩=>absurd hi (by omega)
 | k+1,⟨i,hi,hb⟩=>by
  rw [zaA]
  by_cases h:g.testBit k=true
  ·rw [if_pos h]
   cases zaA op m g k with
   | none=>exact ⟨_,rfl⟩
   | some a=>exact ⟨_,rfl⟩
  ·rw [if_neg h]
   exact zjX ⟨i,by
    rcases Nat.lt_or_ge i k with h2|h2
    ·exact h2
    ·have:i=k:=by omega
     subst this;exact absurd hb h,hb⟩
theorem zkO {g n:Nat} (h1:1≤g) (h2:g < 2 ^ n) : ∃ i,i < n∧g.testBit i=true:=by
 obtain ⟨i,hi⟩:=Nat.exists_testBit_of_ne_zero (x:=g) (by omega)
 refine ⟨i,Nat.lt_of_not_le fun hn=>?_,hi⟩
 rw [Nat.testBit_lt_two_pow (Nat.lt_of_lt_of_le h2 (Nat.pow_le_pow_right (by decide) hn))] at hi
 exact absurd hi (by decide)
def zb3 (m:KM) (i:Int):List (BitVec 64):=m.rel.getD i.toNat []
def zdC (m:KM) (g:Int):List (BitVec 64):=(zaA (fun x y=>x|||y) m g.toNat m.rel.length).getD []
def zit (m:KM) (g:Int):List (BitVec 64):=(zaA (fun x y=>x&&&y) m g.toNat m.rel.length).getD []
theorem zs3 {op:BitVec 64→BitVec 64→BitVec 64} {m:KM} (hg:zeH m) (hop : ∀ (x y:BitVec 64) i,(op x y).getLsbD i=true→x.getLsbD i=true∨y.getLsbD i=true) {g:Nat} : ∀ {k:Nat} {r:List (BitVec 64)},k≤m.rel.length→zaA op m g k=some r→zkI r
 | 0,_,_,h=>by cases h
 | k+1,r,hk,h=>by
  have w1:=hg.w1
  have hin:zkI (m.rel.getD k []):=fun v w hb=>by
   have hm:m.rel.getD k []∈m.rel:=by rw [List.getD,List.getElem?_eq_getElem (by omega)];exact List.getElem_mem _
   have:=hg.len _ hm
   have:=zjY hg (i:=k) (v:=v) hb
   omega
  rw [zaA] at h
  split at h
  ·cases hz:zaA op m g k with
   | none =>
    rw [hz] at h
    have e:m.rel.getD k []=r:=Option.some.inj h
    rw [← e];exact hin
   | some a =>
    have hal:=zl4 hg (by omega) hz
    have ha:=zs3 hg hop (by omega) hz
    rw [hz] at h
    have e:=Option.some.inj h
    intro v w hb
    rw [← e,List.length_map,List.length_range]
    rw [← e] at hb
    unfold rb at hb
    by_cases hv:v < m.W.toNat
    ·rw [List.getD,List.getElem?_map,List.getElem?_range hv] at hb
     rcases hop _ _ _ hb with h1|h1
     ·have:=ha v w h1;omega
     ·have:=hin v w h1
      have hm:m.rel.getD k []∈m.rel:=by rw [List.getD,List.getElem?_eq_getElem (by omega)];exact List.getElem_mem _
      have:=hg.len _ hm
      omega
    ·rw [List.getD,List.getElem?_eq_none (by simp;omega)] at hb
     simp at hb
  ·exact zs3 hg hop (by omega) h
theorem zi6 {op:BitVec 64→BitVec 64→BitVec 64} {m:KM} (hk0:zac m=0) (hop : ∀ (x y:BitVec 64) i,(op x y).getLsbD i=true→x.getLsbD i=true∨y.getLsbD i=true) {g:Nat} (h1:1≤g) (h2:g < 2 ^ m.rel.length):zas ((zaA op m g m.rel.length).getD [])=0∧((zaA op m g m.rel.length).getD []).length=m.W.toNat:=by
 have hg:=zfX hk0
 have w2:=hg.w2
 obtain ⟨r,hr⟩:=zjX (op:=op) (m:=m) (zkO h1 h2)
 have hl:=zl4 hg (Nat.le_refl _) hr
 rw [hr]
 exact ⟨zbI.2 ⟨by show r.length≤64;omega,zs3 hg hop (Nat.le_refl _) hr⟩,hl⟩
theorem zvF : ∀ (x y:BitVec 64) (i:Nat),(x|||y).getLsbD i=true→x.getLsbD i=true∨y.getLsbD i=true:=fun x y i h=>by
 rwa [BitVec.getLsbD_or,Bool.or_eq_true] at h
theorem zv3 : ∀ (x y:BitVec 64) (i:Nat),(x&&&y).getLsbD i=true→x.getLsbD i=true∨y.getLsbD i=true:=fun x y i h=>by
 rw [BitVec.getLsbD_and,Bool.and_eq_true] at h
 exact .inl h.1
noncomputable def zaP (m:KM) (h:Hd) (x y:BitVec 64):BitVec 64×Bool :=
 if h.op=1 then (zU m.W,true) else if h.op=2 then (0#64,true) else if h.op=3 then (if (m.val.length:Int)≤h.i then (0#64,false) else (m.val.getD h.i.toNat 0#64,true)) else
 if h.op=4 then (zU m.W &&& ~~~x,true) else if h.op=5 then (x&&&y,true) else if h.op=6 then (x|||y,true) else if h.op=7 then (zU m.W &&& ~~~x|||y,true) else if h.op=8 then (zU m.W &&& ~~~(x ^^^ y),true) else
 if h.op=9 then (if (m.rel.length:Int)≤h.i then (0#64,false) else (zdQ (zb3 m h.i) x,true)) else if h.op=10 then (if (m.rel.length:Int)≤h.i then (0#64,false) else (znn (zb3 m h.i) x,true)) else
 if h.op=11 then (if (2:Int) ^ m.rel.length≤h.g then (0#64,false) else (zdQ (zdC m h.g) x,true)) else if h.op=12 then (if (2:Int) ^ m.rel.length≤h.g then (0#64,false) else (zdQ (zit m h.g) x,true)) else
 if h.op=13 then (if (2:Int) ^ m.rel.length≤h.g then (0#64,false) else (znl (zdC m h.g) x y,true)) else (0#64,false)
end Go.Ab
namespace Go.Ab
open Go Go.Proofs
set_option maxRecDepth 10000
set_option maxHeartbeats 4000000
variable {T:Nat→Obj→Prop}
theorem zxM {W:Int} (h1:1≤W) (h2:W≤64):(18446744073709551615#64) >>> (64 - W).toNat=zU W:=by
 apply BitVec.eq_of_getLsbD_eq
 intro i hi
 rw [zdd (by omega) hi,BitVec.getLsbD_ushiftRight,show (18446744073709551615#64)=BitVec.allOnes 64 from rfl,BitVec.getLsbD_allOnes,Bool.eq_iff_iff]
 simp only [decide_eq_true_eq]
 omega
theorem zwt {m:KM} (hk0:zac m=0) (op i e:Int) (g:Nat) (nx ny:Int) (s t:BitVec 64) (h3:op=3∨op=9∨op=10→0≤i) (hg1:11≤op∧op≤13→1≤g) :
  Fn Tryz.prog T zfi [.d (dKM m),.d (.agg [.int .i64 op,.int .i64 i,.int .i64 e,.int .i64 (g:Int),.int .i64 nx,.int .i64 ny]),.d (.u64 s),.d (.u64 t)] [] (.d (.tup [.u64 (zaP m ⟨op,i,e,(g:Int)⟩ s t).1,.bool (zaP m ⟨op,i,e,(g:Int)⟩ s t).2])) []:=by
 have gm:=zfX hk0
 have w1:=gm.w1
 have w2:=gm.w2
 have n4:=gm.n4
 have hsh:=zxM w1 w2
 refine zb zn zoV (by show 4≤129;decide) ?_
 have hrow : ∀ {r:List (BitVec 64)},m.rel[i.toNat]? = some r→0≤i→i < m.rel.length→zas r=0∧zb3 m i=r:=fun {r} h h0 h1=>by
  have e:zb3 m i=r:=by unfold zb3;rw [List.getD,h];rfl
  have hm:=List.mem_of_getElem? h
  have h2:=gm.len _ hm
  refine ⟨zbI.2 ⟨by show r.length≤64;omega,fun v w hb=>?_⟩,e⟩
  rw [← e] at hb
  have:w < m.W.toNat:=zjY gm (i:=i.toNat) (v:=v) hb
  omega
 have cgx:=fun h1 h2=>zww (T:=T) hk0 (g:=g) h1 h2
 have cmx:=fun h1 h2=>zya (T:=T) hk0 (g:=g) h1 h2
 have hp2:(1 * 2 ^ min ((m.rel.length:Nat):Int).toNat IntKind.i64.bits:Int)=(2:Int) ^ m.rel.length:=by
  rw [show min ((m.rel.length:Nat):Int).toNat IntKind.i64.bits=m.rel.length from Nat.min_eq_left (show m.rel.length≤64 by omega)];omega
 have key : ∀ {a:BitVec 64×Bool} {o:Option D},o=some (D.tup [.u64 a.1,.bool a.2]) → ∀ {b:BitVec 64×Bool},a=b→o=some (D.tup [.u64 b.1,.bool b.2]):=fun h b e=>e▸h
 have hp1:inR .i64 (1 * 2 ^ min ((m.rel.map dU).length:Int).toNat IntKind.i64.bits:Int):=by
  rw [List.length_map]
  have:m.rel.length=0∨m.rel.length=1∨m.rel.length=2∨m.rel.length=3∨m.rel.length=4:=by omega
  rcases this with h|h|h|h|h<;>rw [h]<;>decide
 have hl2:(m.rel.map dU).length=m.rel.length:=List.length_map ..
 have hgg:11≤op∧op≤13→(g:Int) < 2 ^ m.rel.length→1≤g∧(g:Int) < 2 ^ m.rel.length:=fun h1 h2=>⟨hg1 h1,h2⟩
 have hgn:(g:Int) < 2 ^ m.rel.length→g < 2 ^ m.rel.length:=fun h=>by
  have:((2 ^ m.rel.length:Nat):Int)=(2:Int) ^ m.rel.length:=by simp
  omega
 have hgr:1≤g→(g:Int) < 2 ^ m.rel.length→zas (zdC m (g:Int))=0:=fun h1 h2=>(zi6 hk0 zvF h1 (hgn h2)).1
 have hgl:1≤g→(g:Int) < 2 ^ m.rel.length→(((zdC m (g:Int)).length:Nat):Int)=m.W:=fun h1 h2=>by
  have:=(zi6 hk0 zvF h1 (hgn h2)).2
  rw [show (zdC m (g:Int)).length=m.W.toNat from this];omega
 have hmr:1≤g→(g:Int) < 2 ^ m.rel.length→zas (zit m (g:Int))=0:=fun h1 h2=>(zi6 hk0 zv3 h1 (hgn h2)).1
 (repeat' ((conv=>whnf);first|refine vA ?_|(refine vF ?_ ?_<;>intro hc<;>try simp only [vL] at hc)|refine vJ fun hg=>?_|refine vT ?_|((first|refine vO ?_ ?_|refine vS ?_ fun x hx=>?_|refine vP ?_ ?_);·omega)|(refine vU ?_ ?_;·kernel_rfl)|fail));all_goals try conv=>whnf
 all_goals first|(exfalso;omega)|(simp only [zaP, *,if_true,if_false];rfl)|skip
 ·refine key (a:=(zU m.W,true)) (by rw [← hsh];rfl) ?_
  simp only [zaP, *,if_true]
 ·refine key (a:=(x,true)) rfl ?_
  simp only [zaP, *,if_true,if_false,show ¬(m.val.length:Int)≤i by omega,List.getD];simp
 ·refine key (a:=(zU m.W &&& ~~~s,true)) (by rw [← hsh];rfl) ?_
  simp only [zaP, *,if_true,if_false];simp
 ·refine key (a:=(zU m.W &&& ~~~s|||t,true)) (by rw [← hsh];rfl) ?_
  simp only [zaP, *,if_true,if_false];simp
 ·refine key (a:=(zU m.W &&& ~~~(s ^^^ t),true)) (by rw [← hsh];rfl) ?_
  simp only [zaP, *,if_true,if_false];simp
 ·obtain ⟨r1,r2⟩:=hrow hx (by omega) (by omega)
  refine zw.data (zgd (r:=x) s r1) (by (repeat refine ⟨⟨rfl,rfl⟩,?_⟩);rfl) rfl ?_
  (repeat' ((conv=>whnf);refine vT ?_));all_goals try conv=>whnf
  refine key (a:=(zdQ x s,true)) rfl ?_
  simp only [zaP, *,if_true,if_false,show ¬(m.rel.length:Int)≤i by omega];simp
 ·obtain ⟨r1,r2⟩:=hrow hx (by omega) (by omega)
  refine zw.data (zrE (r:=x) s r1) (by (repeat refine ⟨⟨rfl,rfl⟩,?_⟩);rfl) rfl ?_
  (repeat' ((conv=>whnf);refine vT ?_));all_goals try conv=>whnf
  refine key (a:=(znn x s,true)) rfl ?_
  have h10:op=10:=by omega
  subst h10
  rw [show zaP m ⟨10,i,e,(g:Int)⟩ s t=(znn (zb3 m i) s,true) from if_neg (show ¬(m.rel.length:Int)≤i by omega),r2]
 ·refine zjA.fit hp1 ?_
  (repeat' ((conv=>whnf);first|refine vA ?_|(refine vF ?_ ?_<;>intro hc<;>try simp only [vL] at hc)|refine vT ?_|(refine vU ?_ ?_;·kernel_rfl)|fail));all_goals try conv=>whnf
  all_goals first|(exfalso;omega)|skip
  ·refine key (a:=(0#64,false)) rfl ?_
   obtain rfl:op=11:=by omega
   exact (if_pos (show (2:Int) ^ m.rel.length≤(g:Int) by rw [← hp2];assumption)).symm
  ·obtain ⟨g1,g2⟩:=hgg (by omega) (by rw [← hp2];assumption)
   have c1:=cgx g1 g2
   have r1:=hgr g1 g2
   change Fn _ _ _ _ _ (.d (dU (zdC m (g:Int)))) _ at c1
   generalize hG:zdC m (g:Int)=G at c1 r1
   refine zw.dataN (c1) (by (repeat refine ⟨⟨rfl,rfl⟩,?_⟩);rfl) ?_
   (repeat' ((conv=>whnf);first|refine vA ?_|(refine vF ?_ ?_<;>intro hc)|refine vT ?_));all_goals try conv=>whnf
   all_goals first|(exfalso;omega)|skip
   refine zw.data (zgd (r:=G) s r1) (by (repeat refine ⟨⟨rfl,rfl⟩,?_⟩);rfl) rfl ?_
   (repeat' ((conv=>whnf);refine vT ?_));all_goals try conv=>whnf
   subst hG
   refine key (a:=(zdQ (zdC m (g:Int)) s,true)) rfl ?_
   obtain rfl:op=11:=by omega
   exact (if_neg (show ¬(2:Int) ^ m.rel.length≤(g:Int) by omega)).symm
 ·refine zjA.fit hp1 ?_
  (repeat' ((conv=>whnf);first|refine vA ?_|(refine vF ?_ ?_<;>intro hc<;>try simp only [vL] at hc)|refine vT ?_|(refine vU ?_ ?_;·kernel_rfl)|fail));all_goals try conv=>whnf
  all_goals first|(exfalso;omega)|skip
  ·refine key (a:=(0#64,false)) rfl ?_
   obtain rfl:op=12:=by omega
   exact (if_pos (show (2:Int) ^ m.rel.length≤(g:Int) by rw [← hp2];assumption)).symm
  ·obtain ⟨g1,g2⟩:=hgg (by omega) (by rw [← hp2];assumption)
   have c1:=cmx g1 g2
   have r1:=hmr g1 g2
   change Fn _ _ _ _ _ (.d (dU (zit m (g:Int)))) _ at c1
   generalize hG:zit m (g:Int)=G at c1 r1
   refine zw.dataN (c1) (by (repeat refine ⟨⟨rfl,rfl⟩,?_⟩);rfl) ?_
   (repeat' ((conv=>whnf);refine vT ?_));all_goals try conv=>whnf
   all_goals first|(exfalso;omega)|skip
   refine zw.data (zgd (r:=G) s r1) (by (repeat refine ⟨⟨rfl,rfl⟩,?_⟩);rfl) rfl ?_
   (repeat' ((conv=>whnf);refine vT ?_));all_goals try conv=>whnf
   subst hG
   refine key (a:=(zdQ (zit m (g:Int)) s,true)) rfl ?_
   obtain rfl:op=12:=by omega
   exact (if_neg (show ¬(2:Int) ^ m.rel.length≤(g:Int) by omega)).symm
 ·refine zjA.fit hp1 ?_
  (repeat' ((conv=>whnf);first|refine vA ?_|(refine vF ?_ ?_<;>intro hc<;>try simp only [vL] at hc)|refine vT ?_|(refine vU ?_ ?_;·kernel_rfl)|fail));all_goals try conv=>whnf
  all_goals first|(exfalso;omega)|skip
  ·refine key (a:=(0#64,false)) rfl ?_
   obtain rfl:op=13:=by omega
   exact (if_pos (show (2:Int) ^ m.rel.length≤(g:Int) by rw [← hp2];assumption)).symm
  ·obtain ⟨g1,g2⟩:=hgg (by omega) (by rw [← hp2];assumption)
   have c1:=cgx g1 g2
   have r1:=hgr g1 g2
   have l1:=hgl g1 g2
   change Fn _ _ _ _ _ (.d (dU (zdC m (g:Int)))) _ at c1
   generalize hG:zdC m (g:Int)=G at c1 r1 l1
   refine zw.dataN (c1) (by (repeat refine ⟨⟨rfl,rfl⟩,?_⟩);rfl) ?_
   (repeat' ((conv=>whnf);first|refine vA ?_|(refine vF ?_ ?_<;>intro hc)|refine vT ?_));all_goals try conv=>whnf
   all_goals first|(exfalso;omega)|skip
   have hcm:=zws (T:=T) (r:=G) s t r1
   rw [l1,← hsh] at hcm
   refine zw.data (hcm) (by (repeat refine ⟨⟨rfl,rfl⟩,?_⟩);rfl) rfl ?_
   (repeat' ((conv=>whnf);refine vT ?_));all_goals try conv=>whnf
   subst hG
   refine key (a:=(znl (zdC m (g:Int)) s t,true)) rfl ?_
   obtain rfl:op=13:=by omega
   exact (if_neg (show ¬(2:Int) ^ m.rel.length≤(g:Int) by omega)).symm
 all_goals skip
end Go.Ab
namespace Go.Ab
open Go Go.Proofs
set_option maxRecDepth 10000
set_option maxHeartbeats 4000000
variable {T:Nat→Obj→Prop}
theorem zpn {β:Type} (v:Hd→β→β→β) (d:β) (n:Nd) : ∀ (l:List Nd) (acc:List β),zax v d (l++[n]) acc=zax v d l acc++[v n.hd ((zax v d l acc).getD n.x.toNat d) ((zax v d l acc).getD n.y.toNat d)]
 | [],acc=>rfl
 | m::r,acc=>by rw [List.cons_append,zax,zax,zpn v d n r]
theorem zny {α:Type} (l:List α) (n:Nat) (d:α) (i:Nat):(l++List.replicate n d).getD i d=l.getD i d:=by
 rcases Nat.lt_or_ge i l.length with h|h
 ·simp [List.getD,List.getElem?_append_left h]
 ·rw [List.getD,List.getElem?_append_right h,List.getD,List.getElem?_eq_none h]
  rcases Nat.lt_or_ge (i - l.length) n with h2|h2
  ·rw [List.getElem?_replicate,if_pos h2];rfl
  ·rw [List.getElem?_eq_none (by simpa using h2)]
noncomputable def vnK (m:KM) (h:Hd) (a b:BitVec 64×Bool):BitVec 64×Bool :=
 if (4≤h.op→a.2=true)∧(5≤h.op∧h.op≤8∨h.op=13→b.2=true) then zaP m h a.1 b.1 else (0#64,false)
noncomputable def z6 (m:KM) (f:List Nd) (k:Nat):List (BitVec 64×Bool):=zax (vnK m) (0#64,false) (f.take k) []++List.replicate (f.length - k) (0#64,false)
theorem zxa (m:KM) (f:List Nd) {k:Nat} (hk:k≤f.length):(z6 m f k).length=f.length:=by
 unfold z6
 rw [List.length_append,zfL,List.length_replicate,List.length_take];simp;omega
theorem zvN (m:KM) {f:List Nd} {k:Nat} {n:Nd} (hn:f[k]? = some n):z6 m f (k+1)=(z6 m f k).set k (vnK m n.hd ((z6 m f k).getD n.x.toNat (0#64,false)) ((z6 m f k).getD n.y.toNat (0#64,false))):=by
 have hk:k < f.length:=(List.getElem?_eq_some_iff.1 hn).1
 have hl:(zax (vnK m) (0#64,false) (f.take k) []).length=k:=by rw [zfL];simp;omega
 have e:f.length - k=(f.length - (k+1))+1:=by omega
 unfold z6
 rw [zny,zny,List.take_add_one,hn,show (some n).toList=[n] from rfl,zpn,e,List.replicate_succ,List.set_append_right _ _ (by omega),hl,Nat.sub_self,List.set_cons_zero,List.append_assoc]
 rfl
theorem zpj (m:KM) (f:List Nd):z6 m f 0=List.replicate f.length (0#64,false):=rfl
theorem zw9 (m:KM) (f:List Nd):z6 m f f.length=zax (vnK m) (0#64,false) f []:=by
 unfold z6
 rw [List.take_length,Nat.sub_self];simp
def zch (m:KM) (f:List Nd):Int :=
 if zac m≠0 then zac m else if zbi f≠0 then zbi f else if zaU .i64 (fun p q=>p &&& ~~~q) (uni zap (cL f):Int) 15≠0 then 10 else if zcy f m.rel.length m.val.length=false then 2 else 0
theorem zuJ {m:KM} {f:List Nd} (h:zch m f=0):zac m=0∧zbi f=0∧zaU .i64 (fun p q=>p &&& ~~~q) (uni zap (cL f):Int) 15=0∧zcy f m.rel.length m.val.length=true:=by
 unfold zch at h
 split at h
 ·contradiction
 ·split at h
  ·contradiction
  ·split at h
   ·cases h
   ·split at h
    ·cases h
    ·rename_i h1 h2 h3 h4
     exact ⟨by omega,by omega,by omega,by simpa using h4⟩
noncomputable def zie (m:KM) (f:List Nd):List (BitVec 64):=if zch m f≠0 then [] else (zax (vnK m) (0#64,false) f []).map Prod.fst
noncomputable def zgf (m:KM) (f:List Nd):BitVec 64×Int:=if zch m f≠0 then (0#64,zch m f) else (((zax (vnK m) (0#64,false) f []).getD (f.length - 1) (0#64,false)).1,0)
theorem zvu {m:KM} {f:List Nd} (h:zch m f≠0):zgf m f=(0#64,zch m f):=if_pos h
theorem zt2 (m:KM) (f:List Nd):Fn Tryz.prog T zgB [.d (dKM m),.d (dF f)] [] (.d (.int .i64 (zch m f))) []:=by
 refine zb zn zmt (by show 2≤30;decide) ?_
 (repeat' ((conv=>whnf);first|refine vA ?_|refine vE ?_|((first|refine vD ?_ ?_|refine vI ?_ ?_)<;>intro hc<;>try simp only [vL] at hc)|refine vJ fun hg=>?_|refine vT ?_|refine vX ?_|refine yD (zqV _) ⟨⟨rfl,rfl⟩,rfl⟩ rfl ?_|refine yD (zgc _) ⟨⟨rfl,rfl⟩,rfl⟩ rfl ?_|refine yD (zsT _) ⟨⟨rfl,rfl⟩,rfl⟩ rfl ?_|refine yD (zuw _ _ _) ⟨⟨rfl,rfl⟩,⟨rfl,rfl⟩,⟨rfl,rfl⟩,rfl⟩ rfl ?_));all_goals try conv=>whnf
 ·have e:zch m f=zac m:=if_pos ‹_›
  rw [e]
 ·have e:zch m f=zbi f:=by rw [zch,if_neg (by omega),if_pos ‹_›]
  rw [e]
 ·have e:zch m f=10:=by rw [zch,if_neg (by omega),if_neg (by omega),if_pos ‹_›]
  rw [e]
 ·have e:zch m f=0:=by rw [zch,if_neg (by omega),if_neg (by omega),if_neg (by omega),if_neg (by simp [*])]
  rw [e]
 ·have e:zch m f=2:=by rw [zch,if_neg (by omega),if_neg (by omega),if_neg (by omega),if_pos ‹_›]
  rw [e]
theorem zvk {m:KM} (hk0:zac m=0) {n:Nd} {k:Int} (hn:zbM n k=0) (s t:BitVec 64) :
  Fn Tryz.prog T zfi [.d (dKM m),.d (dNd n),.d (.u64 s),.d (.u64 t)] [] (.d (.tup [.u64 (zaP m n.hd s t).1,.bool (zaP m n.hd s t).2])) []:=by
 have hh:=(zaC.1 hn).1
 have hg:0≤n.g∧(11≤n.op∧n.op≤13→1≤n.g):=by
  cases hg:zE n.op with
  | true=>have:1≤n.g∧n.g≤15:=hh.group hg;omega
  | false =>
   have:n.g=0:=hh.g0 hg
   have h2 : ¬(11≤n.op∧n.op≤13):=by simpa [zE] using hg
   omega
 have h3:n.op=3∨n.op=9∨n.op=10→0≤n.i:=fun e=>by
  rcases e with e|e|e
  ·have:0≤n.i∧n.i≤7:=hh.fact (decide_eq_true e)
   omega
  ·have:0≤n.i∧n.i≤3:=hh.agent (decide_eq_true (.inl e))
   omega
  ·have:0≤n.i∧n.i≤3:=hh.agent (decide_eq_true (.inr (.inl e)))
   omega
 clear hh hn
 obtain ⟨op,i,e,g,nx,ny⟩:=n
 dsimp only at hg h3
 obtain ⟨G,rfl⟩ : ∃ G:Nat,g=(G:Int):=⟨g.toNat,by omega⟩
 exact zwt hk0 op i e G nx ny s t h3 (fun h=>by have:=hg.2 h;omega)
theorem zx8 (m:KM) (f:List Nd):Fn Tryz.prog T ziM [.d (dKM m),.d (dF f)] [] (.d (.tup [dU (zie m f),.int .i64 (zch m f)])) []:=by
 have cq:=zt2 (T:=T) m f
 refine zb zn zpX (by show 2≤85;decide) ?_
 by_cases hr:zch m f=0
 ·obtain ⟨hk0,hf0,-,-⟩:=zuJ hr
  obtain ⟨p1,p2,p3⟩:=zd8.1 hf0
  rw [hr] at cq ⊢
  (repeat' ((conv=>whnf);first|refine vA ?_|refine vH ?_|refine vJ fun hg=>?_|refine vT ?_|(refine vP ?_ ?_;·(simp only [vM] at *;omega))|refine yD cq ⟨⟨rfl,rfl⟩,⟨rfl,rfl⟩,rfl⟩ rfl ?_));all_goals try conv=>whnf
  refine zt (fun ((k,zs,bs):Nat×List D×List D)=>[(2,.ptr 0 0),(7,.own 1),(8,.own 2),(24,.d (dF f)),(25,.d (.int .i64 (((f.map dNd).length:Int)))),(26,.d (.int .i64 ((k:Int))))]) (fun ((k,zs,bs):Nat×List D×List D)=>[(0,some (zzc m)),(1,some (.row 1 zs)),(2,some (.row 1 bs))]) 3 (fun ((k,zs,bs):Nat×List D×List D)=>k≤f.length∧zs=(z6 m f k).map (fun p=>D.u64 p.1)∧bs=(z6 m f k).map (fun p=>D.bool p.2)) (fun ((k,zs,bs):Nat×List D×List D)=>f.length - k) ((0,List.replicate ((f.map dNd).length:Int).toNat (.u64 0#64),List.replicate ((f.map dNd).length:Int).toNat (.bool false))) [(0,0),(1,1),(2,2)] [] (⟨by omega,by rw [zpj,List.map_replicate,Int.toNat_natCast,List.length_map],by rw [zpj,List.map_replicate,Int.toNat_natCast,List.length_map]⟩) (by (refine ⟨rfl,rfl,rfl,?_,?_⟩;repeat' first|exact trivial|exact rfl|refine And.intro ?_ ?_|refine ⟨_,rfl,?_⟩|decide)) ?_
  rintro ⟨k,zs,bs⟩ ⟨hk,rfl,rfl⟩
  have hlen:=zxa m f hk
  have hl1:((z6 m f k).map fun p=>D.u64 p.1).length=f.length:=by rw [List.length_map,hlen]
  have hl2:((z6 m f k).map fun p=>D.bool p.2).length=f.length:=by rw [List.length_map,hlen]
  by_cases hkl:k < f.length
  ·obtain ⟨n,hn⟩ : ∃ n,f[k]? = some n:=⟨f[k],by simp [hkl]⟩
   have hst:=zvN m hn
   have hne:=p3 k n hn
   have hxy:=zaC.1 hne
   have hxb:0≤n.x∧n.x < f.length:=by
    cases hu:z7 n.op with
    | true=>have:=hxy.2.1 hu;omega
    | false=>have:=hxy.2.2.1 hu;omega
   have hyb:0≤n.y∧n.y < f.length:=by
    cases hu:zQ n.op with
    | true=>have:=hxy.2.2.2.1 hu;omega
    | false=>have:=hxy.2.2.2.2 hu;omega
   clear hxy
   have yes : ∀ {a b:BitVec 64×Bool},(z6 m f k)[n.x.toNat]? = some a→(z6 m f k)[n.y.toNat]? = some b→(4≤n.op→a.2=true)→(5≤n.op∧n.op≤8∨n.op=13→b.2=true)→z6 m f (k+1)=(z6 m f k).set k (zaP m n.hd a.1 b.1):=fun {a b} ha hb h1 h2=>by
    rw [hst,List.getD,ha,List.getD,hb]
    exact congrArg ((z6 m f k).set k) (if_pos ⟨h1,h2⟩)
   have no:(∀ {a b:BitVec 64×Bool},(z6 m f k)[n.x.toNat]? = some a→(z6 m f k)[n.y.toNat]? = some b → ¬((4≤n.op→a.2=true)∧(5≤n.op∧n.op≤8∨n.op=13→b.2=true)))→z6 m f (k+1)=z6 m f k:=fun h=>by
    obtain ⟨a,ha⟩ : ∃ a,(z6 m f k)[n.x.toNat]? = some a:=⟨_,List.getElem?_eq_getElem (by omega)⟩
    obtain ⟨b,hb⟩ : ∃ b,(z6 m f k)[n.y.toNat]? = some b:=⟨_,List.getElem?_eq_getElem (by omega)⟩
    rw [hst,List.getD,ha,List.getD,hb]
    have e:vnK m n.hd a b=(0#64,false):=if_neg (h ha hb)
    rw [show vnK m n.hd ((some a).getD (0#64,false)) ((some b).getD (0#64,false))=(0#64,false) from e]
    refine List.ext_getElem (by simp) fun i h1 h2=>?_
    rw [List.getElem_set]
    split
    ·rename_i e2
     subst e2
     have:=zny (zax (vnK m) (0#64,false) (f.take k) []) (f.length - k) (0#64,false) k
     rw [List.getD,List.getD,List.getElem?_eq_none (show (zax (vnK m) (0#64,false) (f.take k) []).length≤k by rw [zfL,List.length_take];simp;omega)] at this
     rw [show zax (vnK m) (0#64,false) (f.take k) []++List.replicate (f.length - k) (0#64,false)=z6 m f k from rfl,List.getElem?_eq_getElem h2] at this
     exact this.symm
    ·rfl
   (repeat' ((conv=>whnf);first|refine vA ?_|((first|refine vF ?_ ?_|refine vI ?_ ?_)<;>intro hc<;>try simp only [vL] at hc)|refine vT ?_|refine vN ‹_› ?_|(refine vQ ?_ fun x hx=>?_;·omega)|((first|refine vO ?_ ?_|refine vP ?_ ?_);·omega)|(refine vU ?_ ?_;·kernel_rfl)|refine yN (zvk hk0 hne _ _) (by (repeat refine ⟨⟨rfl,rfl⟩,?_⟩);rfl) ?_));all_goals try conv=>whnf
   all_goals first|(exfalso;omega)|skip
   ·refine ⟨(k+1,_,_),[(0,0),(1,1),(2,2)],[],?_,?_,by (refine ⟨rfl,rfl,rfl,?_,?_⟩;repeat' first|exact trivial|exact rfl|refine And.intro ?_ ?_|refine ⟨_,rfl,?_⟩|decide)⟩
    ·have e:=yes ‹(z6 m f k)[n.x.toNat]? = some _› ‹(z6 m f k)[n.y.toNat]? = some _› (fun _=>by first|assumption|(exfalso;omega)) (fun _=>by first|assumption|(exfalso;omega))
     exact ⟨by (omega),by rw [e,List.map_set];rfl,by rw [e,List.map_set];rfl⟩
    ·((simp only [vM] at *;omega))
   ·refine ⟨(k+1,_,_),[(0,0),(1,1),(2,2)],[],?_,?_,by (refine ⟨rfl,rfl,rfl,?_,?_⟩;repeat' first|exact trivial|exact rfl|refine And.intro ?_ ?_|refine ⟨_,rfl,?_⟩|decide)⟩
    ·have hX:=‹(z6 m f k)[n.y.toNat]? = some _›
     have e:=no fun {a b} ha hb hv=>by
      have e1:=Option.some.inj (hb.symm.trans hX)
      have e2:=hv.2 (by omega)
      rw [e1] at e2
      exact absurd (e2.symm.trans ‹_=false›) (by decide)
     exact ⟨by (omega),by rw [e],by rw [e]⟩
    ·((simp only [vM] at *;omega))
   ·refine ⟨(k+1,_,_),[(0,0),(1,1),(2,2)],[],?_,?_,by (refine ⟨rfl,rfl,rfl,?_,?_⟩;repeat' first|exact trivial|exact rfl|refine And.intro ?_ ?_|refine ⟨_,rfl,?_⟩|decide)⟩
    ·have hX:=‹(z6 m f k)[n.x.toNat]? = some _›
     have e:=no fun {a b} ha hb hv=>by
      have e1:=Option.some.inj (ha.symm.trans hX)
      have e2:=hv.1 (by omega)
      rw [e1] at e2
      exact absurd (e2.symm.trans ‹_=false›) (by decide)
     exact ⟨by (omega),by rw [e],by rw [e]⟩
    ·((simp only [vM] at *;omega))
   ·refine ⟨(k+1,_,_),[(0,0),(1,1),(2,2)],[],?_,?_,by (refine ⟨rfl,rfl,rfl,?_,?_⟩;repeat' first|exact trivial|exact rfl|refine And.intro ?_ ?_|refine ⟨_,rfl,?_⟩|decide)⟩
    ·have e:=yes ‹(z6 m f k)[n.x.toNat]? = some _› ‹(z6 m f k)[n.y.toNat]? = some _› (fun _=>by first|assumption|(exfalso;omega)) (fun _=>by first|assumption|(exfalso;omega))
     exact ⟨by (omega),by rw [e,List.map_set];rfl,by rw [e,List.map_set];rfl⟩
    ·((simp only [vM] at *;omega))
   ·refine ⟨(k+1,_,_),[(0,0),(1,1),(2,2)],[],?_,?_,by (refine ⟨rfl,rfl,rfl,?_,?_⟩;repeat' first|exact trivial|exact rfl|refine And.intro ?_ ?_|refine ⟨_,rfl,?_⟩|decide)⟩
    ·have hX:=‹(z6 m f k)[n.y.toNat]? = some _›
     have e:=no fun {a b} ha hb hv=>by
      have e1:=Option.some.inj (hb.symm.trans hX)
      have e2:=hv.2 (by omega)
      rw [e1] at e2
      exact absurd (e2.symm.trans ‹_=false›) (by decide)
     exact ⟨by (omega),by rw [e],by rw [e]⟩
    ·((simp only [vM] at *;omega))
   ·refine ⟨(k+1,_,_),[(0,0),(1,1),(2,2)],[],?_,?_,by (refine ⟨rfl,rfl,rfl,?_,?_⟩;repeat' first|exact trivial|exact rfl|refine And.intro ?_ ?_|refine ⟨_,rfl,?_⟩|decide)⟩
    ·have hX:=‹(z6 m f k)[n.x.toNat]? = some _›
     have e:=no fun {a b} ha hb hv=>by
      have e1:=Option.some.inj (ha.symm.trans hX)
      have e2:=hv.1 (by omega)
      rw [e1] at e2
      exact absurd (e2.symm.trans ‹_=false›) (by decide)
     exact ⟨by (omega),by rw [e],by rw [e]⟩
    ·((simp only [vM] at *;omega))
   ·refine ⟨(k+1,_,_),[(0,0),(1,1),(2,2)],[],?_,?_,by (refine ⟨rfl,rfl,rfl,?_,?_⟩;repeat' first|exact trivial|exact rfl|refine And.intro ?_ ?_|refine ⟨_,rfl,?_⟩|decide)⟩
    ·have e:=yes ‹(z6 m f k)[n.x.toNat]? = some _› ‹(z6 m f k)[n.y.toNat]? = some _› (fun _=>by first|assumption|(exfalso;omega)) (fun _=>by first|assumption|(exfalso;omega))
     exact ⟨by (omega),by rw [e,List.map_set];rfl,by rw [e,List.map_set];rfl⟩
    ·((simp only [vM] at *;omega))
   ·refine ⟨(k+1,_,_),[(0,0),(1,1),(2,2)],[],?_,?_,by (refine ⟨rfl,rfl,rfl,?_,?_⟩;repeat' first|exact trivial|exact rfl|refine And.intro ?_ ?_|refine ⟨_,rfl,?_⟩|decide)⟩
    ·have hX:=‹(z6 m f k)[n.x.toNat]? = some _›
     have e:=no fun {a b} ha hb hv=>by
      have e1:=Option.some.inj (ha.symm.trans hX)
      have e2:=hv.1 (by omega)
      rw [e1] at e2
      exact absurd (e2.symm.trans ‹_=false›) (by decide)
     exact ⟨by (omega),by rw [e],by rw [e]⟩
    ·((simp only [vM] at *;omega))
   ·refine ⟨(k+1,_,_),[(0,0),(1,1),(2,2)],[],?_,?_,by (refine ⟨rfl,rfl,rfl,?_,?_⟩;repeat' first|exact trivial|exact rfl|refine And.intro ?_ ?_|refine ⟨_,rfl,?_⟩|decide)⟩
    ·have e:=yes ‹(z6 m f k)[n.x.toNat]? = some _› ‹(z6 m f k)[n.y.toNat]? = some _› (fun _=>by first|assumption|(exfalso;omega)) (fun _=>by first|assumption|(exfalso;omega))
     exact ⟨by (omega),by rw [e,List.map_set];rfl,by rw [e,List.map_set];rfl⟩
    ·((simp only [vM] at *;omega))
   ·refine ⟨(k+1,_,_),[(0,0),(1,1),(2,2)],[],?_,?_,by (refine ⟨rfl,rfl,rfl,?_,?_⟩;repeat' first|exact trivial|exact rfl|refine And.intro ?_ ?_|refine ⟨_,rfl,?_⟩|decide)⟩
    ·have hX:=‹(z6 m f k)[n.x.toNat]? = some _›
     have e:=no fun {a b} ha hb hv=>by
      have e1:=Option.some.inj (ha.symm.trans hX)
      have e2:=hv.1 (by omega)
      rw [e1] at e2
      exact absurd (e2.symm.trans ‹_=false›) (by decide)
     exact ⟨by (omega),by rw [e],by rw [e]⟩
    ·((simp only [vM] at *;omega))
   ·refine ⟨(k+1,_,_),[(0,0),(1,1),(2,2)],[],?_,?_,by (refine ⟨rfl,rfl,rfl,?_,?_⟩;repeat' first|exact trivial|exact rfl|refine And.intro ?_ ?_|refine ⟨_,rfl,?_⟩|decide)⟩
    ·have e:=yes ‹(z6 m f k)[n.x.toNat]? = some _› ‹(z6 m f k)[n.y.toNat]? = some _› (fun _=>by first|assumption|(exfalso;omega)) (fun _=>by first|assumption|(exfalso;omega))
     exact ⟨by (omega),by rw [e,List.map_set];rfl,by rw [e,List.map_set];rfl⟩
    ·((simp only [vM] at *;omega))
   all_goals skip
  ·obtain rfl:k=f.length:=by omega
   (repeat' ((conv=>whnf);first|refine vA ?_|((first|refine vF ?_ ?_|refine vI ?_ ?_)<;>intro hc<;>try simp only [vL] at hc)|refine vT ?_|refine vN ‹_› ?_|(refine vQ ?_ fun x hx=>?_;·omega)|((first|refine vO ?_ ?_|refine vP ?_ ?_);·omega)|fail));all_goals try conv=>whnf
   all_goals first|(exfalso;omega)|skip
   rw [zie,if_neg (by omega),zw9]
   exact congrArg (fun l=>some (D.tup [.arr 1 l,.int .i64 0])) (List.map_map (f:=Prod.fst) (g:=D.u64)).symm
 ·(repeat' ((conv=>whnf);first|refine vA ?_|(refine vD ?_ ?_<;>intro hc)|refine vJ fun hg=>?_|refine vT ?_|(refine vP ?_ ?_;·omega)|refine yD cq ⟨⟨rfl,rfl⟩,⟨rfl,rfl⟩,rfl⟩ rfl ?_));all_goals try conv=>whnf
  ·rw [zie,if_pos hr];rfl
  ·exact absurd hc hr
theorem zBl (m:KM) (f:List Nd):Fn Tryz.prog T zhU [.d (dKM m),.d (dF f)] [] (.d (.tup [.u64 (zgf m f).1,.int .i64 (zgf m f).2])) []:=by
 have cs:=zx8 (T:=T) m f
 refine zb zn zoU (by show 2≤23;decide) ?_
 by_cases hr:zch m f=0
 ·obtain ⟨hk0,hf0,-,-⟩:=zuJ hr
  obtain ⟨p1,p2,p3⟩:=zd8.1 hf0
  have hl:(zie m f).length=f.length:=by rw [zie,if_neg (by omega),List.length_map,zfL];simp
  have e:zgf m f=((zie m f).getD (f.length - 1) 0#64,0):=by
   rw [zgf,zie,if_neg (by omega),if_neg (by omega)]
   congr 1
   simp only [List.getD,List.getElem?_map]
   cases (zax (vnK m) (0#64,false) f [])[f.length - 1]? <;> rfl
  rw [hr] at cs
  rw [e]
  generalize zie m f=S at *
  (repeat' ((conv=>whnf);first|refine vA ?_|refine vH ?_|refine vJ fun hg=>?_|refine vT ?_|((first|refine vO ?_ ?_|refine vS ?_ fun x hx=>?_);·(simp only [vM] at *;omega))|refine yN cs ⟨⟨rfl,rfl⟩,⟨rfl,rfl⟩,rfl⟩ ?_));all_goals try conv=>whnf
  all_goals first|(exfalso;omega)|skip
  have e3:S.getD (f.length - 1) 0#64=x:=by
   rw [List.getD,show f.length - 1=(((S.map D.u64).length:Int) - 1).toNat by rw [List.length_map];omega,hx];rfl
  rw [e3]
  rfl
 ·have e:=zvu hr
  rw [e]
  (repeat' ((conv=>whnf);first|refine vA ?_|(refine vD ?_ ?_<;>intro hc)|refine vJ fun hg=>?_|refine vT ?_|((first|refine vO ?_ ?_|refine vS ?_ fun x hx=>?_);·omega)|refine yN cs ⟨⟨rfl,rfl⟩,⟨rfl,rfl⟩,rfl⟩ ?_));all_goals try conv=>whnf
  all_goals first|exact absurd ‹zch m f=0› hr|rfl
end Go.Ab
namespace Go.Ab
open Go
theorem zy4 (m:KM):zuV (vnK m) where
 x h a b c hx:=by
  have hx : ¬(4≤h.op∧h.op≤21):=by simpa [z7] using hx
  unfold vnK zaP
  by_cases h4:4≤h.op
  ·have e : ∀ k:Int,k≤21 → ¬h.op=k:=fun k hk=>by omega
   simp only [e 1 (by decide),e 2 (by decide),e 3 (by decide),e 4 (by decide),e 5 (by decide),e 6 (by decide),e 7 (by decide),e 8 (by decide),e 9 (by decide),e 10 (by decide),e 11 (by decide),e 12 (by decide),e 13 (by decide),if_false,ite_self]
  ·have e : ∀ k:Int,4≤k → ¬h.op=k:=fun k hk=>by omega
   simp only [h4,e 4 (by decide),e 5 (by decide),e 6 (by decide),e 7 (by decide),e 8 (by decide),e 9 (by decide),e 10 (by decide),e 11 (by decide),e 12 (by decide),e 13 (by decide),if_false,false_imp_iff,true_and]
 y h a b c hy:=by
  have hy : ¬(5≤h.op∧h.op≤8∨h.op=13∨h.op=14∨h.op=16∨h.op=19∨h.op=21):=by simpa [zQ] using hy
  have h5 : ¬(5≤h.op∧h.op≤8∨h.op=13):=by omega
  unfold vnK zaP
  simp only [h5,false_imp_iff,and_true]
  simp only [show ¬h.op=5 by omega,show ¬h.op=6 by omega,show ¬h.op=7 by omega,show ¬h.op=8 by omega,show ¬h.op=13 by omega,if_false]
def zBm (m:KM) (t:Tm) (w:Nat):Prop:=ev (zAO m.W.toNat (zcN m) fun i w=>(m.val.getD i 0#64).getLsbD w=true) (fun _=>False) t w
structure zii (m:KM) (h:Hd):Prop where
 op:1≤h.op∧h.op≤13
 fact:h.op=3→0≤h.i∧h.i < m.val.length
 agent:h.op=9∨h.op=10→0≤h.i∧h.i < m.rel.length
 group:11≤h.op∧h.op≤13→1≤h.g∧h.g.toNat < 2 ^ m.rel.length
theorem zjt {m:KM} {i:Int} {w u:Nat} (hi:0≤i∧i < m.rel.length):rb (zb3 m i) w u=true↔zeU (zcN m) i.toNat w u:=by
 have hl:i.toNat < m.rel.length:=by omega
 unfold zeU zcN zb3
 rw [List.getD,List.getElem?_eq_getElem hl]
 constructor
 ·intro h;exact ⟨_,by rw [List.getElem?_map,List.getElem?_eq_getElem hl];rfl,h⟩
 ·rintro ⟨r,h1,h2⟩
  rw [List.getElem?_map,List.getElem?_eq_getElem hl] at h1
  obtain rfl:=(Option.some.inj h1).symm
  exact h2
theorem zuK {m:KM} (g:zeH m) {i:Int} (hi:0≤i∧i < m.rel.length):zas (zb3 m i)=0∧(zb3 m i).length=m.W.toNat:=by
 have hl:i.toNat < m.rel.length:=by omega
 have hm:zb3 m i∈m.rel:=by unfold zb3;rw [List.getD,List.getElem?_eq_getElem hl];exact List.getElem_mem _
 have h1:=g.len _ hm
 have w1:=g.w1
 have w2:=g.w2
 refine ⟨zbI.2 ⟨by show (zb3 m i).length≤64;omega,fun v w hb=>?_⟩,by omega⟩
 have:w < m.W.toNat:=zjY g (i:=i.toNat) (v:=v) hb
 omega
theorem zmc {m:KM} (g:zeH m) {a w u:Nat} (h:zeU (zcN m) a w u):w < m.W.toNat∧u < m.W.toNat∧a < m.rel.length:=by
 obtain ⟨r,h1,h2⟩:=h
 have ha:a < m.rel.length:=by have:=(List.getElem?_eq_some_iff.1 h1).1;rwa [zyE] at this
 have hb:(zmb m a w).getLsbD u=true:=by rw [zw4 h1];exact h2
 refine ⟨?_,zjY g hb,ha⟩
 refine Nat.lt_of_not_le fun hw=>?_
 unfold zmb at hb
 rw [List.getD,List.getElem?_eq_none (by
  rw [List.getD,List.getElem?_eq_getElem ha]
  have:=g.len _ (List.getElem_mem ha)
  show (m.rel[a]).length≤w;omega)] at hb
 simp at hb
theorem zwE {m:KM} (hg:zeH m) {g:Nat} : ∀ {k:Nat},k≤m.rel.length→(zaA (fun x y=>x|||y) m g k=none → ∀ a,a < k→g.testBit a=false) ∧ ∀ r,zaA (fun x y=>x|||y) m g k=some r → ∀ w u,w < m.W.toNat→(rb r w u=true ↔ ∃ a,a < k∧g.testBit a=true∧zeU (zcN m) a w u)
 | 0,_=>⟨fun _ a h=>by omega,fun r h=>by cases h⟩
 | k+1,hk=>by
  have ih:=zwE hg (g:=g) (k:=k) (by omega)
  have hrow : ∀ w u,rb (m.rel.getD k []) w u=true↔zeU (zcN m) k w u:=fun w u=>by
   have:=zjt (m:=m) (i:=(k:Int)) (w:=w) (u:=u) ⟨by omega,by omega⟩
   rwa [zb3,Int.toNat_natCast] at this
  rw [zaA]
  by_cases hb:g.testBit k=true
  ·rw [if_pos hb]
   cases hz:zaA (fun x y=>x|||y) m g k with
   | none =>
    refine ⟨fun h=>(by cases h),fun r h w u _=>?_⟩
    obtain rfl:=(Option.some.inj h).symm
    rw [hrow]
    constructor
    ·intro h1;exact ⟨k,by omega,hb,h1⟩
    ·rintro ⟨a,h1,h2,h3⟩
     by_cases e:a=k
     ·subst e;exact h3
     ·have:=ih.1 hz a (by omega);rw [h2] at this;cases this
   | some s =>
    refine ⟨fun h=>(by cases h),fun r h w u hw=>?_⟩
    obtain rfl:=(Option.some.inj h).symm
    have e:rb ((List.range m.W.toNat).map fun w=>s.getD w 0#64|||(m.rel.getD k []).getD w 0#64) w u=(rb s w u||rb (m.rel.getD k []) w u):=by
     unfold rb
     rw [List.getD,List.getElem?_map,List.getElem?_range hw]
     show (s.getD w 0#64|||_).getLsbD u=_
     rw [BitVec.getLsbD_or]
    rw [e,Bool.or_eq_true,hrow,ih.2 s hz w u hw]
    constructor
    ·rintro (⟨a,h1,h2⟩|h1)
     ·exact ⟨a,by omega,h2⟩
     ·exact ⟨k,by omega,hb,h1⟩
    ·rintro ⟨a,h1,h2,h3⟩
     by_cases e:a=k
     ·subst e;exact .inr h3
     ·exact .inl ⟨a,by omega,h2,h3⟩
  ·rw [if_neg hb]
   have hb:g.testBit k=false:=by simpa using hb
   refine ⟨fun h a ha=>?_,fun r h w u hw=>?_⟩
   ·by_cases e:a=k
    ·subst e;exact hb
    ·exact ih.1 h a (by omega)
   ·rw [ih.2 r h w u hw]
    constructor
    ·rintro ⟨a,h1,h2⟩;exact ⟨a,by omega,h2⟩
    ·rintro ⟨a,h1,h2,h3⟩
     refine ⟨a,?_,h2,h3⟩
     rcases Nat.lt_or_ge a k with h|h
     ·exact h
     ·have:a=k:=by omega
      subst this;rw [h2] at hb;cases hb
theorem zwP {m:KM} (hg:zeH m) {g:Nat} : ∀ {k:Nat},k≤m.rel.length→(zaA (fun x y=>x&&&y) m g k=none → ∀ a,a < k→g.testBit a=false) ∧ ∀ r,zaA (fun x y=>x&&&y) m g k=some r → ∀ w u,w < m.W.toNat→(rb r w u=true ↔ ∀ a,a < k→g.testBit a=true→zeU (zcN m) a w u)
 | 0,_=>⟨fun _ a h=>by omega,fun r h=>by cases h⟩
 | k+1,hk=>by
  have ih:=zwP hg (g:=g) (k:=k) (by omega)
  have hrow : ∀ w u,rb (m.rel.getD k []) w u=true↔zeU (zcN m) k w u:=fun w u=>by
   have:=zjt (m:=m) (i:=(k:Int)) (w:=w) (u:=u) ⟨by omega,by omega⟩
   rwa [zb3,Int.toNat_natCast] at this
  rw [zaA]
  by_cases hb:g.testBit k=true
  ·rw [if_pos hb]
   cases hz:zaA (fun x y=>x&&&y) m g k with
   | none =>
    refine ⟨fun h=>(by cases h),fun r h w u _=>?_⟩
    obtain rfl:=(Option.some.inj h).symm
    rw [hrow]
    constructor
    ·intro h1 a h2 h3
     by_cases e:a=k
     ·subst e;exact h1
     ·have:=ih.1 hz a (by omega);rw [h3] at this;cases this
    ·intro h;exact h k (by omega) hb
   | some s =>
    refine ⟨fun h=>(by cases h),fun r h w u hw=>?_⟩
    obtain rfl:=(Option.some.inj h).symm
    have e:rb ((List.range m.W.toNat).map fun w=>s.getD w 0#64&&&(m.rel.getD k []).getD w 0#64) w u=(rb s w u&&rb (m.rel.getD k []) w u):=by
     unfold rb
     rw [List.getD,List.getElem?_map,List.getElem?_range hw]
     show (s.getD w 0#64&&&_).getLsbD u=_
     rw [BitVec.getLsbD_and]
    rw [e,Bool.and_eq_true,hrow,ih.2 s hz w u hw]
    constructor
    ·rintro ⟨h1,h2⟩ a h3 h4
     by_cases e:a=k
     ·subst e;exact h2
     ·exact h1 a (by omega) h4
    ·intro h;exact ⟨fun a h1 h2=>h a (by omega) h2,h k (by omega) hb⟩
  ·rw [if_neg hb]
   have hb:g.testBit k=false:=by simpa using hb
   refine ⟨fun h a ha=>?_,fun r h w u hw=>?_⟩
   ·by_cases e:a=k
    ·subst e;exact hb
    ·exact ih.1 h a (by omega)
   ·rw [ih.2 r h w u hw]
    constructor
    ·intro H a h1 h2
     refine H a ?_ h2
     rcases Nat.lt_or_ge a k with h|h
     ·exact h
     ·have:a=k:=by omega
      subst this;rw [h2] at hb;cases hb
    ·intro H a h1 h2;exact H a (by omega) h2
theorem zl6 {m:KM} (hg:zeH m) {g:Int} (h:1≤g∧g.toNat < 2 ^ m.rel.length) {w u:Nat} (hw:w < m.W.toNat):rb (zdC m g) w u=true↔znW m.W.toNat (zcN m) g.toNat w u:=by
 obtain ⟨r,hr⟩:=zjX (op:=fun x y=>x|||y) (m:=m) (zkO (g:=g.toNat) (by omega) h.2)
 unfold zdC
 rw [hr,Option.getD_some,(zwE hg (Nat.le_refl _)).2 r hr w u hw]
 unfold znW
 constructor
 ·rintro ⟨a,h1,h2,h3⟩;exact ⟨(zmc hg h3).2.1,a,h2,h3⟩
 ·rintro ⟨-,a,h2,h3⟩;exact ⟨a,(zmc hg h3).2.2,h2,h3⟩
theorem zuE {m:KM} (hg:zeH m) {g:Int} (h:1≤g∧g.toNat < 2 ^ m.rel.length) {w u:Nat} (hw:w < m.W.toNat):rb (zit m g) w u=true ↔ ∀ a,g.toNat.testBit a=true→zeU (zcN m) a w u:=by
 obtain ⟨r,hr⟩:=zjX (op:=fun x y=>x&&&y) (m:=m) (zkO (g:=g.toNat) (by omega) h.2)
 unfold zit
 rw [hr,Option.getD_some,(zwP hg (Nat.le_refl _)).2 r hr w u hw]
 constructor
 ·intro H a h2
  refine H a (Nat.lt_of_not_le fun hn=>?_) h2
  rw [Nat.testBit_lt_two_pow (Nat.lt_of_lt_of_le h.2 (Nat.pow_le_pow_right (by decide) hn))] at h2
  cases h2
 ·intro H a _ h2;exact H a h2
theorem zwF {m:KM} (hk0:zac m=0) {g:Int} (h:1≤g∧g.toNat < 2 ^ m.rel.length):zas (zdC m g)=0∧(zdC m g).length=m.W.toNat:=zi6 hk0 zvF (by omega) h.2
theorem zAH {m:KM} (hk0:zac m=0) {g:Int} (h:1≤g∧g.toNat < 2 ^ m.rel.length):zas (zit m g)=0∧(zit m g).length=m.W.toNat:=zi6 hk0 zv3 (by omega) h.2
theorem zmY {r:List (BitVec 64)} (h0:zas r=0) {w u:Nat} (h:rb r w u=true):u < r.length:=(zbI.1 h0).2 w u h
theorem zsz {S S':Nat→Nat→Prop} {c c':Nat→Prop} {n w:Nat} (hw:w < n) (hS : ∀ a b,a < n→S a b→b < n∧S' a b) (hc : ∀ a,a < n→c a→c' a) {u:Nat} (h:CPt S c w u):u < n∧CPt S' c' w u:=by
 induction h with
 | one a b=>exact ⟨(hS _ _ hw a).1,.one (hS _ _ hw a).2 (hc _ (hS _ _ hw a).1 b)⟩
 | more _ a b ih=>exact ⟨(hS _ _ ih.1 a).1,.more ih.2 (hS _ _ ih.1 a).2 (hc _ (hS _ _ ih.1 a).1 b)⟩
theorem zqy {m:KM} (hk0:zac m=0) {h:Hd} (hf:zii m h) {x y:BitVec 64} {X Y:Nat→Prop} (hx : ∀ u,x.getLsbD u=true↔u < m.W.toNat∧X u) (hy : ∀ u,y.getLsbD u=true↔u < m.W.toNat∧Y u) :
  (zaP m h x y).2=true ∧ ∀ w,(zaP m h x y).1.getLsbD w=true↔w < m.W.toNat∧zAO m.W.toNat (zcN m) (fun i w=>(m.val.getD i 0#64).getLsbD w=true) h X Y w:=by
 have g:=zfX hk0
 have w1:=g.w1
 have w2:=g.w2
 have hall : ∀ w,(zU m.W).getLsbD w=true↔w < m.W.toNat:=fun w=>by
  rcases Nat.lt_or_ge w 64 with h|h
  ·rw [zdd (by omega) h,decide_eq_true_eq];omega
  ·rw [BitVec.getLsbD_of_ge _ _ h];constructor
   ·intro h;cases h
   ·intro _;omega
 have hnx : ∀ (z:BitVec 64) w,w < m.W.toNat→((~~~z).getLsbD w=true ↔ ¬z.getLsbD w=true):=fun z w hw=>by
  rw [BitVec.getLsbD_not,decide_eq_true (show w < 64 by omega)];simp
 have hbox : ∀ {r:List (BitVec 64)} {Rr:Nat→Nat→Prop},zas r=0→r.length=m.W.toNat→(∀ w u,w < m.W.toNat→(rb r w u=true↔Rr w u)) → ∀ w,(zdQ r x).getLsbD w=true↔w < m.W.toNat ∧ ∀ u,Rr w u→X u:=fun {r Rr} h0 hl hr w=>by
  rw [zjM (by omega),hl]
  refine and_congr_right fun hw=>forall_congr' fun u=>?_
  rw [hr w u hw]
  refine forall_congr' fun hu=>?_
  rw [hx]
  have:=zmY h0 ((hr w u hw).2 hu)
  exact ⟨fun h=>h.2,fun h=>⟨by omega,h⟩⟩
 have key : ∀ {P:Prop} {z:BitVec 64} {w:Nat},(w < m.W.toNat→(z.getLsbD w=true↔P))→(z.getLsbD w=true→w < m.W.toNat)→(z.getLsbD w=true↔w < m.W.toNat∧P):=fun h1 h2=>⟨fun h=>⟨h2 h,(h1 (h2 h)).1 h⟩,fun h=>(h1 h.1).2 h.2⟩
 have hxl : ∀ w,x.getLsbD w=true→w < m.W.toNat:=fun w h=>((hx w).1 h).1
 have hyl : ∀ w,y.getLsbD w=true→w < m.W.toNat:=fun w h=>((hy w).1 h).1
 have hxX : ∀ w,w < m.W.toNat→(x.getLsbD w=true↔X w):=fun w hw=>(hx w).trans ⟨fun h=>h.2,fun h=>⟨hw,h⟩⟩
 have hyY : ∀ w,w < m.W.toNat→(y.getLsbD w=true↔Y w):=fun w hw=>(hy w).trans ⟨fun h=>h.2,fun h=>⟨hw,h⟩⟩
 obtain ⟨o1,o2⟩:=hf.op
 have f1:=hf.fact
 have f2:=hf.agent
 have f3:=hf.group
 clear hf
 obtain ⟨op,i,e,G⟩:=h
 dsimp only at o1 o2 f1 f2 f3
 have hop:op=1∨op=2∨op=3∨op=4∨op=5∨op=6∨op=7∨op=8∨op=9∨op=10∨op=11∨op=12∨op=13:=by omega
 rcases hop with rfl|rfl|rfl|rfl|rfl|rfl|rfl|rfl|rfl|rfl|rfl|rfl|rfl
 ·refine ⟨rfl,fun w=>?_⟩
  show (zU m.W).getLsbD w=true↔w < m.W.toNat∧True
  rw [hall,and_true]
 ·refine ⟨rfl,fun w=>?_⟩
  show (0#64).getLsbD w=true↔w < m.W.toNat∧False
  simp
 ·have hi:=f1 rfl
  have hil:i.toNat < m.val.length:=by omega
  have hm:m.val.getD i.toNat 0#64∈m.val:=by rw [List.getD,List.getElem?_eq_getElem hil];exact List.getElem_mem _
  have e1:zaP m ⟨3,i,e,G⟩ x y=(m.val.getD i.toNat 0#64,true):=if_neg (show ¬(m.val.length:Int)≤i by omega)
  rw [e1]
  refine ⟨rfl,fun w=>?_⟩
  show (m.val.getD i.toNat 0#64).getLsbD w=true↔w < m.W.toNat∧(m.val.getD i.toNat 0#64).getLsbD w=true
  exact key (fun _=>Iff.rfl) fun h1=>by have:=(zps (by omega)).1 (g.val _ hm) w h1;omega
 ·refine ⟨rfl,fun w=>?_⟩
  show (zU m.W &&& ~~~x).getLsbD w=true↔w < m.W.toNat ∧ ¬X w
  rw [BitVec.getLsbD_and,Bool.and_eq_true,hall]
  exact and_congr_right fun hw=>by rw [hnx x w hw,hxX w hw]
 ·refine ⟨rfl,fun w=>?_⟩
  show (x&&&y).getLsbD w=true↔w < m.W.toNat∧(X w∧Y w)
  rw [BitVec.getLsbD_and,Bool.and_eq_true,hx,hy]
  exact ⟨fun h=>⟨h.1.1,h.1.2,h.2.2⟩,fun h=>⟨⟨h.1,h.2.1⟩,h.1,h.2.2⟩⟩
 ·refine ⟨rfl,fun w=>?_⟩
  show (x|||y).getLsbD w=true↔w < m.W.toNat∧(X w∨Y w)
  rw [BitVec.getLsbD_or,Bool.or_eq_true,hx,hy,and_or_left]
 ·refine ⟨rfl,fun w=>?_⟩
  show (zU m.W &&& ~~~x|||y).getLsbD w=true↔w < m.W.toNat∧(X w→Y w)
  rw [BitVec.getLsbD_or,Bool.or_eq_true,BitVec.getLsbD_and,Bool.and_eq_true,hall]
  constructor
  ·rintro (⟨h1,h2⟩|h2)
   ·exact ⟨h1,fun h=>absurd ((hxX w h1).2 h) ((hnx x w h1).1 h2)⟩
   ·exact ⟨hyl w h2,fun _=>((hy w).1 h2).2⟩
  ·rintro ⟨h1,h2⟩
   by_cases h:X w
   ·exact .inr ((hyY w h1).2 (h2 h))
   ·exact .inl ⟨h1,(hnx x w h1).2 fun h3=>h ((hxX w h1).1 h3)⟩
 ·refine ⟨rfl,fun w=>?_⟩
  show (zU m.W &&& ~~~(x ^^^ y)).getLsbD w=true↔w < m.W.toNat∧(X w↔Y w)
  rw [BitVec.getLsbD_and,Bool.and_eq_true,hall]
  refine and_congr_right fun hw=>?_
  rw [hnx _ w hw,BitVec.getLsbD_xor,← hxX w hw,← hyY w hw]
  cases x.getLsbD w<;>cases y.getLsbD w<;>decide
 ·have hi:=f2 (.inl rfl)
  obtain ⟨r1,r2⟩:=zuK g hi
  have e1:zaP m ⟨9,i,e,G⟩ x y=(zdQ (zb3 m i) x,true):=if_neg (show ¬(m.rel.length:Int)≤i by omega)
  rw [e1]
  refine ⟨rfl,fun w=>?_⟩
  show _↔w < m.W.toNat ∧ ∀ u,u < m.W.toNat→zeU (zcN m) i.toNat w u→X u
  rw [hbox r1 r2 (fun w u _=>zjt hi)]
  exact and_congr_right fun hw=>forall_congr' fun u=>⟨fun h _=>h,fun h h2=>h (zmc g h2).2.1 h2⟩
 ·have hi:=f2 (.inr rfl)
  obtain ⟨r1,r2⟩:=zuK g hi
  have e1:zaP m ⟨10,i,e,G⟩ x y=(znn (zb3 m i) x,true):=if_neg (show ¬(m.rel.length:Int)≤i by omega)
  rw [e1]
  refine ⟨rfl,fun w=>?_⟩
  show _↔w < m.W.toNat ∧ ∃ u,u < m.W.toNat∧zeU (zcN m) i.toNat w u∧X u
  unfold znn
  rw [r2,show ((m.W.toNat:Nat):Int)=m.W by omega,BitVec.getLsbD_and,Bool.and_eq_true,hall]
  refine and_congr_right fun hw=>?_
  rw [hnx _ w hw,zjM (by omega),r2]
  constructor
  ·intro hn
   refine Classical.byContradiction fun hc=>hn ⟨hw,fun u hu=>?_⟩
   have hu2:=(zjt hi).1 hu
   have hul:=(zmc g hu2).2.1
   exact (hnx x u hul).2 fun h=>hc ⟨u,hul,hu2,(hxX u hul).1 h⟩
  ·rintro ⟨u,hul,hu,hX⟩ ⟨-,H⟩
   exact (hnx x u hul).1 (H u ((zjt hi).2 hu)) ((hxX u hul).2 hX)
 ·have hi:=f3 (by omega)
  obtain ⟨r1,r2⟩:=zwF hk0 hi
  have hp:((2 ^ m.rel.length:Nat):Int)=(2:Int) ^ m.rel.length:=by simp
  have e1:zaP m ⟨11,i,e,G⟩ x y=(zdQ (zdC m G) x,true):=if_neg (show ¬(2:Int) ^ m.rel.length≤G by omega)
  rw [e1]
  refine ⟨rfl,fun w=>?_⟩
  show _↔w < m.W.toNat ∧ ∀ u,znW m.W.toNat (zcN m) G.toNat w u→X u
  rw [hbox r1 r2 (fun w u hw=>zl6 g hi hw)]
 ·have hi:=f3 (by omega)
  obtain ⟨r1,r2⟩:=zAH hk0 hi
  have hp:((2 ^ m.rel.length:Nat):Int)=(2:Int) ^ m.rel.length:=by simp
  have e1:zaP m ⟨12,i,e,G⟩ x y=(zdQ (zit m G) x,true):=if_neg (show ¬(2:Int) ^ m.rel.length≤G by omega)
  rw [e1]
  refine ⟨rfl,fun w=>?_⟩
  show _↔w < m.W.toNat ∧ ∀ u,u < m.W.toNat→(∀ a,G.toNat.testBit a=true→zeU (zcN m) a w u)→X u
  rw [hbox r1 r2 (fun w u hw=>zuE g hi hw)]
  refine and_congr_right fun hw=>forall_congr' fun u=>⟨fun h _=>h,fun h h2=>h ?_ h2⟩
  have:=zmY r1 ((zuE g hi hw).2 h2)
  omega
 ·have hi:=f3 (by omega)
  obtain ⟨r1,r2⟩:=zwF hk0 hi
  have hp:((2 ^ m.rel.length:Nat):Int)=(2:Int) ^ m.rel.length:=by simp
  have e1:zaP m ⟨13,i,e,G⟩ x y=(znl (zdC m G) x y,true):=if_neg (show ¬(2:Int) ^ m.rel.length≤G by omega)
  rw [e1]
  refine ⟨rfl,fun w=>?_⟩
  show _↔w < m.W.toNat ∧ ∀ u,CPt (znW m.W.toNat (zcN m) G.toNat) X w u→Y u
  unfold znl
  rw [zid (by omega),r2,@decide_eq_true_eq _ (Classical.propDecidable _)]
  refine and_congr_right fun hw=>?_
  unfold zxF
  constructor
  ·intro H u hu
   obtain ⟨h1,h2⟩:=zsz (S':=fun a b=>rb (zdC m G) a b=true) (c':=fun u=>x.getLsbD u=true) hw (fun a b ha hab=>⟨hab.1,(zl6 g hi ha).2 hab⟩) (fun a ha h=>(hxX a ha).2 h) hu
   exact (hyY u h1).1 (H u h2)
  ·intro H u hu
   obtain ⟨h1,h2⟩:=zsz (S':=znW m.W.toNat (zcN m) G.toNat) (c':=X) hw (fun a b ha hab=>⟨((zl6 g hi ha).1 hab).1,(zl6 g hi ha).1 hab⟩) (fun a ha h=>(hxX a ha).1 h) hu
   exact (hyY u h1).2 (H u h2)
theorem zhq {m:KM} (hk0:zac m=0) : ∀ (t:Tm),t.ok→t.all (zii m)→(ev (vnK m) (0#64,false) t).2=true ∧ ∀ w,(ev (vnK m) (0#64,false) t).1.getLsbD w=true↔w < m.W.toNat∧zBm m t w
 | .z h,h1,h2=>by
  have h4 : ¬(4≤h.op∧h.op≤21):=by simpa [z7] using h1.2.1
  have hop:=h2.op
  have hd : ∀ u,(0#64).getLsbD u=true↔u < m.W.toNat∧False:=fun u=>by simp
  have e:ev (vnK m) (0#64,false) (.z h)=zaP m h 0#64 0#64:=if_pos ⟨fun h=>by omega,fun h=>by omega⟩
  rw [e]
  exact zqy hk0 h2 hd hd
 | .u h x,h1,h2=>by
  obtain ⟨a1,a2⟩:=zhq hk0 x h1.2.2.2 h2.2
  have h5 : ¬(5≤h.op∧h.op≤8∨h.op=13∨h.op=14∨h.op=16∨h.op=19∨h.op=21):=by simpa [zQ] using h1.2.2.1
  have hd : ∀ u,(0#64).getLsbD u=true↔u < m.W.toNat∧False:=fun u=>by simp
  have e:ev (vnK m) (0#64,false) (.u h x)=zaP m h (ev (vnK m) (0#64,false) x).1 0#64:=if_pos ⟨fun _=>a1,fun h=>by omega⟩
  rw [e]
  exact zqy hk0 h2.1 a2 hd
 | .b h x y,h1,h2=>by
  obtain ⟨a1,a2⟩:=zhq hk0 x h1.2.2.2.1 h2.2.1
  obtain ⟨b1,b2⟩:=zhq hk0 y h1.2.2.2.2 h2.2.2
  have e:ev (vnK m) (0#64,false) (.b h x y)=zaP m h (ev (vnK m) (0#64,false) x).1 (ev (vnK m) (0#64,false) y).1:=if_pos ⟨fun _=>a1,fun _=>b1⟩
  rw [e]
  exact zqy hk0 h2.1 a2 b2
end Go.Ab
namespace Go.Ab
open Go
theorem zzX {m:KM} (hk:zac m=0) {f:List Nd} {t:Tm} (hf:IsF f t) (h:t.all (zii m)):zch m f=0:=by
 have hc:=hf.canon.1
 have hlt:uni zap (cL f) < 2 ^ 63:=Nat.lt_of_lt_of_le ((zd3 zap (b:=9)).2 fun n _=>znx n.hd) (by decide)
 have hall:=(hc.all (zii m)).2 h
 have h15:zaU .i64 (fun p q=>p &&& ~~~q) (uni zap (cL f):Int) 15=0:=by
  refine (zmF hlt (b:=15) (by decide)).2 fun i hi=>?_
  have h16:uni zap (cL f) < 2 ^ 4:=(zd3 zap).2 fun n hn=>by
   obtain ⟨o1,o2⟩:=(hall n hn).op
   show zap n.hd < 16
   rw [zap]
   have:n.hd.op=1∨n.hd.op=2∨n.hd.op=3∨n.hd.op=4∨n.hd.op=5∨n.hd.op=6∨n.hd.op=7∨n.hd.op=8∨n.hd.op=9∨n.hd.op=10∨n.hd.op=11∨n.hd.op=12∨n.hd.op=13:=by omega
   rcases this with e|e|e|e|e|e|e|e|e|e|e|e|e<;>rw [e]<;>decide
  have hi4:i < 4:=by
   refine Nat.lt_of_not_le fun hn=>?_
   rw [Nat.testBit_lt_two_pow (Nat.lt_of_lt_of_le h16 (Nat.pow_le_pow_right (by decide) hn))] at hi;cases hi
  have:i=0∨i=1∨i=2∨i=3:=by omega
  rcases this with rfl|rfl|rfl|rfl<;>decide
 have hfit:zcy f m.rel.length m.val.length=true:=by
  simp only [zcy,zdO,Bool.and_eq_true,decide_eq_true_eq,Int.toNat_natCast]
  refine ⟨⟨hf.ok,.inr ((zd3 za8).2 fun n hn=>?_)⟩,.inr ((zd3 zb2).2 fun n hn=>?_)⟩
  ·have hF:=hall n hn
   have hh:=zhS hn
   unfold za8
   by_cases hu:zD n.hd.op=true
   ·rw [if_pos hu]
    have:n.hd.op=9∨n.hd.op=10∨n.hd.op=14∨n.hd.op=15:=of_decide_eq_true hu
    have:=hF.agent (by have:=hF.op;omega)
    exact Nat.pow_lt_pow_right (by decide) (by omega)
   ·rw [if_neg hu]
    cases hg:zE n.hd.op with
    | true=>exact (hF.group (of_decide_eq_true hg)).2
    | false =>
     rw [hh.g0 hg]
     exact Nat.two_pow_pos _
  ·have hF:=hall n hn
   unfold zb2
   by_cases hu:zT n.hd.op=true
   ·rw [if_pos hu]
    have:=hF.fact (of_decide_eq_true hu)
    exact Nat.pow_lt_pow_right (by decide) (by omega)
   ·rw [if_neg hu];exact Nat.two_pow_pos _
 unfold zch
 rw [if_neg (not_not_intro hk),if_neg (not_not_intro hf.ok),if_neg (not_not_intro h15),if_neg (by rw [hfit];decide)]
theorem zwG {m:KM} (hk:zac m=0) {f:List Nd} {t:Tm} (hf:IsF f t) (h:t.all (zii m)):zgf m f=((ev (vnK m) (0#64,false) t).1,0):=by
 have hr:=zzX hk hf h
 obtain ⟨p1,p2,p3⟩:=zd8.1 hf.ok
 unfold zgf
 rw [if_neg (by omega),zqr (zy4 m) p3 f [] (by simp) (by simp) (fun i hi=>by simp at hi) (f.length - 1) (by omega),hf.tree]
def kmB (p:PM):KM:=⟨p.W,p.val,(List.range p.cell.length).map fun a=>(List.range p.W.toNat).map fun w=>zdw (ze p.rank a) (zb9 (ze p.cell a) w)⟩
theorem zA9 {p:PM} (hc:zy p=0):zg7 p (fun a w=>zdw (ze p.rank a) (zb9 (ze p.cell a) w))=(kmB p,0):=by rw [zg7,if_neg (not_not_intro hc)];rfl
section
variable {p:PM} (hc:zy p=0)
include hc
theorem zyM {a:Nat} (ha:a < p.cell.length):(ze p.cell a).length=p.W.toNat∧(ze p.rank a).length=p.W.toNat:=by
 have h:=(zA hc).lens
 have w1:=(zA hc).w1
 have:=h a ha
 omega
theorem zut {a w u:Nat} (ha:a < p.cell.length) (hw:w < p.W.toNat):(zdw (ze p.rank a) (zb9 (ze p.cell a) w)).getLsbD u=true↔InC p a w u ∧ ∀ v,InC p a w v→rkA p a u≤rkA p a v:=by
 have w2:=(zA hc).w2
 obtain ⟨l1,l2⟩:=zyM hc ha
 have hcell : ∀ v,(zb9 (ze p.cell a) w).getLsbD v=true↔InC p a w v:=fun v=>by
  unfold zb9 InC
  rw [zid (by omega),l1,beq_iff_eq]
 unfold zdw rkA
 rw [zbW]
 constructor
 ·rintro ⟨h1,h2,h3⟩
  have:=(hcell u).1 h2
  exact ⟨this,fun v hv=>h3 v (by have:=hv.1;omega) ((hcell v).2 hv)⟩
 ·rintro ⟨h1,h2⟩
  exact ⟨by have:=h1.1;omega,(hcell u).2 h1,fun v _ hv=>h2 v ((hcell v).1 hv)⟩
theorem zuD:(kmB p).rel.length=p.cell.length:=by simp [kmB]
theorem zyh:zeH (kmB p) where
 w1:=(zA hc).w1
 w2:=(zA hc).w2
 n4:=by simpa [kmB] using (zA hc).n4
 v8:=(zA hc).v8
 len r hr:=by
  obtain ⟨a,-,rfl⟩:=List.mem_map.1 hr
  have:=(zA hc).w1
  show ((List.map _ (List.range p.W.toNat)).length:Int)=p.W
  rw [List.length_map,List.length_range];omega
 val:=(zA hc).val
 rel r hr s hs:=by
  obtain ⟨a,ha,rfl⟩:=List.mem_map.1 hr
  obtain ⟨w,hw,rfl⟩:=List.mem_map.1 hs
  have w1:=(zA hc).w1
  exact (zps (show (0:Int)≤p.W by omega)).2 fun i hi=>((zut hc (List.mem_range.1 ha) (List.mem_range.1 hw)).1 hi).1.1
theorem zls:zac (kmB p)=0:=zvt (zyh hc)
theorem zAF {a w u:Nat} (ha:a < p.cell.length) (hw:w < p.W.toNat):rb (zb3 (kmB p) (a:Int)) w u=true↔InC p a w u ∧ ∀ v,InC p a w v→rkA p a u≤rkA p a v:=by
 have e:zb3 (kmB p) (a:Int)=(List.range p.W.toNat).map fun w=>zdw (ze p.rank a) (zb9 (ze p.cell a) w):=by simp [zb3,kmB,List.getD,ha]
 rw [e]
 unfold rb
 rw [List.getD,List.getElem?_map,List.getElem?_range hw]
 exact zut hc ha hw
omit hc in
theorem zqx {h:Hd} (hp:Prp h) (hf:zii (kmB p) h) (x y:BitVec 64):(zaP (kmB p) h x y).1=zaD p h x y:=by
 obtain ⟨a,b⟩:=hp
 have f1:=hf.fact
 clear hf
 obtain ⟨op,i,e,g⟩:=h
 dsimp only at a b f1
 have:op=1∨op=2∨op=3∨op=4∨op=5∨op=6∨op=7∨op=8:=by omega
 rcases this with rfl|rfl|rfl|rfl|rfl|rfl|rfl|rfl
 ·rfl
 ·rfl
 ·have hi:=f1 rfl
  rw [show zaP (kmB p) ⟨3,i,e,g⟩ x y=((kmB p).val.getD i.toNat 0#64,true) from if_neg (show ¬((kmB p).val.length:Int)≤i by omega)]
  rfl
 ·rfl
 ·rfl
 ·rfl
 ·rfl
 ·rfl
theorem zoD : ∀ (t:Tm),t.ok→t.all (zii (kmB p))→t.all Prp→(ev (vnK (kmB p)) (0#64,false) t).1=ev (zaD p) 0#64 t
 | .z h,h1,h2,h3=>by
  have h4 : ¬(4≤h.op∧h.op≤21):=by simpa [z7] using h1.2.1
  have hop:=h2.op
  have e:ev (vnK (kmB p)) (0#64,false) (.z h)=zaP (kmB p) h 0#64 0#64:=if_pos ⟨fun h=>by omega,fun h=>by omega⟩
  rw [e,zqx h3 h2];rfl
 | .u h x,h1,h2,h3=>by
  have a1:=(zhq (zls hc) x h1.2.2.2 h2.2).1
  have h5 : ¬(5≤h.op∧h.op≤8∨h.op=13∨h.op=14∨h.op=16∨h.op=19∨h.op=21):=by simpa [zQ] using h1.2.2.1
  have e:ev (vnK (kmB p)) (0#64,false) (.u h x)=zaP (kmB p) h (ev (vnK (kmB p)) (0#64,false) x).1 0#64:=if_pos ⟨fun _=>a1,fun h=>by omega⟩
  rw [e,zqx h3.1 h2.1,zoD x h1.2.2.2 h2.2 h3.2];rfl
 | .b h x y,h1,h2,h3=>by
  have a1:=(zhq (zls hc) x h1.2.2.2.1 h2.2.1).1
  have b1:=(zhq (zls hc) y h1.2.2.2.2 h2.2.2).1
  have e:ev (vnK (kmB p)) (0#64,false) (.b h x y)=zaP (kmB p) h (ev (vnK (kmB p)) (0#64,false) x).1 (ev (vnK (kmB p)) (0#64,false) y).1:=if_pos ⟨fun _=>a1,fun _=>b1⟩
  rw [e,zqx h3.1 h2.1,zoD x h1.2.2.2.1 h2.2.1 h3.2.1,zoD y h1.2.2.2.2 h2.2.2 h3.2.2];rfl
omit hc in
theorem znt {h:Hd} (hh:zdb h) (hf:zen p h) (hp:Prp h):zii (kmB p) h:=by
 refine ⟨⟨hp.1,by have:=hp.2;omega⟩,fun e=>?_,fun e=>by have:=hp.2;omega,fun e=>by have:=hp.2;omega⟩
 have hu:zT h.op=true:=decide_eq_true e
 have h1:=hh.fact hu
 have h2:=hf.2
 rw [zb2,if_pos hu] at h2
 have:=(Nat.pow_lt_pow_iff_right (by decide:1 < 2)).1 h2
 show 0≤h.i∧h.i < (p.val.length:Int)
 omega
omit hc in
theorem zvi : ∀ (t:Tm),t.ok→t.all (zen p)→t.all Prp→t.all (zii (kmB p))
 | .z h,h1,h2,h3=>znt h1.1 h2 h3
 | .u h x,h1,h2,h3=>⟨znt h1.1 h2.1 h3.1,zvi x h1.2.2.2 h2.2 h3.2⟩
 | .b h x y,h1,h2,h3=>⟨znt h1.1 h2.1 h3.1,zvi x h1.2.2.2.1 h2.2.1 h3.2.1,zvi y h1.2.2.2.2 h2.2.2 h3.2.2⟩
theorem zAG {g:List Nd} {t:Tm} (ht:OkT p g t) (hp:t.all Prp) (hl:g.length≤199) {a:Nat} (ha:a < p.cell.length):zgf (kmB p) (z8 ⟨9,a,0,0,0,0⟩ [g])=(zaT p a (zU p.W) (ev (zaD p) 0#64 t),0):=by
 have gd:=zA hc
 have w2:=gd.w2
 have hh:=(zjG (op:=9) (by decide) gd ha).1
 have hF:=(zkP hh (by simp only;decide) (by simp only;decide) ht.isF hl).1
 have hto:=ht.isF.tok
 have hfx:=zvi t hto ht.fit hp
 have hfk:zii (kmB p) ⟨9,a,0,0⟩:=⟨⟨show (1:Int)≤9 by decide,show (9:Int)≤13 by decide⟩,fun e=>absurd (show (9:Int)=3 from e) (by decide),fun _=>⟨by show (0:Int)≤(a:Int);omega,by rw [zuD hc];show (a:Int) < _;omega⟩,fun e=>absurd (show (11:Int)≤9 from e.1) (by decide)⟩
 rw [zwG (zls hc) (t := .u ⟨9,a,0,0⟩ t) hF ⟨hfk,hfx⟩]
 have a1:=(zhq (zls hc) t hto hfx).1
 have e:ev (vnK (kmB p)) (0#64,false) (.u ⟨9,a,0,0⟩ t)=zaP (kmB p) ⟨9,a,0,0⟩ (ev (vnK (kmB p)) (0#64,false) t).1 0#64:=if_pos ⟨fun _=>a1,fun h=>by
  have h:5≤(9:Int)∧(9:Int)≤8∨(9:Int)=13:=h
  omega⟩
 rw [e,zoD hc t hto hfx hp,show zaP (kmB p) ⟨9,a,0,0⟩ (ev (zaD p) 0#64 t) 0#64=(zdQ (zb3 (kmB p) (a:Int)) (ev (zaD p) 0#64 t),true) from if_neg (show ¬((kmB p).rel.length:Int)≤(a:Int) by rw [zuD hc];omega)]
 generalize ev (zaD p) 0#64 t=G
 refine congrArg (·,(0:Int)) (BitVec.eq_of_getLsbD_eq fun w _=>?_)
 have hl:(zb3 (kmB p) (a:Int)).length=p.W.toNat:=by simp [zb3,kmB,List.getD,ha]
 show (zdQ (zb3 (kmB p) (a:Int)) G).getLsbD w=_
 rw [Bool.eq_iff_iff,zjM (by omega),zfa hc ha,hl]
 refine and_congr_right fun hw=>forall_congr' fun v=>?_
 rw [zAF hc ha hw]
 constructor
 ·intro h h1 _ h3
  exact h ⟨h1,fun u hu=>h3 u hu ((zdv hc).2 hu.1)⟩
 ·rintro h ⟨h1,h2⟩
  exact h h1 ((zdv hc).2 h1.1) fun u hu _=>h2 u hu
variable {a:Nat} (ha:a < p.cell.length)
include ha
theorem zBe {F:BitVec 64} (hF : ∀ w,F.getLsbD w=true→w < p.W.toNat):F &&& ~~~zfK (upL p fun _ _=>F) a F=0#64:=by
 refine zmd.2 fun w hw=>(zvP (ztG hc _) (p:=upL p fun _ _=>F) ha).2 ⟨hF w hw,fun v hv hr=>?_⟩
 have hv:InC p a w v:=hv
 have hww:InC p a w w:=⟨hF w hw,rfl⟩
 have h:=(zvY hc ha hv hww).1 hr
 have r1:=zib hc ha hww.1
 have r2:=zib hc ha hv.1
 unfold zbj at h
 rw [if_pos hw] at h
 cases e:F.getLsbD v with
 | true=>rfl
 | false=>rw [e,if_neg (by decide)] at h;omega
theorem zBj {F G:BitVec 64} (hF : ∀ w,F.getLsbD w=true→w < p.W.toNat):(zaT (upL p fun _ _=>F) a (zU p.W) G ^^^ zaT p a F G)&&&zzi p a F=0#64:=by
 have hFA:F&&&zU p.W=F:=BitVec.eq_of_getLsbD_eq fun i _=>by
  rw [Bool.eq_iff_iff,BitVec.getLsbD_and,Bool.and_eq_true,zdv hc]
  exact ⟨fun h=>h.1,fun h=>⟨h,hF i h⟩⟩
 refine BitVec.eq_of_getLsbD_eq fun w _=>?_
 rw [BitVec.getLsbD_zero,Bool.eq_false_iff]
 intro h
 rw [BitVec.getLsbD_and,Bool.and_eq_true,zyC hc ha,BitVec.getLsbD_xor] at h
 obtain ⟨h1,h2,v,h3,h4⟩:=h
 have e:(zaT (upL p fun _ _=>F) a (zU p.W) G).getLsbD w=(zaT p a F G).getLsbD w:=by
  rw [Bool.eq_iff_iff,zzW hc ha,hFA,if_pos ⟨v,h3,h4⟩]
 rw [e,Bool.xor_self] at h1
 cases h1
end
end Go.Ab
namespace Go.Proofs
def Tryz.lays129_ren:Go.Shelf.Ren:=⟨fun|129=>96|n=>n,fun|53=>34|3=>3|4=>4|46=>96|5=>5|9=>9|n=>n,fun|n=>n⟩
theorem Tryz.lays129:Go.Proofs.Lays.n129 Tryz.prog Tryz.lays129_ren := {
 mixed:=by kernel_rfl
 f129:=Tryz.func96.trans (congrArg some (by kernel_rfl))
 t3:=Tryz.underlying3
 a3:=Tryz.isAgg3
 z3:=Tryz.sizeOf3
 v3:=Tryz.zeroValue3
 t4:=Tryz.underlying4
 a4:=Tryz.isAgg4
 z4:=Tryz.sizeOf4
 v4:=Tryz.zeroValue4
 t5:=Tryz.underlying5
 a5:=Tryz.isAgg5
 z5:=Tryz.sizeOf5
 v5:=Tryz.zeroValue5
 t9:=Tryz.underlying9
 a9:=Tryz.isAgg9
 z9:=Tryz.sizeOf9
 v9:=Tryz.zeroValue9
 t46:=Tryz.underlying96
 a46:=Tryz.isAgg96
 z46:=Tryz.sizeOf96
 v46:=Tryz.zeroValue96
 t53:=Tryz.underlying34
 a53:=Tryz.isAgg34
 z53:=Tryz.sizeOf34
 v53:=Tryz.zeroValue34 }
end Go.Proofs
namespace Go.Ab
open Go Go.Proofs
set_option maxRecDepth 10000
set_option maxHeartbeats 4000000
variable {T:Nat→Obj→Prop}
theorem zu4:zdS Tryz.prog zgH:=⟨_,Tryz.func96,by kernel_rfl,by kernel_rfl⟩
theorem zx6 (x:BitVec 64):Fn Tryz.prog T zgH [.d (.u64 x)] [] (.d (.int .i64 (Sort.bitsLen x.toNat:Int))) []:=by
 refine zzJ (ds:=[.u64 x]) zu4 fun w args hw hsz hargs=>?_
 obtain ⟨X,hX⟩:=hargs 0 (by simp)
 have ha:args = #[.int .u64 (x.toNat:Int)]:=by
  have h0:args.getD 0 undef = .int .u64 (x.toNat:Int):=by
   generalize args.getD 0 undef=y at hX
   cases hX;rfl
  obtain ⟨l⟩:=args
  match l,hsz with
  | [y],_=>rw [← h0];rfl
 rw [ha]
 have:=Any.bits_Len64 Tryz.lays129 (x.toNat:Int) w (by omega) (by have:=x.isLt;omega)
 refine this.mono fun e w' he=>⟨_,he.1,he.2,fun X=>?_⟩
 rw [Int.toNat_natCast,Go.Proofs.bitLen_eq _ x.isLt]
 exact .int _ _ (by decide)
theorem zsV (x:BitVec 64):Fn Tryz.prog T zdH [.d (.u64 x)] [] (.d (.int .i64 (Sort.bitsLen x.toNat:Int))) []:=by
 refine zb zn zo1 (by show 1≤8;decide) ?_
 (repeat' ((conv=>whnf);first|refine vT ?_|refine vX ?_|refine yD (zx6 _) ⟨⟨rfl,rfl⟩,rfl⟩ rfl ?_));all_goals try conv=>whnf
end Go.Ab
namespace Go.Ab
open Go Go.Proofs Go.MapKept
abbrev GI := List (Int × List Int)
theorem zsN : ∀ (l : List MapEntry) (ks : List Int) (i : Nat) (c : Int), ks.length = l.length → (∀ j, j < ks.length → (l.getD j default).key = .int .i64 (ks.getD j 0)) →
    (c ∉ ks ∧ Instr.findNow (.int .i64) (.int .i64 c) l i = some none) ∨ ∃ j, j < ks.length ∧ ks.getD j 0 = c ∧ Instr.findNow (.int .i64) (.int .i64 c) l i = some (some (i + j, (l.getD j default).val))
  | [], [], i, c, _, _ => .inl ⟨by simp, rfl⟩
  | [], _ :: _, _, _, h, _ => by simp at h
  | _ :: _, [], _, _, h, _ => by simp at h
  | e :: l, k :: ks, i, c, h, hk => by
    have h0 : e.key = .int .i64 k := by simpa using hk 0 (by simp)
    have hs : Instr.sameNow (.int .i64) (.int .i64 c) e.key = some (decide (c = k)) := by rw [h0]; simp [Instr.sameNow, zg6]
    by_cases hc : c = k
    · refine .inr ⟨0, by simp, by simp [hc], ?_⟩
      subst hc
      simp [Instr.findNow, hs]
    · rcases zsN l ks (i + 1) c (by simpa using h) (fun j hj => by simpa using hk (j + 1) (by simpa using hj)) with ⟨h1, h2⟩ | ⟨j, h1, h2, h3⟩
      · exact .inl ⟨by simp [hc, h1], by simp [Instr.findNow, hs, hc, h2]⟩
      · exact .inr ⟨j + 1, by simpa using h1, by simpa using h2, by simp [Instr.findNow, hs, hc, h3]; omega⟩
theorem zrj {w : World} {m : Nat} {es : Array MapEntry} {clock : Nat} (hm : w.heap[m]? = some (.map es clock)) {c : Int} {v : Value} {r : Option (Nat × Value)} (hf : Instr.findNow (.int .i64) (.int .i64 c) es.toList 0 = some r)
    (hr : ∀ j u, r = some (j, u) → j < es.size ∧ (es.getD j default).key = .int .i64 c) :
    (Instr.mapUpdate 49 (.map (some m)) (.int .i64 c) v).run Tryz.prog w = .ok () { w with heap := w.heap.setIfInBounds m (match r with
      | none => .map (es.push { key := .int .i64 c, val := v, born := clock }) (clock + 1)
      | some p => .map (es.modify p.1 fun e => { e with key := .int .i64 c, val := v }) clock) } := by
  have hik : IsKey (.int .i64) (.int .i64 c) := rfl
  have hck := fun b => run_checkKey (w := w) Tryz.underlying3 hik b 9999
  have hfk := run_findKey (w := w) Tryz.underlying3 hf
  cases r with
  | none =>
    have hset := run_setObj_map (P := Tryz.prog) (.map (es.push { key := .int .i64 c, val := v, born := clock }) (clock + 1)) hm
    simp [Instr.mapUpdate, run_underlying Tryz.underlying49, zbr hm, hck, hfk, hset]
  | some p =>
    obtain ⟨j, u⟩ := p
    obtain ⟨hj, hkj⟩ := hr j u rfl
    have hold : ((es[j]?).map (·.key)).getD (.int .i64 c) = .int .i64 c := by
      rw [← hkj]; simp [Array.getD_eq_getD_getElem?, hj]
    have hset := run_setObj_map (P := Tryz.prog) (.map (es.modify j fun e => { e with key := .int .i64 c, val := v }) clock) hm
    simp [Instr.mapUpdate, run_underlying Tryz.underlying49, zbr hm, hck, hfk, hold, Instr.keyThatStays, zlI hik, hset]
structure Grp (O : World → Value → Nat → List Int → Prop) (w : World) (m : Nat) (gs : GI) (es : Array MapEntry) (clock : Nat) (blk : Nat → Nat) : Prop where
  heap : w.heap[m]? = some (.map es clock)
  st : zeA es clock
  size : es.size = gs.length
  key : ∀ i, i < gs.length → (es.getD i default).key = .int .i64 (gs.getD i default).1
  val : ∀ i, i < gs.length → O w (es.getD i default).val (blk i) (gs.getD i default).2
  apart : ∀ i j, i < gs.length → j < gs.length → blk i = blk j → i = j
section
variable {O : World → Value → Nat → List Int → Prop} {w : World} {m : Nat} {gs : GI} {es : Array MapEntry} {clock : Nat} {blk : Nat → Nat}
theorem Grp.find (h : Grp O w m gs es clock blk) (c : Int) : (c ∉ gs.map Prod.fst ∧ Instr.findNow (.int .i64) (.int .i64 c) es.toList 0 = some none) ∨
    ∃ j, j < gs.length ∧ (gs.getD j default).1 = c ∧ Instr.findNow (.int .i64) (.int .i64 c) es.toList 0 = some (some (j, (es.getD j default).val)) := by
  have hg : ∀ j, j < gs.length → (gs.map Prod.fst).getD j 0 = (gs.getD j default).1 := fun j hj => by simp [List.getD, hj]
  rcases zsN es.toList (gs.map Prod.fst) 0 c (by simp [h.size]) (fun j hj => by
    rw [List.length_map] at hj
    rw [zbG, h.key j hj, hg j hj]) with h1 | ⟨j, h1, h2, h3⟩
  · exact .inl h1
  · rw [List.length_map] at h1
    rw [hg j h1] at h2
    refine .inr ⟨j, h1, h2, ?_⟩
    rw [h3, Nat.zero_add, zbG]
theorem zju {P : Program} {w : World} {t kt e : TypeId} {d : TypeDesc} {kv : Value} (ht : P.underlying t = some (.map kt e)) (hkd : P.underlying kt = some d) (hik : IsKey d kv) {zv : Value} (hz : ∀ w, (zeroValue e).run P w = .ok zv w)
    {ok : Bool} {m : Nat} {ents : Array MapEntry} {clock : Nat} (hm : w.heap[m]? = some (.map ents clock)) {r : Option (Nat × Value)} (hf : Instr.findNow d kv ents.toList 0 = some r) :
    (Instr.lookup t (.map (some m)) kv ok).run P w = .ok (if ok then .tuple #[zdr r zv, .bool r.isSome] else zdr r zv) w := by
  have hfk := run_findKey (w := w) hkd hf
  have hck : ∀ b, (Instr.checkKey b 10000 kt kv).run P w = .ok () w := fun b => run_checkKey hkd hik b 9999
  cases r with
  | none => simp [Instr.lookup, run_underlying ht, zbr hm, hck, hfk, hz, zdr]
  | some p => obtain ⟨i, v⟩ := p; simp [Instr.lookup, run_underlying ht, zbr hm, hck, hfk, zdr]
theorem zvx {w : World} {m : Nat} {es : Array MapEntry} {clock : Nat} (h : w.heap[m]? = some (.map es clock)) {c : Int} (hf : Instr.findNow (.int .i64) (.int .i64 c) es.toList 0 = some none) : (Instr.lookup 49 (.map (some m)) (.int .i64 c) false).run Tryz.prog w = .ok (.slice none 0 0) w := by
  have hz : ∀ w, (zeroValue 47).run Tryz.prog w = .ok (.slice none 0 0) w := fun w => by kernel_rfl
  simpa [zdr] using zju (ok := false) Tryz.underlying49 Tryz.underlying3 (show IsKey (.int .i64) (.int .i64 c) from rfl) hz h hf
theorem zvy {w : World} {m : Nat} {es : Array MapEntry} {clock : Nat} (h : w.heap[m]? = some (.map es clock)) {c : Int} {j : Nat} {v : Value} (hf : Instr.findNow (.int .i64) (.int .i64 c) es.toList 0 = some (some (j, v))) : (Instr.lookup 49 (.map (some m)) (.int .i64 c) false).run Tryz.prog w = .ok v w := by
  have hz : ∀ w, (zeroValue 47).run Tryz.prog w = .ok (.slice none 0 0) w := fun w => by kernel_rfl
  simpa [zdr] using zju (ok := false) Tryz.underlying49 Tryz.underlying3 (show IsKey (.int .i64) (.int .i64 c) from rfl) hz h hf
theorem zs4 {i j : Nat} {x : Int × List Int} (hi : i < gs.length) : (gs.set i x).getD j default = if j = i then x else gs.getD j default := by
  by_cases h : j = i
  · subst h; simp [List.getD, hi]
  · rw [if_neg h]; simp [List.getD, Ne.symm h]
theorem zs2 {j : Nat} {x : Int × List Int} (hj : j < gs.length + 1) : (gs ++ [x]).getD j default = if j = gs.length then x else gs.getD j default := by
  by_cases h : j = gs.length
  · subst h; simp [List.getD]
  · rw [if_neg h]; simp [List.getD, List.getElem?_append_left (show j < gs.length by omega)]
theorem Grp.set {w1 : World} (h : Grp O w m gs es clock blk) {c : Int} {i : Nat} {u v : Value} {g : Nat} {zs : List Int} (hi : i < gs.length) (hc : (gs.getD i default).1 = c)
    (hf : Instr.findNow (.int .i64) (.int .i64 c) es.toList 0 = some (some (i, u))) (hm : w1.heap[m]? = some (.map es clock))
    (hv : ∀ o, O { w1 with heap := w1.heap.setIfInBounds m o } v g zs)
    (ho : ∀ o j, j < gs.length → j ≠ i → O { w1 with heap := w1.heap.setIfInBounds m o } (es.getD j default).val (blk j) (gs.getD j default).2) (hg : ∀ j, j < gs.length → j ≠ i → blk j ≠ g) :
    ∃ es', (Instr.mapUpdate 49 (.map (some m)) (.int .i64 c) v).run Tryz.prog w1 = .ok () { w1 with heap := w1.heap.setIfInBounds m (.map es' clock) } ∧
      Grp O { w1 with heap := w1.heap.setIfInBounds m (.map es' clock) } m (gs.set i (c, zs)) es' clock (fun j => if j = i then g else blk j) ∧ ∀ j, j < gs.length → (es'.getD j default).born = (es.getD j default).born := by
  have hj : i < es.size := by rw [h.size]; exact hi
  have hmod : ∀ j, (es.modify i fun e => { e with key := .int .i64 c, val := v }).getD j default = if j = i then { key := .int .i64 c, val := v, born := (es.getD i default).born } else es.getD j default := fun j => zmW hj
  refine ⟨es.modify i fun e => { e with key := .int .i64 c, val := v }, zrj hm hf (fun j u' e => ?_), ⟨?_, ?_, ?_, fun j hj' => ?_, fun j hj' => ?_, fun j k hj' hk' e => ?_⟩, fun j hj' => ?_⟩
  · cases e; exact ⟨hj, by rw [h.key i hi, hc]⟩
  · simp [zj hm]
  · refine ⟨fun p q hp hq he => ?_, fun p hp => ?_⟩
    · simp only [Array.size_modify] at hp hq
      rw [hmod, hmod] at he
      refine h.st.inj p q hp hq ?_
      split at he <;> split at he <;> simp_all
    · simp only [Array.size_modify] at hp
      rw [hmod p]
      by_cases e : p = i
      · rw [if_pos e]; exact h.st.lt i hj
      · rw [if_neg e]; exact h.st.lt p hp
  · simp [h.size]
  · rw [List.length_set] at hj'
    rw [hmod, zs4 hi]
    split
    · rfl
    · exact h.key j hj'
  · rw [List.length_set] at hj'
    rw [hmod, zs4 hi]
    split
    · exact hv _
    · exact ho _ j hj' ‹_›
  · rw [List.length_set] at hj' hk'
    by_cases e1 : j = i <;> by_cases e2 : k = i
    · omega
    · rw [if_pos e1, if_neg e2] at e; exact absurd e.symm (hg k hk' e2)
    · rw [if_neg e1, if_pos e2] at e; exact absurd e (hg j hj' e1)
    · rw [if_neg e1, if_neg e2] at e; exact h.apart j k hj' hk' e
  · rw [hmod j]
    by_cases e : j = i
    · rw [if_pos e, e]
    · rw [if_neg e]
theorem Grp.add {w1 : World} (h : Grp O w m gs es clock blk) {c : Int} {v : Value} {g : Nat} {zs : List Int}
    (hf : Instr.findNow (.int .i64) (.int .i64 c) es.toList 0 = some none) (hm : w1.heap[m]? = some (.map es clock))
    (hv : ∀ o, O { w1 with heap := w1.heap.setIfInBounds m o } v g zs)
    (ho : ∀ o j, j < gs.length → O { w1 with heap := w1.heap.setIfInBounds m o } (es.getD j default).val (blk j) (gs.getD j default).2) (hg : ∀ j, j < gs.length → blk j ≠ g) :
    ∃ es', (Instr.mapUpdate 49 (.map (some m)) (.int .i64 c) v).run Tryz.prog w1 = .ok () { w1 with heap := w1.heap.setIfInBounds m (.map es' (clock + 1)) } ∧
      Grp O { w1 with heap := w1.heap.setIfInBounds m (.map es' (clock + 1)) } m (gs ++ [(c, zs)]) es' (clock + 1) (fun j => if j = gs.length then g else blk j) := by
  have hget : ∀ j, (es.push { key := .int .i64 c, val := v, born := clock }).getD j default = if j = gs.length then { key := .int .i64 c, val := v, born := clock } else es.getD j default := by
    intro j
    rw [← h.size]
    simp only [Array.getD_eq_getD_getElem?, Array.getElem?_push]
    split <;> rfl
  refine ⟨es.push { key := .int .i64 c, val := v, born := clock }, zrj hm hf (fun j u' e => by cases e), ⟨?_, zm1 h.st _ _, ?_, fun j hj' => ?_, fun j hj' => ?_, fun j k hj' hk' e => ?_⟩⟩
  · simp [zj hm]
  · simp [h.size]
  · simp only [List.length_append, List.length_cons, List.length_nil] at hj'
    rw [hget, zs2 hj']
    split
    · rfl
    · exact h.key j (by omega)
  · simp only [List.length_append, List.length_cons, List.length_nil] at hj'
    rw [hget, zs2 hj']
    split
    · exact hv _
    · exact ho _ j (by omega)
  · simp only [List.length_append, List.length_cons, List.length_nil] at hj' hk'
    by_cases e1 : j = gs.length <;> by_cases e2 : k = gs.length
    · omega
    · rw [if_pos e1, if_neg e2] at e; exact absurd e.symm (hg k (by omega))
    · rw [if_neg e1, if_pos e2] at e; exact absurd e (hg j (by omega))
    · rw [if_neg e1, if_neg e2] at e; exact h.apart j k (by omega) (by omega) e
end
end Go.Ab
namespace Go.Ab
open Go Go.Proofs
set_option maxRecDepth 10000
set_option maxHeartbeats 4000000
variable {T:Nat→Obj→Prop}
abbrev zlF (d:Array (Int)):Ob := .row 1 (d.toList.map (D.int .i64))
end Go.Ab
namespace Go.Ab
open Go Go.Proofs
set_option maxRecDepth 10000
set_option maxHeartbeats 4000000
variable {T:Nat→Obj→Prop}
def xnB (r:BitVec 64):BitVec 64 :=
 let r:=r ^^^ (r <<< (13#64).toNat)
 let r:=r ^^^ (r >>> (7#64).toNat)
 r ^^^ (r <<< (17#64).toNat)
theorem zBf (r:UInt64):(Sort.xorNext r).toBitVec=xnB r.toBitVec:=by
 simp [Sort.xorNext,xnB]
theorem zzE (r:BitVec 64):Fn Tryz.prog T zdG [.ptr 0 0] [.box [.d (.u64 r)]] (.d (.u64 (xnB r))) [some (.box [.d (.u64 (xnB r))])]:=by
 refine zJ zn zgW (by show 1≤33;decide) _ (fun e env mem n h=>h) ?_
 (repeat' ((conv=>whnf);first|refine vA ?_|refine vT ?_|(refine vU ?_ ?_;·kernel_rfl)|fail));all_goals try conv=>whnf
 refine ⟨trivial,_,[(0,0)],[],rfl,.inl (by (repeat' exact rfl)),⟨by rfl,by rfl,by rfl,trivial,by (repeat' first|exact trivial|exact rfl|refine And.intro ?_ ?_|refine ⟨_,rfl,?_⟩|exact of_decide_eq_true rfl)⟩,by (repeat' first|exact trivial|exact rfl|refine And.intro ?_ ?_|refine ⟨_,rfl,?_⟩)⟩
theorem zzI {n:Int} (l:Nat) (e:n=l) (h:l < 1073741824):Fn Tryz.prog T zem [.d (.int .i64 n)] [] (.d (.u64 (1#64 <<< Sort.bitsLen l))) []:=by
 subst e
 refine zb zn zhN (by show 1≤7;decide) ?_
 (repeat' ((conv=>whnf);first|refine vT ?_|(refine vP ?_ ?_;·omega)|refine vY ?_|refine yD (zsV _) ⟨⟨rfl,rfl⟩,rfl⟩ rfl ?_));all_goals try conv=>whnf
 have:(BitVec.ofInt 64 (l:Int)).toNat=l:=zwX (by omega)
 rw [this];rfl
def zma (l:Nat) (r:UInt64):Nat :=
 let o:=r.toNat&&&((1 <<< Sort.bitsLen l) - 1)
 if o ≥ l then o - l else o
theorem zyx {l:Nat} (h:0 < l) (r:UInt64):r.toNat&&&((1 <<< Sort.bitsLen l) - 1) < 2 * l∧zma l r < l:=by
 have h1:=Sort.two_pow_bitsLen_le h
 have h0:=Nat.two_pow_pos (Sort.bitsLen l)
 have h2:r.toNat&&&((1 <<< Sort.bitsLen l) - 1)≤(1 <<< Sort.bitsLen l) - 1:=Nat.and_le_right
 rw [Nat.shiftLeft_eq,Nat.one_mul] at h2 ⊢
 unfold zma
 rw [Nat.shiftLeft_eq,Nat.one_mul]
 refine ⟨by omega,?_⟩
 simp only
 split<;>omega
theorem zxN (l:Nat) (hl:l < 1073741824) (r:UInt64):(r.toBitVec&&&((1#64 <<< Sort.bitsLen l) - 1#64)).toNat=r.toNat&&&((1 <<< Sort.bitsLen l) - 1):=by
 have hb:Sort.bitsLen l≤30:=(Sort.bitsLen_le_iff l 30).2 (by omega)
 have h0:=Nat.two_pow_pos (Sort.bitsLen l)
 have h1:2 ^ Sort.bitsLen l≤2 ^ 30:=Nat.pow_le_pow_right (by omega) hb
 have e1:(1#64 <<< Sort.bitsLen l).toNat=2 ^ Sort.bitsLen l:=by
  rw [BitVec.toNat_shiftLeft,Nat.shiftLeft_eq,show (1#64).toNat=1 from rfl,Nat.one_mul,Nat.mod_eq_of_lt (by omega)]
 have e2:((1#64 <<< Sort.bitsLen l) - 1#64).toNat=2 ^ Sort.bitsLen l - 1:=by
  rw [BitVec.toNat_sub,e1,show (1#64).toNat=1 from rfl]
  omega
 rw [BitVec.toNat_and,e2,Nat.shiftLeft_eq,Nat.one_mul];rfl
theorem zhk {α:Type} [Inhabited α] (a l idx:Nat) (st:UInt64×Array α):Sort.breakStep a l (1 <<< Sort.bitsLen l) st idx=(Sort.xorNext st.1,Sort.swp st.2 idx (a+zma l (Sort.xorNext st.1))):=rfl
def brk {α:Type} [Inhabited α] (d:Array α) (a b:Nat):Nat→UInt64×Array α
 | 0=>(UInt64.ofNat (b - a),d)
 | k+1=>Sort.breakStep a (b - a) (1 <<< Sort.bitsLen (b - a)) (brk d a b k) (a+(b - a) / 4 * 2 - 1+k)
theorem zAj {α:Type} [Inhabited α] {d:Array α} {a b:Nat} (h:b - a ≥ 8):Sort.breakPatterns d a b=(brk d a b 3).2:=by
 unfold Sort.breakPatterns
 simp only [h,if_true];rfl
theorem zsn {α:Type} [Inhabited α] (d:Array α) (a b:Nat) : ∀ k,(brk d a b k).2.size=d.size
 | 0=>rfl
 | k+1=>by rw [brk,zhk,swp_size,zsn d a b k]
section
variable {α:Type} [Inhabited α] {lt:α→α→Bool}
theorem zvR {d:Array α} {b i:Nat} (h : ¬(i < b∧lt d[i]! d[i - 1]! = false)):Sort.scanSorted lt d b i=i:=by
 rw [Sort.scanSorted,if_neg]
 simpa using h
theorem zvQ {d:Array α} {b i:Nat} (h1:i < b) (h2:lt d[i]! d[i - 1]! = false):Sort.scanSorted lt d b (i+1)=Sort.scanSorted lt d b i:=by
 rw [Sort.scanSorted.eq_def lt d b i,if_pos]
 simp [h1,h2]
theorem zyR {j:Nat} {d:Array α} (h : ¬(1≤j∧lt d[j]! d[j - 1]! = true)):Sort.shiftDown lt j d=d:=by
 cases j with
 | zero=>rfl
 | succ j =>
  rw [Sort.shiftDown,if_pos]
  simpa using h
theorem zyQ {j:Nat} {d:Array α} (h1:1≤j) (h2:lt d[j]! d[j - 1]! = true):Sort.shiftDown lt (j - 1) (Sort.swp d j (j - 1))=Sort.shiftDown lt j d:=by
 cases j with
 | zero=>omega
 | succ j =>
  conv=>rhs;rw [Sort.shiftDown]
  rw [if_neg]
  ·simp
  ·simpa using h2
theorem zfM {b j:Nat} {d:Array α} (h : ¬(j < b∧lt d[j]! d[j - 1]! = true)):Sort.shiftUp lt b j d=d:=by
 rw [Sort.shiftUp]
 by_cases h1:j < b
 ·rw [if_pos h1,if_pos]
  simpa [h1] using h
 ·rw [if_neg h1]
theorem zn1 {b j:Nat} {d:Array α} (h1:j < b) (h2:lt d[j]! d[j - 1]! = true):Sort.shiftUp lt b (j+1) (Sort.swp d j (j - 1))=Sort.shiftUp lt b j d:=by
 rw [Sort.shiftUp.eq_def lt b j d,if_pos h1,if_neg]
 simp [h2]
end
section
variable {α:Type} [Inhabited α] {p:α→Bool}
theorem zqv {d:Array α} {i j:Nat} (h : ¬(i≤j∧p d[i]! = true)):Sort.scanUp p d j i=i:=by
 rw [Sort.scanUp,if_neg]
 simpa using h
theorem zqu {d:Array α} {i j:Nat} (h1:i≤j) (h2:p d[i]! = true):Sort.scanUp p d j (i+1)=Sort.scanUp p d j i:=by
 rw [Sort.scanUp.eq_def p d j i,if_pos]
 simp [h1,h2]
theorem zqp {d:Array α} {i j:Nat} (h : ¬(i≤j∧p d[j]! = true)):Sort.scanDown p d i j=j:=by
 cases j with
 | zero=>rfl
 | succ j =>
  rw [Sort.scanDown,if_neg]
  simpa using h
theorem zqo {d:Array α} {i j:Nat} (h0:1≤j) (h1:i≤j) (h2:p d[j]! = true):Sort.scanDown p d i (j - 1)=Sort.scanDown p d i j:=by
 cases j with
 | zero=>omega
 | succ j =>
  conv=>rhs;rw [Sort.scanDown]
  rw [if_pos]
  ·simp
  ·simp [h1,h2]
end
section
open Go.Sort
variable {α:Type} [Inhabited α] (lt:α→α→Bool)
def zef (d:Array α) (a b p lim:Nat) (wb wp:Bool):Array α :=
 if a > 0∧lt d[a - 1]! d[p]! = false then pdq lt (partitionEqual lt d a b p).2 (partitionEqual lt d a b p).1 b lim wb wp
 else if (partition lt d a b p).1 - a < b - (partition lt d a b p).1 then
  pdq lt (pdq lt (partition lt d a b p).2.2 a (partition lt d a b p).1 lim true true) ((partition lt d a b p).1+1) b lim (decide ((partition lt d a b p).1 - a ≥ (b - a) / 8)) (partition lt d a b p).2.1
 else pdq lt (pdq lt (partition lt d a b p).2.2 ((partition lt d a b p).1+1) b lim true true) a (partition lt d a b p).1 lim (decide (b - (partition lt d a b p).1 ≥ (b - a) / 8)) (partition lt d a b p).2.1
def znS (d:Array α) (a b p lim:Nat) (wb wp:Bool) (hint:Hint):Array α :=
 if wb=true∧wp=true∧hint = .increasing then (if (partialInsertionSort lt d a b).2=true then (partialInsertionSort lt d a b).1 else zef lt (partialInsertionSort lt d a b).1 a b p lim wb wp)
 else zef lt d a b p lim wb wp
def zka (d:Array α) (a b lim:Nat) (wb wp:Bool):Array α :=
 if (choosePivot lt d a b).2 = .decreasing then znS lt (reverseRange d a b) a b ((b - 1) - ((choosePivot lt d a b).1 - a)) lim wb wp .increasing
 else znS lt d a b (choosePivot lt d a b).1 lim wb wp (choosePivot lt d a b).2
variable {lt}
theorem ziv {d:Array α} {a b p:Nat} (hab:a < b) (hb:b≤d.size):a < (partitionEqual lt d a b p).1∧(partitionEqual lt d a b p).1≤b∧(partitionEqual lt d a b p).2.size=d.size:=by
 obtain ⟨h1,h2,h3,_⟩:=partEqLoop_spec lt a b (b - 1+1 - (a+1)) (a+1) (b - 1) (Sort.swp d a p) (Nat.le_refl _) (by omega) (by omega) (by omega) (by rw [Ab.swp_size];exact hb) (fun t _ _=>by omega) (fun t _ _=>by omega)
 exact ⟨h1,h2,by rw [show (partitionEqual lt d a b p).2=(partEqLoop lt a (a+1) (b - 1) (Sort.swp d a p)).2 from rfl,h3.1,Ab.swp_size]⟩
theorem zyA (hS:SWO lt) {d:Array α} {a b p lim:Nat} {wb wp:Bool} (ha:a≤p) (hp:p < b) (hb:b≤d.size) :
  (if a > 0 && !lt d[a - 1]! d[p]! then
   match partitionEqual lt d a b p with
   | (mid,d4)=>if _h:a < mid∧mid≤b then pdq lt d4 mid b lim wb wp else d4
  else
   match partition lt d a b p with
   | (mid,ap,d4) =>
    if _h:a≤mid∧mid < b then
     if mid - a < b - mid then pdq lt (pdq lt d4 a mid lim true true) (mid+1) b lim (decide (mid - a ≥ (b - a) / 8)) ap
     else pdq lt (pdq lt d4 (mid+1) b lim true true) a mid lim (decide (b - mid ≥ (b - a) / 8)) ap
    else d4)=zef lt d a b p lim wb wp:=by
 obtain ⟨e1,e2,_⟩:=ziv (lt:=lt) (p:=p) (show a < b by omega) hb
 obtain ⟨q1,q2,_⟩:=partition_holds lt hS d a b p ha hp hb
 unfold zef
 by_cases h:a > 0∧lt d[a - 1]! d[p]! = false
 ·rw [if_pos h,if_pos (by simpa using h)]
  exact dif_pos ⟨e1,e2⟩
 ·rw [if_neg h,if_neg (by simpa using h)]
  exact dif_pos ⟨q1,q2⟩
theorem zjv : ∀ {j:Nat} {d:Array α},(Sort.shiftDown lt j d).size=d.size
 | 0,d=>rfl
 | j+1,d=>by
  unfold Sort.shiftDown
  split
  ·rfl
  ·rw [zjv,Ab.swp_size]
theorem zlL {b:Nat} : ∀ (n j:Nat) (d:Array α),b - j≤n→(Sort.shiftUp lt b j d).size=d.size
 | 0,j,d,h=>by rw [Sort.shiftUp,if_neg (by omega)]
 | n+1,j,d,h=>by
  rw [Sort.shiftUp]
  split
  ·split
   ·rfl
   ·rw [zlL n _ _ (by omega),Ab.swp_size]
  ·rfl
theorem zpb {a b:Nat} : ∀ (s i:Nat) (d:Array α),(Sort.partialIns lt a b s i d).1.size=d.size
 | 0,i,d=>rfl
 | s+1,i,d=>by
  rw [Sort.partialIns_succ]
  split
  ·rfl
  ·split
   ·rfl
   ·rw [zpb s]
    unfold Sort.fixUp Sort.fixDown
    split<;>split<;>simp [zlL _ _ _ (Nat.le_refl _),zjv,Ab.swp_size]
theorem zh9 {a b:Nat} {d:Array α} : (Sort.partialInsertionSort lt d a b).1.size=d.size:=zpb _ _ _
theorem zw0 (hS:SWO lt) {d:Array α} {a b limit:Nat} {wb wp:Bool} (h12 : ¬b - a≤12) (h0:limit≠0) (hb:b≤d.size) :
  pdq lt d a b limit wb wp=if wb=true then zka lt d a b limit wb wp else zka lt (breakPatterns d a b) a b (limit - 1) wb wp:=by
 have key : ∀ (d1:Array α) (lim:Nat),d1.size=d.size →
   (if (if (wb&&wp&&decide ((if (choosePivot lt d1 a b).2 = .decreasing then Hint.increasing else (choosePivot lt d1 a b).2) = .increasing))=true then partialInsertionSort lt (if (choosePivot lt d1 a b).2 = .decreasing then reverseRange d1 a b else d1) a b else ((if (choosePivot lt d1 a b).2 = .decreasing then reverseRange d1 a b else d1),false)).2=true then
    (if (wb&&wp&&decide ((if (choosePivot lt d1 a b).2 = .decreasing then Hint.increasing else (choosePivot lt d1 a b).2) = .increasing))=true then partialInsertionSort lt (if (choosePivot lt d1 a b).2 = .decreasing then reverseRange d1 a b else d1) a b else ((if (choosePivot lt d1 a b).2 = .decreasing then reverseRange d1 a b else d1),false)).1
   else zef lt (if (wb&&wp&&decide ((if (choosePivot lt d1 a b).2 = .decreasing then Hint.increasing else (choosePivot lt d1 a b).2) = .increasing))=true then partialInsertionSort lt (if (choosePivot lt d1 a b).2 = .decreasing then reverseRange d1 a b else d1) a b else ((if (choosePivot lt d1 a b).2 = .decreasing then reverseRange d1 a b else d1),false)).1 a b
    (if (choosePivot lt d1 a b).2 = .decreasing then (b - 1) - ((choosePivot lt d1 a b).1 - a) else (choosePivot lt d1 a b).1) lim wb wp)=zka lt d1 a b lim wb wp:=by
  intro d1 lim _
  unfold zka znS
  by_cases hc:(choosePivot lt d1 a b).2 = .decreasing
  ·simp only [hc,if_true]
   by_cases hw:wb=true∧wp=true
   ·simp [hw.1,hw.2]
   ·have:(wb&&wp)=false:=by
     cases wb<;>cases wp<;>simp_all
    simp [this,hw]
  ·simp only [hc,if_false]
   by_cases hw:wb=true∧wp=true∧(choosePivot lt d1 a b).2 = .increasing
   ·simp [hw.1,hw.2.1,hw.2.2]
   ·have:(wb&&wp&&decide ((choosePivot lt d1 a b).2 = .increasing))=false:=by
     cases wb<;>cases wp<;>simp_all
    simp only [this,Bool.false_eq_true,if_false,if_neg hw]
 have fin : ∀ (d1:Array α) (lim:Nat),PermIn a b d d1→(let c:=choosePivot lt d1 a b
  let d2:=if c.2 = .decreasing then reverseRange d1 a b else d1
  let pivot:=if c.2 = .decreasing then (b - 1) - (c.1 - a) else c.1
  let hint:=if c.2 = .decreasing then Hint.increasing else c.2
  let pi:=if wb&&wp&&hint = .increasing then partialInsertionSort lt d2 a b else (d2,false)
  if pi.2 then pi.1 else
  let d3:=pi.1
  if a > 0 && !lt d3[a - 1]! d3[pivot]! then
   match partitionEqual lt d3 a b pivot with
   | (mid,d4)=>if _h:a < mid∧mid≤b then pdq lt d4 mid b lim wb wp else d4
  else
   match partition lt d3 a b pivot with
   | (mid,ap,d4) =>
    if _h:a≤mid∧mid < b then
     if mid - a < b - mid then pdq lt (pdq lt d4 a mid lim true true) (mid+1) b lim (decide (mid - a ≥ (b - a) / 8)) ap
     else pdq lt (pdq lt d4 (mid+1) b lim true true) a mid lim (decide (b - mid ≥ (b - a) / 8)) ap
    else d4)=zka lt d1 a b lim wb wp:=by
  intro d1 lim hp1
  rw [← key d1 lim hp1.1]
  have hc:=choosePivot_holds lt d1 a b (by omega)
  have hpv:=pivot_range hc.1 hc.2 ((choosePivot lt d1 a b).2 = .decreasing)
  have hr:(if (choosePivot lt d1 a b).2 = .decreasing then reverseRange d1 a b else d1).size=d.size:=by
   split
   ·rw [(reverseRange_holds d1 a b (by omega) (by rw [hp1.1];exact hb)).1,hp1.1]
   ·exact hp1.1
  refine ite_congr rfl (fun _=>rfl) fun _=>zyA hS ?_ ?_ ?_
  ·exact hpv.1
  ·exact hpv.2
  ·by_cases hw:(wb&&wp&&decide ((if (choosePivot lt d1 a b).2 = .decreasing then Hint.increasing else (choosePivot lt d1 a b).2) = .increasing))=true
   ·rw [if_pos hw,zh9,hr];exact hb
   ·rw [if_neg hw]
    show b≤(if (choosePivot lt d1 a b).2 = .decreasing then reverseRange d1 a b else d1).size
    rw [hr];exact hb
 rw [Sort.pdq,if_neg h12,if_neg h0]
 cases wb with
 | true=>exact fin d limit (permIn_refl d a b)
 | false=>exact fin (breakPatterns d a b) (limit - 1) (breakPatterns_holds d a b (by omega) hb)
theorem zq4 {a b:Nat} : ∀ (n i:Nat) (d:Array α),b - i≤n→(Sort.insOuter lt a b i d).size=d.size
 | 0,i,d,h=>by rw [Ab.insOuter_stop (by omega)]
 | n+1,i,d,h=>by
  by_cases h1:i < b
  ·rw [Ab.insOuter_step h1,zq4 n _ _ (by omega),Ab.insInner_size]
  ·rw [Ab.insOuter_stop h1]
theorem zts {first:Nat} : ∀ (k:Nat) (d:Array α),(Sort.heapPop lt first k d).size=d.size
 | 0,d=>rfl
 | k+1,d=>by rw [Sort.heapPop,zts k,Ab.siftDown_size,Ab.swp_size]
theorem znT (hS:SWO lt) : ∀ (N:Nat) (d:Array α) (a b limit:Nat) (wb wp:Bool),b - a≤N→a≤b→b≤d.size→(pdq lt d a b limit wb wp).size=d.size:=by
 intro N
 induction N using Nat.strongRecOn with
 | _ N ih =>
 intro d a b limit wb wp hN hab hb
 by_cases h12:b - a≤12
 ·rw [Sort.pdq,if_pos h12];exact zq4 _ _ _ (Nat.le_refl _)
 by_cases h0:limit=0
 ·rw [Sort.pdq,if_neg h12,if_pos h0,Sort.heapSort,zts,Ab.build_size]
 have tail : ∀ (u:Array α) (p lim:Nat),u.size=d.size→a≤p→p < b→(zef lt u a b p lim wb wp).size=d.size:=by
  intro u p lim hu h1 h2
  obtain ⟨e1,e2,e3⟩:=ziv (lt:=lt) (p:=p) (show a < b by omega) (show b≤u.size by omega)
  obtain ⟨q1,q2,q3,_⟩:=partition_holds lt hS u a b p h1 h2 (by omega)
  unfold zef
  split
  ·rw [ih (b - (partitionEqual lt u a b p).1) (by omega) _ _ _ _ _ _ (Nat.le_refl _) e2 (by omega),e3,hu]
  ·split
   ·rw [ih (b - ((partition lt u a b p).1+1)) (by omega) _ _ _ _ _ _ (Nat.le_refl _) (by omega) (by rw [ih ((partition lt u a b p).1 - a) (by omega) _ _ _ _ _ _ (Nat.le_refl _) q1 (by rw [q3.1];omega),q3.1];omega),
     ih ((partition lt u a b p).1 - a) (by omega) _ _ _ _ _ _ (Nat.le_refl _) q1 (by rw [q3.1];omega),q3.1,hu]
   ·rw [ih ((partition lt u a b p).1 - a) (by omega) _ _ _ _ _ _ (Nat.le_refl _) (by omega) (by rw [ih (b - ((partition lt u a b p).1+1)) (by omega) _ _ _ _ _ _ (Nat.le_refl _) (by omega) (by rw [q3.1];omega),q3.1];omega),
     ih (b - ((partition lt u a b p).1+1)) (by omega) _ _ _ _ _ _ (Nat.le_refl _) (by omega) (by rw [q3.1];omega),q3.1,hu]
 have goD : ∀ (u:Array α) (p lim:Nat) (hint:Hint),u.size=d.size→a≤p→p < b→(znS lt u a b p lim wb wp hint).size=d.size:=by
  intro u p lim hint hu h1 h2
  unfold znS
  split
  ·split
   ·rw [zh9,hu]
   ·exact tail _ _ _ (by rw [zh9,hu]) h1 h2
  ·exact tail _ _ _ hu h1 h2
 have goC : ∀ (u:Array α) (lim:Nat),u.size=d.size→(zka lt u a b lim wb wp).size=d.size:=by
  intro u lim hu
  have hc:=choosePivot_holds lt u a b (by omega)
  unfold zka
  split
  ·refine goD _ _ _ _ (by rw [(reverseRange_holds u a b hab (by omega)).1,hu]) (by omega) (by omega)
  ·exact goD _ _ _ _ hu hc.1 hc.2
 rw [zw0 hS h12 h0 hb]
 split
 ·exact goC _ _ rfl
 ·exact goC _ _ (breakPatterns_holds d a b hab hb).1
end
end Go.Ab
namespace Go.Ab
open Go Go.Proofs
set_option maxRecDepth 10000
set_option maxHeartbeats 4000000
section
variable {α:Type} [Inhabited α] [DecidableEq α]
def ddA (d:Array α):Nat→List α
 | 0=>[]
 | n+1=>if 0 < n∧d[n]! = d[n - 1]! then ddA d n else ddA d n++[d[n]!]
def Steps (d:Array α):Prop := ∀ j,0 < j→j < d.size→d[j]! ≠ d[j - 1]!
theorem zxw {d:Array α} {n:Nat} (h:n < d.size):d.toList.take (n+1)=d.toList.take n++[d[n]!]:=by
 rw [List.take_add_one,zzr h];rfl
theorem zpO {d:Array α} : ∀ {n:Nat},n≤d.size→(∀ j,0 < j→j < n→d[j]! ≠ d[j - 1]!)→ddA d n=d.toList.take n
 | 0,_,_=>rfl
 | n+1,h,hs=>by
  rw [ddA,if_neg (fun hh=>hs n hh.1 (by omega) hh.2),zpO (by omega) (fun j h0 h1=>hs j h0 (by omega)),zxw (by omega)]
theorem zx0 {d:Array α} {k:Nat} (h0:0 < k) (h1:k < d.size) (hk : ∀ j,0 < j→j < k→d[j]! ≠ d[j - 1]!) (he:d[k]! = d[k - 1]!):d.toList.take k=ddA d (k+1):=by
 rw [ddA,if_pos ⟨h0,he⟩,zpO (by omega) hk]
theorem zyP {e:Array α} {a:Nat} {x:α} (h:a < e.size):(e.setIfInBounds a x).toList.take (a+1)=e.toList.take a++[x]:=by
 have hl:a < e.toList.length:=by simpa using h
 rw [Array.toList_setIfInBounds,List.take_add_one,List.getElem?_set_self hl,List.take_set_of_le (Nat.le_refl a)];rfl
theorem zz0 {e:Array α} {a j:Nat} {x:α} (h:a≠j):(e.setIfInBounds a x)[j]! = e[j]! := by
 simp [getElem!_def,Array.getElem?_setIfInBounds_ne h]
theorem zzy {d:Array α} {n:Nat} (h:0 < n) (he:d[n]! = d[n - 1]!):ddA d (n+1)=ddA d n:=by rw [ddA,if_pos ⟨h,he⟩]
theorem zAm {d:Array α} {n:Nat} (he:d[n]! ≠ d[n - 1]!):ddA d (n+1)=ddA d n++[d[n]!]:=by rw [ddA,if_neg (fun h=>he h.2)]
theorem zzx {enc:α→D} {e:Array α} {z:D} {a n:Nat} (h:a≤e.size):((List.take a (e.toList.map enc))++(List.replicate n z++List.drop (a+n) (e.toList.map enc))).take a=(e.toList.take a).map enc:=by
 rw [List.take_append_of_le_length (by simp;omega),List.take_take,Nat.min_self,List.map_take]
end
end Go.Ab
namespace Go.Ab
open Go Go.Proofs
set_option maxRecDepth 10000
set_option maxHeartbeats 4000000
variable {T:Nat→Obj→Prop}
set_option maxHeartbeats 1000000 in
theorem zmr (d:Array Int) (hs:d.size≤536870912) (hd:Steps d):Fn Tryz.prog T zbX [.own 0] [zlF d] (.own 0) [some (zlF d)]:=by
 have hln:d.toList.length=d.size:=Array.length_toList
 refine zJ zn zds (by show 1≤61;decide) _ (fun e env mem n h=>h) ?_
 (repeat' ((conv=>whnf);first|refine vA ?_|(refine vF ?_ ?_<;>intro hc<;>try simp only [vL] at hc)|refine vJ fun hg=>?_|refine vT ?_));all_goals try conv=>whnf
 ·refine ⟨trivial,_,[(0,0)],[],rfl,.inl (by (repeat' exact rfl)),⟨by rfl,by rfl,by rfl,trivial,by (repeat' first|exact trivial|exact rfl|refine And.intro ?_ ?_|refine ⟨_,rfl,?_⟩|exact of_decide_eq_true rfl)⟩,by (repeat' first|exact trivial|exact rfl|refine And.intro ?_ ?_)⟩
 refine zt (fun (i:Int)=>[(0,.own 0),(3,.d (.int .i64 (i))),(za,.own 0)]) (fun (i:Int)=>[(0,some (zlF d))]) 1 (fun (i:Int) => ∃ k:Nat,i=k∧0 < k∧k≤d.size) (fun (i:Int)=>(d.size - i).toNat) (1) [(0,0)] [] (⟨1,rfl,by omega,by omega⟩) (by (refine ⟨rfl,rfl,rfl,?_,?_⟩;repeat' first|exact trivial|exact rfl|refine And.intro ?_ ?_|refine ⟨_,rfl,?_⟩|decide)) ?_
 rintro _ ⟨k,rfl,hk0,hk1⟩
 (repeat' ((conv=>whnf);first|refine vA ?_|(refine vF ?_ ?_<;>intro hc<;>try simp only [vL] at hc)|refine vJ fun hg=>?_|refine vT ?_|(refine vQ ?_ fun x hx=>?_;·omega)|((first|refine vO ?_ ?_|refine vP ?_ ?_);·first|omega|(simp only [vM] at *;omega))|(refine vU ?_ ?_;·kernel_rfl)|fail));all_goals try conv=>whnf
 ·have g1:=za9 (zz k ‹d.toList[(k:Int).toNat]? = some _› rfl)
  have g2:=za9 (zz (k - 1) ‹d.toList[((k:Int) - 1).toNat]? = some _› (by omega))
  exact absurd (g1.1.trans (‹_=_›.trans g2.1.symm)) (hd k hk0 g1.2)
 ·refine ⟨_,[(0,0)],[],?_,?_,by (refine ⟨rfl,rfl,rfl,?_,?_⟩;repeat' first|exact trivial|exact rfl|refine And.intro ?_ ?_|refine ⟨_,rfl,?_⟩|decide)⟩
  ·exact ⟨k+1,by omega,by omega,by omega⟩
  ·(omega)
 ·refine ⟨trivial,_,[(0,0)],[],rfl,.inl (by (repeat' exact rfl)),⟨by rfl,by rfl,by rfl,trivial,by (repeat' first|exact trivial|exact rfl|refine And.intro ?_ ?_|refine ⟨_,rfl,?_⟩|exact of_decide_eq_true rfl)⟩,by (repeat' first|exact trivial|exact rfl|refine And.intro ?_ ?_)⟩
set_option maxHeartbeats 1000000 in
theorem zld (d:Array Int) (hs:d.size≤536870912) (hd : ¬Steps d):Fn Tryz.prog T zbX [.own 0] [zlF d] (.own 1) [none,some (.row 1 ((ddA d d.size).map (D.int .i64)))]:=by
 generalize hR:(ddA d d.size).map (D.int .i64)=R
 have hln:d.toList.length=d.size:=Array.length_toList
 refine zJ zn zds (by show 1≤61;decide) _ (fun e env mem n h=>h) ?_
 (repeat' ((conv=>whnf);first|refine vA ?_|(refine vF ?_ ?_<;>intro hc<;>try simp only [vL] at hc)|refine vJ fun hg=>?_|refine vT ?_));all_goals try conv=>whnf
 ·exact absurd (fun j hj0 hj1=>by omega) hd
 refine zt (fun (i:Int)=>[(0,.own 0),(3,.d (.int .i64 (i))),(za,.own 0)]) (fun (i:Int)=>[(0,some (zlF d))]) 1 (fun (i:Int) => ∃ k:Nat,i=k∧0 < k∧k≤d.size ∧ ∀ j,0 < j→j < k→d[j]! ≠ d[j - 1]!) (fun (i:Int)=>(d.size - i).toNat) (1) [(0,0)] [] (⟨1,rfl,by omega,by omega,fun j _ _=>by omega⟩) (by (refine ⟨rfl,rfl,rfl,?_,?_⟩;repeat' first|exact trivial|exact rfl|refine And.intro ?_ ?_|refine ⟨_,rfl,?_⟩|decide)) ?_
 rintro _ ⟨k,rfl,hk0,hk1,hk⟩
 (repeat' ((conv=>whnf);first|refine vA ?_|(refine vF ?_ ?_<;>intro hc<;>try simp only [vL] at hc)|refine vJ fun hg=>?_|refine vT ?_|(refine vQ ?_ fun x hx=>?_;·omega)|((first|refine vO ?_ ?_|refine vP ?_ ?_);·first|omega|(simp only [vM] at *;omega))|(refine vU ?_ ?_;·kernel_rfl)|fail));all_goals try conv=>whnf
 ·have g1:=za9 (zz k ‹d.toList[(k:Int).toNat]? = some _› rfl)
  have g2:=za9 (zz (k - 1) ‹d.toList[((k:Int) - 1).toNat]? = some _› (by omega))
  have hkk:d[k]! = d[k - 1]! := g1.1.trans (‹_=_›.trans g2.1.symm)
  refine zt (fun ((w,q,xs):Int×Int×List D)=>[(0,.own 0),(3,.d (.int .i64 (w))),(4,.view 0 k ((d.toList.map (D.int .i64)).length - k)),(5,.d (.int .i64 (q))),(za,.own 0)]) (fun ((w,q,xs):Int×Int×List D)=>[(0,some (.row 1 xs))]) 1 (fun ((w,q,xs):Int×Int×List D) => ∃ (a b:Nat) (e:Array Int),w=a∧q=b∧xs=e.toList.map (D.int .i64)∧0 < b∧k+b≤d.size∧a < k+b∧e.size=d.size∧e.toList.take a=ddA d (k+b) ∧ ∀ j,k+b - 1≤j→j < d.size→e[j]! = d[j]!) (fun ((w,q,xs):Int×Int×List D)=>(d.size - k - q).toNat) (((k:Int),(1:Int),d.toList.map (D.int .i64))) [(0,0)] [] (⟨k,1,d,rfl,rfl,rfl,by omega,by omega,by omega,rfl,zx0 hk0 g1.2 hk hkk,fun _ _ _=>rfl⟩) (by (refine ⟨rfl,rfl,rfl,?_,?_⟩;repeat' first|exact trivial|exact rfl|refine And.intro ?_ ?_|refine ⟨_,rfl,?_⟩|decide)) ?_
  rintro ⟨_,_,_⟩ ⟨a,b,e,rfl,rfl,rfl,hb0,hb1,hab,he,ha,hj⟩
  have hle:e.toList.length=e.size:=Array.length_toList
  (repeat' ((conv=>whnf);first|refine vA ?_|((first|refine vD ?_ ?_|refine vF ?_ ?_)<;>intro hc<;>try simp only [vL] at hc)|refine vT ?_|refine vN ‹_› ?_|(refine vQ ?_ fun x hx=>?_;·omega)|((first|refine vO ?_ ?_|refine vP ?_ ?_);·first|omega|(simp only [vM] at *;omega))|(refine vU ?_ ?_;·kernel_rfl)|fail));all_goals try conv=>whnf
  ·have h1:=za9 ‹e.toList[k+((b:Nat):Int).toNat]? = some _›
   have h2:=za9 (zz (i:=((k+b - 1:Nat):Int)) (k+b - 1) (by rw [← ‹e.toList[k+(((b:Nat):Int) - 1).toNat]? = some _›];congr 1;omega) rfl)
   simp only [Int.toNat_natCast] at h1
   have e1:=hj (k+b) (by omega) (by omega)
   have e2:=hj (k+b - 1) (by omega) (by omega)
   refine ⟨(_,_,_),[(0,0)],[],?_,?_,by (refine ⟨rfl,rfl,rfl,?_,?_⟩;repeat' first|exact trivial|exact rfl|refine And.intro ?_ ?_|refine ⟨_,rfl,?_⟩|decide)⟩
   ·exact ⟨a+1,b+1,e.setIfInBounds a e[k+b]!,by omega,by omega,by rw [h1.1];simp [List.map_set],by omega,by omega,by omega,by simp [he],
     by rw [zyP (by omega),ha,← Nat.add_assoc,zAm (by rw [← e1,← e2,h1.1,h2.1];assumption),e1],
     fun j h0 h1=>by rw [zz0 (by omega)];exact hj j (by omega) h1⟩
   ·((simp only [vM] at *;omega))
  ·have h1:=za9 ‹e.toList[k+((b:Nat):Int).toNat]? = some _›
   have h2:=za9 (zz (i:=((k+b - 1:Nat):Int)) (k+b - 1) (by rw [← ‹e.toList[k+(((b:Nat):Int) - 1).toNat]? = some _›];congr 1;omega) rfl)
   simp only [Int.toNat_natCast] at h1
   have e1:=hj (k+b) (by omega) (by omega)
   have e2:=hj (k+b - 1) (by omega) (by omega)
   refine ⟨(_,_,_),[(0,0)],[],?_,?_,by (refine ⟨rfl,rfl,rfl,?_,?_⟩;repeat' first|exact trivial|exact rfl|refine And.intro ?_ ?_|refine ⟨_,rfl,?_⟩|decide)⟩
   ·exact ⟨a,b+1,e,rfl,by omega,rfl,by omega,by omega,by omega,he,
     by rw [ha,← Nat.add_assoc,zzy (by omega) (by rw [← e1,← e2,h1.1,h2.1];assumption)],
     fun j h0 h1=>hj j (by omega) h1⟩
   ·((simp only [vM] at *;omega))
  ·have hE:=zzx (enc:=(D.int .i64)) (e:=e) (z:=(D.int .i64) 0) (a:=a) (n:=(e.toList.map (D.int .i64)).length - a) (by omega)
   rw [ha,show k+b=d.size by omega,hR] at hE
   subst hE
   refine zrS.mk (by simp only [List.length_append,List.length_take,List.length_replicate,List.length_drop,List.length_map,hle];omega) ?_
   (repeat' ((conv=>whnf);refine vT ?_));all_goals try conv=>whnf
   refine ⟨trivial,_,[(1,1)],[],rfl,.inl (by (repeat' exact rfl)),⟨by rfl,by rfl,by rfl,trivial,by (repeat' first|exact trivial|exact rfl|refine And.intro ?_ ?_|refine ⟨_,rfl,?_⟩|exact of_decide_eq_true rfl)⟩,by (repeat' first|exact trivial|refine And.intro ?_ ?_)⟩
 ·refine ⟨_,[(0,0)],[],?_,?_,by (refine ⟨rfl,rfl,rfl,?_,?_⟩;repeat' first|exact trivial|exact rfl|refine And.intro ?_ ?_|refine ⟨_,rfl,?_⟩|decide)⟩
  ·exact ⟨k+1,by omega,by omega,by omega,fun j h0 h1=>by
    by_cases hjk:j=k
    ·subst hjk
     have g1:=za9 (zz j ‹d.toList[(j:Int).toNat]? = some _› rfl)
     have g2:=za9 (zz (j - 1) ‹d.toList[((j:Int) - 1).toNat]? = some _› (by omega))
     rw [g1.1,g2.1];assumption
    ·exact hk j h0 (by omega)⟩
  ·(omega)
 ·exact absurd (fun j h0 h1=>hk j h0 (by omega)) hd
end Go.Ab
namespace Go.Ab
open Go Go.Proofs Go.MapKept
variable {T : Nat → Obj → Prop}
def O2 (base : Nat) (w : World) (v : Value) (g : Nat) (zs : List Int) : Prop := ∃ cap c e, v = .slice (some ⟨g, 0, none⟩) zs.length cap ∧ base ≤ g ∧ w.heap[g]? = some (.cells c e (0, 0)) ∧ zs.length ≤ cap ∧ cap ≤ c.size ∧ zs.length ≤ 536870912 ∧
  ∀ j, j < zs.length → c.getD j undef = .int .i64 (zs.getD j 0)
def zaI (zs : List Int) : Ob := .row 1 (zs.map (D.int .i64))
theorem O2.kept {base : Nat} {w w' : World} {v : Value} {g : Nat} {zs : List Int} (h : O2 base w v g zs) (hg : w'.heap[g]? = w.heap[g]?) : O2 base w' v g zs := by
  obtain ⟨cap, c, e, h1, h2, h3, h4⟩ := h
  exact ⟨cap, c, e, h1, h2, hg.trans h3, h4⟩
def zrX (T : Nat → Obj → Prop) (w : World) (g : Nat) : zu where
  w0 := w
  O := fun b => b < w.heap.size ∧ b ≠ g
  R := fun b => b = g
  nt := 0
  pin := fun b o => T b o ∧ w.heap[b]? = some o ∧ b ≠ g
  pinO := fun b o h => ⟨zj h.2.1, h.2.2⟩
  ghost := fun _ => undef
  small := Nat.zero_le _
  dfr := []
  inv := fun _ _ _ _ => True
  stab := fun _ _ _ _ _ _ _ _ _ _ _ _ => trivial
  mono := fun _ _ _ _ _ _ _ => trivial
theorem zBp {base : Nat} {w : World} {v : Value} {g : Nat} {zs : List Int} (h : O2 base w v g zs) :
    Sim (zrX T w g) (fun _ => .undef) (zp [some (zaI zs)]) (fun i => 1 ≤ i) (fun _ => some g) ⟨#[], []⟩ w ∧
    VSim (fun _ => some g) (zp [some (zaI zs)]) (fun i => 1 ≤ i) ((zrX T w g).X (fun _ => some g) (zp [some (zaI zs)])) w (.own 0) v := by
  obtain ⟨cap, c, e, rfl, h2, h3, h4, h5, h6, h7⟩ := h
  have hm : ∀ i, zp [some (zaI zs)] i = if i = 0 then some (zaI zs) else none := fun i => by
    match i with
    | 0 => rfl
    | i + 1 => rfl
  have e0 : ∀ i, zp [some (zaI zs)] i ≠ none → i = 0 := fun i hi => by
    rw [hm] at hi
    by_cases h : i = 0
    · exact h
    · rw [if_neg h] at hi; exact absurd rfl hi
  refine ⟨⟨fun t => .undef _, fun id ob hid => ?_, fun i j b hi hj _ _ => by rw [e0 i hi, e0 j hj], fun id b hi hb => ?_, fun id hid => by rw [hm, if_neg (by omega)], ⟨rfl, rfl, rfl, Nat.le_refl _, fun _ _ _ => rfl, fun b c e h => ⟨c, h, rfl⟩⟩, ⟨rfl, rfl⟩, fun b hb => hb.1, fun b o h => h.2.1, fun _ _ _ => trivial⟩, ?_⟩
  · rw [hm] at hid
    by_cases h : id = 0
    · rw [if_pos h] at hid
      cases hid
      refine .row 1 (zs.map (D.int .i64)) g c e rfl h3 (by rw [List.length_map]; omega) (by rw [List.length_map]; omega) (fun x hx => ?_) (fun i j hi hj => ?_)
      · obtain ⟨y, -, rfl⟩ := List.mem_map.1 hx
        rfl
      · rw [List.length_map] at hi
        have : j = 0 := by omega
        subst this
        rw [Nat.mul_one, Nat.add_zero, h7 i hi]
        rw [show (zs.map (D.int .i64)).getD i .nil = .int .i64 (zs.getD i 0) by simp [List.getD, hi]]
        exact .int .i64 _ (by simp)
    · rw [if_neg h] at hid; cases hid
  · cases hb
    exact ⟨fun h => h.2 rfl, .inl rfl⟩
  · have := VSim.own (σ := fun _ => some g) (M := zp [some (zaI zs)]) (F := fun i => 1 ≤ i) (X := (zrX T w g).X (fun _ => some g) (zp [some (zaI zs)])) (w := w) 0 1 (zs.map (D.int .i64)) g cap c e rfl rfl h3 (by rw [List.length_map]; omega) (by omega)
    rwa [List.length_map] at this
theorem zvv {w w' : World} {g : Nat} (h : zuS (fun b => b = g) w w') : w.grownBy w' (some g) :=
  ⟨h.os, h.tape, h.output, h.size, fun b hb hne => h.block b hb (fun e => hne (by rw [e]))⟩
theorem zqk {σ : Nat → Option Nat} {M : Nat → Option Ob} {F X : Nat → Prop} {w : World} {id : Nat} {ys : List Int} {v : Value} (hV : VSim σ M F X w (.own id) v) (hO : zbl σ M F X w id (zaI ys)) (hm : M id = some (zaI ys)) (hl : ys.length ≤ 536870912) (h0 : ys ≠ []) :
    ∃ g, σ id = some g ∧ O2 0 w v g ys := by
  have hlen : (ys.map (D.int .i64)).length = ys.length := List.length_map _
  unfold zaI at hm hO
  have pos : 0 < ys.length := List.length_pos_iff.2 h0
  cases hV with
  | ownDead _ ad l c h1 => rw [hm] at h1; cases h1
  | ownNil _ s h1 => rw [hm] at h1; simp at h1; exact absurd h1.2 h0
  | own _ s xs b cap c e h1 h2 h3 h4 h5 =>
    rw [hm] at h1
    simp only [Option.some.injEq, Ob.row.injEq] at h1
    obtain ⟨rfl, rfl⟩ := h1
    refine ⟨b, h2, cap, c, e, by rw [hlen], Nat.zero_le _, h3, by omega, by omega, hl, fun j hj => ?_⟩
    generalize hxs : ys.map (D.int .i64) = xs at hO hlen
    cases hO with
    | nilrow s h => rw [List.length_nil] at hlen; omega
    | row s xs' b' c' e' g1 g2 g3 g4 g5 g6 =>
      rw [h2] at g1; cases g1
      rw [h3] at g2; cases g2
      have := g6 j 0 (by omega) (by omega)
      rw [Nat.mul_one, Nat.add_zero, ← hxs, show (ys.map (D.int .i64)).getD j .nil = .int .i64 (ys.getD j 0) by simp [List.getD, hj]] at this
      generalize c.getD j undef = z at this ⊢
      cases this; rfl
theorem zst {f : Nat} {zs ys : List Int} {id : Nat} {obs' : List (Option Ob)} (hf : Fn Tryz.prog T f [.own 0] [zaI zs] (.own id) obs') (hid : zp obs' id = some (zaI ys)) (hl : ys.length ≤ 536870912) (h0 : ys ≠ [])
    {base : Nat} {w : World} {v : Value} {g : Nat} (h : O2 base w v g zs) (hT : ∀ b o, T b o → w.heap[b]? = some o ∧ b ≠ g) (hb : base ≤ w.heap.size) :
    Calls Tryz.prog f #[v] w fun e w' => ∃ v' g', e = .returned v' ∧ O2 base w' v' g' ys ∧ (g' = g ∨ w.heap.size ≤ g') ∧ w.grownBy w' (some g) := by
  obtain ⟨hS, hV⟩ := zBp (T := T) h
  have hbg : base ≤ g := by obtain ⟨_, _, _, _, h2, _⟩ := h; exact h2
  intro cs
  obtain ⟨v', w', σ', ⟨fr, hc, hfn, hlk⟩, hS', hV', -⟩ := hf.2 (zrX T w g) (fun _ => some g) ⟨#[], []⟩ w #[v] (fun b o ht => ⟨ht, hT b o ht⟩) (fun _ _ _ _ => trivial) hS rfl (fun i hi => by
    match i, hi with
    | 0, _ => exact hV) cs
  obtain ⟨g', hg', cap, c, e, q1, -, q2⟩ := zqk hV' (hS'.mem id _ hid) hid hl h0
  have hmine := (hS'.mine id g' (by rw [hid]; simp) hg').2
  refine ⟨.returned v', w', fr, ⟨v', g', rfl, ⟨cap, c, e, q1, ?_, q2⟩, hmine, zvv hS'.kept⟩, hc, hfn, hlk⟩
  rcases hmine with rfl | h
  · exact hbg
  · exact Nat.le_trans hb h
end Go.Ab
namespace Go.Ab
open Go Go.Proofs Go.MapKept
def inC (rank cell : List Int) (k : Nat) (c : Int) : List Int := ((List.range k).filter fun w => at0 cell w == c).map (at0 rank)
def zM (cell rank : List Int) (k : Nat) : GI := (zC (cell.take k)).map fun c => (c, inC rank cell k c)
theorem zj1 {cell rank : List Int} {k : Nat} {c : Int} : inC rank cell (k + 1) c = inC rank cell k c ++ (if at0 cell k = c then [at0 rank k] else []) := by
  unfold inC
  rw [List.range_succ, List.filter_append, List.map_append]
  congr 1
  by_cases h : at0 cell k = c
  · simp [h]
  · simp [h]
theorem zuA {cell rank : List Int} {k : Nat} {c : Int} : (inC rank cell k c).length ≤ k := by
  unfold inC
  rw [List.length_map]
  have := List.length_filter_le (fun w => at0 cell w == c) (List.range k)
  rwa [List.length_range] at this
theorem zmV {l : List Int} {c : Int} : zC (l ++ [c]) = if c ∈ zC l then zC l else zC l ++ [c] := by
  simp only [zC, List.foldl_append, List.foldl_cons, List.foldl_nil]
  by_cases h : c ∈ List.foldl (fun l c => if c ∈ l then l else l ++ [c]) [] l
  · exact (if_pos h).trans (if_pos h).symm
  · exact (if_neg h).trans (if_neg h).symm
theorem zo8 : ∀ {l acc : List Int}, acc.Nodup → (l.foldl (fun l c => if c ∈ l then l else l ++ [c]) acc).Nodup
  | [], acc, h => h
  | x :: l, acc, h => by
    rw [List.foldl_cons]
    refine zo8 ?_
    split
    · exact h
    · rename_i hx
      exact List.nodup_append.2 ⟨h, by simp, fun a ha b hb => by simp at hb; subst hb; intro e; subst e; exact hx ha⟩
theorem zlx {l : List Int} : (zC l).Nodup := zo8 List.nodup_nil
theorem ztE {cell : List Int} {k : Nat} (h : k < cell.length) : cell.take (k + 1) = cell.take k ++ [at0 cell k] := by
  rw [List.take_add_one, zi8 h]; rfl
theorem zq1 {cell rank : List Int} {k : Nat} : (zM cell rank k).map Prod.fst = zC (cell.take k) := by
  rw [zM, List.map_map]
  exact (List.map_congr_left fun _ _ => rfl).trans (List.map_id _)
theorem zAC {cell rank : List Int} {k : Nat} (hk : k < cell.length) (h : at0 cell k ∉ (zM cell rank k).map Prod.fst) : zM cell rank (k + 1) = zM cell rank k ++ [(at0 cell k, [at0 rank k])] := by
  rw [zq1] at h
  have h0 : inC rank cell k (at0 cell k) = [] := by
    rw [inC, List.map_eq_nil_iff, List.filter_eq_nil_iff]
    intro w hw he
    rw [List.mem_range] at hw
    refine h (zj6.2 ?_)
    rw [← (show at0 cell w = at0 cell k by simpa using he)]
    exact List.mem_of_getElem? (i := w) (by rw [List.getElem?_take, if_pos hw, zi8 (by omega)])
  rw [zM, ztE hk, zmV, if_neg h, List.map_append]
  congr 1
  · refine List.map_congr_left fun c hc => ?_
    rw [zj1, if_neg (fun e => h (by rw [e]; exact hc)), List.append_nil]
  · simp [zj1, h0]
theorem zAD {cell rank : List Int} {k i : Nat} (hk : k < cell.length) (hi : i < (zM cell rank k).length) (hc : ((zM cell rank k).getD i default).1 = at0 cell k) :
    zM cell rank (k + 1) = (zM cell rank k).set i (at0 cell k, ((zM cell rank k).getD i default).2 ++ [at0 rank k]) := by
  have hl : i < (zC (cell.take k)).length := by simpa [zM] using hi
  have hg : ∀ j (hj : j < (zC (cell.take k)).length), (zM cell rank k)[j]'(by simpa [zM] using hj) = ((zC (cell.take k))[j], inC rank cell k (zC (cell.take k))[j]) := fun j hj => by simp [zM]
  have hci : (zC (cell.take k))[i] = at0 cell k := by
    rw [← hc]; simp [List.getD, hi, hg i hl]
  have hm : at0 cell k ∈ zC (cell.take k) := by rw [← hci]; exact List.getElem_mem _
  have hn : zM cell rank (k + 1) = (zC (cell.take k)).map fun c => (c, inC rank cell (k + 1) c) := by rw [zM, ztE hk, zmV, if_pos hm]
  rw [hn]
  refine List.ext_getElem (by simp [zM]) fun j h1 h2 => ?_
  have hj : j < (zC (cell.take k)).length := by simpa using h1
  rw [List.getElem_map, List.getElem_set]
  by_cases e : i = j
  · subst e
    rw [if_pos rfl, hci, zj1, if_pos rfl]
    simp [List.getD, hi, hg i hl, hci]
  · rw [if_neg e, hg j hj, zj1, if_neg, List.append_nil]
    intro h
    exact e ((List.getElem_inj zlx).1 (hci.trans h))
def O1 (base : Nat) (w : World) (v : Value) (g : Nat) (zs : List Int) : Prop := w.ownsRow base 3 1 v zs.length (zs.map (Value.int .i64)) ∧ v.ownBlock = some g
theorem O1.kept {base : Nat} {w w' : World} {v : Value} {g : Nat} {zs : List Int} {row : Option Nat} (h : O1 base w v g zs) (hg : w.grownBy w' row) (hne : some g ≠ row) : O1 base w' v g zs := ⟨h.1.kept hg (.inr (by rw [h.2]; exact hne)), h.2⟩
theorem O1.lt {base : Nat} {w : World} {v : Value} {g : Nat} {zs : List Int} (h : O1 base w v g zs) : base ≤ g ∧ g < w.heap.size := h.1.lt g h.2
theorem O1.O2 {base : Nat} {w : World} {v : Value} {g : Nat} {zs : List Int} (h : O1 base w v g zs) (hl : zs.length ≤ 536870912) : O2 base w v g zs := by
  obtain ⟨⟨h1, h2⟩, h3⟩ := h
  rcases h2 with ⟨rfl, h2⟩ | ⟨g', cap, cur, rfl, h4, h5, h6, h7, h8, h9⟩
  · cases h3
  · cases h3
    refine ⟨cap, cur, 3, rfl, h4, h5, h6, by omega, hl, fun j hj => ?_⟩
    have : (cur.toList.take (zs.length * 1))[j]? = some (Value.int .i64 (zs.getD j 0)) := by rw [h9]; simp [hj, List.getD]
    rw [List.getElem?_take, if_pos (by omega)] at this
    rw [Array.getD_eq_getD_getElem?, ← Array.getElem?_toList, this]; rfl
theorem ze4 (w : World) (m : Nat) (o : Obj) : w.grownBy { w with heap := w.heap.setIfInBounds m o } (some m) :=
  ⟨rfl, rfl, rfl, by simp, fun k _ hk => by simp [Array.getElem?_setIfInBounds_ne (fun e : m = k => hk (by rw [e]))]⟩
section
variable {w : World} {base m : Nat} {gs : GI} {es : Array MapEntry} {clock : Nat} {blk : Nat → Nat}
theorem Grp.look1 (h : Grp (O1 base) w m gs es clock blk) (hmb : m < base) (c : Int) : ∃ v zs, ∃ tgt : List Int → GI, (v.ownBlock ≠ some m) ∧ (∀ w', w'.heap[m]? = w.heap[m]? → (Instr.lookup 49 (.map (some m)) (.int .i64 c) false).run Tryz.prog w' = .ok v w') ∧ w.ownsRow base 3 1 v zs.length (zs.map (Value.int .i64)) ∧
    ((∃ i, i < gs.length ∧ (gs.getD i default).1 = c ∧ zs = (gs.getD i default).2 ∧ tgt = fun ys => gs.set i (c, ys)) ∨ (c ∉ gs.map Prod.fst ∧ zs = [] ∧ tgt = fun ys => gs ++ [(c, ys)])) ∧
    ∀ w1 v' x, w.grownBy w1 v.ownBlock → w1.ownsRow base 3 1 v' (zs.length + 1) (zs.map (Value.int .i64) ++ [.int .i64 x]) → (v'.ownBlock = v.ownBlock ∨ v'.ownBlock = some w.heap.size ∨ ∃ g, v'.ownBlock = some g ∧ w.heap.size ≤ g) →
      ∃ w2 es' clock' blk', (Instr.mapUpdate 49 (.map (some m)) (.int .i64 c) v').run Tryz.prog w1 = .ok () w2 ∧ Grp (O1 base) w2 m (tgt (zs ++ [x])) es' clock' blk' ∧ w1.grownBy w2 (some m) := by
  have hmw : m < w.heap.size := zj h.heap
  have nn : ∀ {w1 : World} {v' : Value} {zs : List Int} {x : Int}, w1.ownsRow base 3 1 v' (zs.length + 1) (zs.map (Value.int .i64) ++ [.int .i64 x]) → ∃ g, O1 base w1 v' g (zs ++ [x]) := by
    intro w1 v' zs x ho
    have ho' : w1.ownsRow base 3 1 v' (zs ++ [x]).length ((zs ++ [x]).map (Value.int .i64)) := by simpa using ho
    rcases ho.2 with ⟨_, h0⟩ | ⟨g, cap, cur, rfl, _⟩
    · omega
    · exact ⟨g, ho', rfl⟩
  rcases h.find c with ⟨hn, hf⟩ | ⟨i, hi, hc, hf⟩
  · refine ⟨_, [], _, by simp [Value.ownBlock], fun w' hw' => zvx (hw'.trans h.heap) hf, World.ownsRow_nil _ _ _ _, .inr ⟨hn, rfl, rfl⟩, fun w1 v' x hg ho hl => ?_⟩
    obtain ⟨g, hv⟩ := nn ho
    have hgw : w.heap.size ≤ g := by
      rcases hl with h1 | h1 | ⟨g', h1, h2⟩
      · rw [hv.2] at h1; cases h1
      · rw [hv.2] at h1; cases h1; exact Nat.le_refl _
      · rw [hv.2] at h1; cases h1; exact h2
    have hm1 : w1.heap[m]? = some (.map es clock) := (hg.block m hmw (by simp [Value.ownBlock])).trans h.heap
    obtain ⟨es', h1, h2⟩ := h.add (w1 := w1) (c := c) (v := v') (g := g) (zs := [] ++ [x]) hf hm1
      (fun o => hv.kept (ze4 w1 m o) (by simp; have := hv.lt; omega))
      (fun o j hj => ((h.val j hj).kept hg (by simp [Value.ownBlock])).kept (ze4 w1 m o) (by have := (h.val j hj).lt; simp; omega))
      (fun j hj => by have := (h.val j hj).lt; omega)
    exact ⟨_, es', _, _, h1, h2, ze4 _ _ _⟩
  · have hvi := h.val i hi
    refine ⟨_, (gs.getD i default).2, _, by rw [hvi.2]; have := hvi.lt; simp; omega, fun w' hw' => zvy (hw'.trans h.heap) hf, hvi.1, .inl ⟨i, hi, hc, rfl, rfl⟩, fun w1 v' x hg ho hl => ?_⟩
    rw [hvi.2] at hg hl
    obtain ⟨g, hv⟩ := nn ho
    have hgw : g = blk i ∨ w.heap.size ≤ g := by
      rcases hl with h1 | h1 | ⟨g', h1, h2⟩
      · rw [hv.2] at h1; cases h1; exact .inl rfl
      · rw [hv.2] at h1; cases h1; exact .inr (Nat.le_refl _)
      · rw [hv.2] at h1; cases h1; exact .inr h2
    have hmi : m ≠ blk i := by have := hvi.lt; omega
    have hm1 : w1.heap[m]? = some (.map es clock) := (hg.block m hmw (by simpa using hmi)).trans h.heap
    have hne : ∀ j, j < gs.length → j ≠ i → blk j ≠ blk i := fun j hj hji e => hji (h.apart j i hj hi e)
    obtain ⟨es', h1, h2, -⟩ := h.set (w1 := w1) (c := c) (u := (es.getD i default).val) (v := v') (g := g) (zs := (gs.getD i default).2 ++ [x]) hi hc hf hm1
      (fun o => hv.kept (ze4 w1 m o) (by simp; have := hv.lt; omega))
      (fun o j hj hji => ((h.val j hj).kept hg (by simpa using hne j hj hji)).kept (ze4 w1 m o) (by have := (h.val j hj).lt; simp; omega))
      (fun j hj hji => by
        have := (h.val j hj).lt
        rcases hgw with rfl | h3
        · exact hne j hj hji
        · omega)
    exact ⟨_, es', _, _, h1, h2, ze4 _ _ _⟩
end
end Go.Ab
namespace Go.Proofs
def Tryz.lays189_ren : Go.Shelf.Ren := ⟨fun | 189 => 39 | 125 => 64 | 257 => 63 | 128 => 95 | 129 => 96 | 294 => 86 | 295 => 87 | 296 => 88 | 297 => 89 | 298 => 90 | 299 => 91 | 216 => 92 | 300 => 93 | 301 => 94 | 328 => 114 | 329 => 115 | 330 => 116 | 331 => 117 | 332 => 118 | 215 => 70 | 343 => 126 | n => n, fun | 28 => 47 | 3 => 3 | 46 => 96 | 0 => 0 | 51 => 122 | 53 => 34 | 4 => 4 | 183 => 116 | 182 => 115 | 131 => 109 | 5 => 5 | 9 => 9 | 218 => 136 | 222 => 140 | 228 => 147 | 229 => 148 | n => n, fun | n => n⟩
theorem Tryz.lays189 : Go.Proofs.Lays.n189 Tryz.prog Tryz.lays189_ren := {
  mixed := by kernel_rfl
  f125 := Tryz.func64.trans (congrArg some (by kernel_rfl))
  f128 := Tryz.func95.trans (congrArg some (by kernel_rfl))
  f129 := Tryz.func96.trans (congrArg some (by kernel_rfl))
  f189 := Tryz.func39.trans (congrArg some (by kernel_rfl))
  f215 := Tryz.func70.trans (congrArg some (by kernel_rfl))
  f216 := Tryz.func92.trans (congrArg some (by kernel_rfl))
  f257 := Tryz.func63.trans (congrArg some (by kernel_rfl))
  f294 := Tryz.func86.trans (congrArg some (by kernel_rfl))
  f295 := Tryz.func87.trans (congrArg some (by kernel_rfl))
  f296 := Tryz.func88.trans (congrArg some (by kernel_rfl))
  f297 := Tryz.func89.trans (congrArg some (by kernel_rfl))
  f298 := Tryz.func90.trans (congrArg some (by kernel_rfl))
  f299 := Tryz.func91.trans (congrArg some (by kernel_rfl))
  f300 := Tryz.func93.trans (congrArg some (by kernel_rfl))
  f301 := Tryz.func94.trans (congrArg some (by kernel_rfl))
  f328 := Tryz.func114.trans (congrArg some (by kernel_rfl))
  f329 := Tryz.func115.trans (congrArg some (by kernel_rfl))
  f330 := Tryz.func116.trans (congrArg some (by kernel_rfl))
  f331 := Tryz.func117.trans (congrArg some (by kernel_rfl))
  f332 := Tryz.func118.trans (congrArg some (by kernel_rfl))
  f343 := Tryz.func126.trans (congrArg some (by kernel_rfl))
  t0 := Tryz.underlying0
  a0 := Tryz.isAgg0
  z0 := Tryz.sizeOf0
  v0 := Tryz.zeroValue0
  t3 := Tryz.underlying3
  a3 := Tryz.isAgg3
  z3 := Tryz.sizeOf3
  v3 := Tryz.zeroValue3
  t4 := Tryz.underlying4
  a4 := Tryz.isAgg4
  z4 := Tryz.sizeOf4
  v4 := Tryz.zeroValue4
  t5 := Tryz.underlying5
  a5 := Tryz.isAgg5
  z5 := Tryz.sizeOf5
  v5 := Tryz.zeroValue5
  t9 := Tryz.underlying9
  a9 := Tryz.isAgg9
  z9 := Tryz.sizeOf9
  v9 := Tryz.zeroValue9
  t28 := Tryz.underlying47
  a28 := Tryz.isAgg47
  z28 := Tryz.sizeOf47
  v28 := Tryz.zeroValue47
  t46 := Tryz.underlying96
  a46 := Tryz.isAgg96
  z46 := Tryz.sizeOf96
  v46 := Tryz.zeroValue96
  t51 := Tryz.underlying122
  a51 := Tryz.isAgg122
  z51 := Tryz.sizeOf122
  v51 := Tryz.zeroValue122
  t53 := Tryz.underlying34
  a53 := Tryz.isAgg34
  z53 := Tryz.sizeOf34
  v53 := Tryz.zeroValue34
  t131 := Tryz.underlying109
  a131 := Tryz.isAgg109
  z131 := Tryz.sizeOf109
  v131 := Tryz.zeroValue109
  t182 := Tryz.underlying115
  a182 := Tryz.isAgg115
  z182 := Tryz.sizeOf115
  v182 := Tryz.zeroValue115
  t183 := Tryz.underlying116
  a183 := Tryz.isAgg116
  z183 := Tryz.sizeOf116
  v183 := Tryz.zeroValue116
  t218 := Tryz.underlying136
  a218 := Tryz.isAgg136
  z218 := Tryz.sizeOf136
  v218 := Tryz.zeroValue136
  t222 := Tryz.underlying140
  a222 := Tryz.isAgg140
  z222 := Tryz.sizeOf140
  v222 := Tryz.zeroValue140
  t228 := Tryz.underlying147
  a228 := Tryz.isAgg147
  z228 := Tryz.sizeOf147
  v228 := Tryz.zeroValue147
  t229 := Tryz.underlying148
  a229 := Tryz.isAgg148
  z229 := Tryz.sizeOf148
  v229 := Tryz.zeroValue148 }
end Go.Proofs
namespace Go.Ab
open Go Go.Proofs Go.MapKept
open Go.ChangeMaps (setBlock)
variable {T : Nat → Obj → Prop}
def zeP (zs : List Int) : List Int := ddA (Sort.sort Sort.ltInt zs.toArray) (Sort.sort Sort.ltInt zs.toArray).size
theorem zvb {d : Array Int} : ∀ {n : Nat}, 0 < n → ddA d n ≠ []
  | 1, _ => by simp [ddA]
  | n + 2, _ => by
    rw [ddA]
    split
    · exact zvb (Nat.succ_pos n)
    · simp
theorem zsB {α : Type} [Inhabited α] [DecidableEq α] {d : Array α} : ∀ {n : Nat}, (ddA d n).length ≤ n
  | 0 => Nat.le_refl 0
  | n + 1 => by
    have := zsB (d := d) (n := n)
    rw [ddA]
    split
    · omega
    · simp; omega
theorem zrs (d : Array Int) : (Sort.sort Sort.ltInt d).size = d.size := znT Sort.swo_ltInt d.size d 0 d.size _ true true (by omega) (Nat.zero_le _) (Nat.le_refl _)
theorem zss {d : Array Int} (hl : d.size ≤ 536870912) (h0 : 0 < d.size) {base : Nat} {w : World} {v : Value} {g : Nat} (h : O2 base w v g d.toList) (hT : ∀ b o, T b o → w.heap[b]? = some o ∧ b ≠ g) (hb : base ≤ w.heap.size) :
    Calls Tryz.prog 40 #[v] w fun e w' => ∃ v' g', e = .returned v' ∧ O2 base w' v' g' (ddA d d.size) ∧ (g' = g ∨ w.heap.size ≤ g') ∧ w.grownBy w' (some g) := by
  by_cases hs : Steps d
  · have hd : ddA d d.size = d.toList := by
      rw [zpO (Nat.le_refl _) (fun j h1 h2 => hs j h1 h2), List.take_of_length_le (by simp)]
    exact zst (T := T) (f := 40) (id := 0) (zmr d hl hs) (by rw [hd]; rfl) (Nat.le_trans zsB hl) (zvb h0) h hT hb
  · exact zst (T := T) (f := 40) (id := 1) (zld d hl hs) rfl (Nat.le_trans zsB hl) (zvb h0) h hT hb
theorem zu5 {zs : List Int} (hl : zs.length ≤ 536870912) (h0 : zs ≠ []) {base : Nat} {w : World} {v : Value} {g : Nat} (h : O2 base w v g zs) (hT : ∀ b o, T b o → w.heap[b]? = some o ∧ b ≠ g) :
    Calls Tryz.prog 39 #[v] w fun e w' => e = .returned (.tuple #[]) ∧ O2 base w' v g (Sort.sort Sort.ltInt zs.toArray).toList ∧ w.grownBy w' (some g) := by
  have hz : (Sort.sort Sort.ltInt zs.toArray).toList.length = zs.length := by rw [Array.length_toList, zrs]; simp
  obtain ⟨cap, c, e, rfl, h2, h3, h4, h5, h6, h7⟩ := h
  have hH := holds_of_blockI (ss := zs) h3 (by
    refine List.ext_getElem (by simp; omega) fun i h1 h8 => ?_
    have h8 : i < zs.length := by simpa using h8
    have := h7 i h8
    simp [List.getD, h8, show i < c.size by omega] at this
    simp [this])
  refine (Any.slices_Sort_int Tryz.lays189 g 0 cap zs w hH (zj h3) (by omega)).mono fun x w' => ?_
  rintro ⟨rfl, n, os, rfl⟩
  have hq : (zs.mergeSort fun x y => decide (x ≤ y)) = (Sort.sort Sort.ltInt zs.toArray).toList := (Go.Sort.sortInt zs).symm
  rw [hq]
  generalize (Sort.sort Sort.ltInt zs.toArray).toList = ys at hz
  refine ⟨rfl, ⟨cap, _, e, by rw [hz], h2, heap_sortedI _ h3, by omega, by simp [Sort.putCells]; omega, by omega, fun j hj => ?_⟩, grownBy_sortedI _⟩
  have ht := take_putCellsI c ys (by omega)
  have := congrArg (fun l : List Value => l.getD j undef) ht
  simp [List.getD, List.getElem?_take, hj] at this
  simpa [List.getD, hj] using this
def gAt (gs : GI) (born : Nat → Nat) (seen : Array Nat) : GI := (List.range gs.length).map fun j => ((gs.getD j default).1, if seen.contains (born j) then zeP (gs.getD j default).2 else (gs.getD j default).2)
def zhI (n : Nat) (born : Nat → Nat) (seen : Array Nat) : Nat := ((List.range n).filter fun j => !seen.contains (born j)).length
structure Mid (w : World) (m base r clock : Nat) (gs : GI) (born : Nat → Nat) (seen : Array Nat) (wr : World) : Prop where
  ex : ∃ es blk, Grp (O2 base) wr m (gAt gs born seen) es clock blk ∧ (∀ j, j < gs.length → (es.getD j default).born = born j) ∧ ∀ j, j < gs.length → blk j ≠ r ∧ blk j < wr.heap.size
  iter : wr.heap[r]? = some (.mapIter (some m) clock seen clock)
  grown : w.grownBy wr none
  mr : m < base ∧ base ≤ r ∧ w.heap.size ≤ m
theorem zea {gs : GI} {born : Nat → Nat} {seen : Array Nat} : (gAt gs born seen).length = gs.length := by simp [gAt]
theorem zuy {gs : GI} {born : Nat → Nat} {seen : Array Nat} {j : Nat} (hj : j < gs.length) : (gAt gs born seen).getD j default = ((gs.getD j default).1, if seen.contains (born j) then zeP (gs.getD j default).2 else (gs.getD j default).2) := by
  simp [gAt, List.getD, hj]
theorem zyd {gs : GI} {born : Nat → Nat} {seen : Array Nat} {i : Nat} (hi : i < gs.length) (hb : ∀ j, j < gs.length → born j = born i → j = i) :
    gAt gs born (seen.push (born i)) = (gAt gs born seen).set i ((gs.getD i default).1, zeP (gs.getD i default).2) := by
  refine List.ext_getElem (by simp [gAt]) fun j h1 h2 => ?_
  have hj : j < gs.length := by simpa [gAt] using h1
  rw [List.getElem_set]
  simp only [gAt, List.getElem_map, List.getElem_range, Array.contains_push]
  by_cases e : i = j
  · subst e; simp
  · rw [if_neg e]
    have : (born j == born i) = false := by simpa using fun h => e (hb j hj h).symm
    simp [this]
theorem zul {n : Nat} {born : Nat → Nat} {seen : Array Nat} {i : Nat} (hi : i < n) (hs : seen.contains (born i) = false) : zhI n born (seen.push (born i)) < zhI n born seen := by
  unfold zhI
  have hsub : ((List.range n).filter fun j => !(seen.push (born i)).contains (born j)) = ((List.range n).filter fun j => !seen.contains (born j)).filter fun j => !(born j == born i) := by
    rw [List.filter_filter]
    refine List.filter_congr fun j _ => ?_
    rw [Array.contains_push]
    cases seen.contains (born j) <;> cases (born j == born i) <;> rfl
  rw [hsub]
  refine Nat.lt_of_le_of_ne (List.length_filter_le _ _) fun h => ?_
  have := (List.filter_eq_self.1 (List.length_filter_eq_length_iff.1 h |> fun hh => List.filter_eq_self.2 hh)) i (List.mem_filter.2 ⟨List.mem_range.2 hi, by simpa using hs⟩)
  simp at this
end Go.Ab
namespace Go.Ab
open Go Go.Proofs Go.MapKept
open Go.ChangeMaps (setBlock)
variable {T : Nat → Obj → Prop}
theorem Mid.round {w wr : World} {m base r clock : Nat} {gs : GI} {born : Nat → Nat} {seen : Array Nat} (h : Mid w m base r clock gs born seen wr) (ty : TypeId) (hT : ∀ b o, T b o → w.heap[b]? = some o)
    (hk : ∀ i j, i < gs.length → j < gs.length → (gs.getD i default).1 = (gs.getD j default).1 → i = j) (hz : ∀ j, j < gs.length → (gs.getD j default).2 ≠ [] ∧ (gs.getD j default).2.length ≤ 536870912) :
    ((Instr.next (.pointer (some ⟨r, 0, none⟩)) false ty).run Tryz.prog wr = .ok (.tuple #[.bool false]) wr ∧ ∀ j, j < gs.length → seen.contains (born j) = true) ∨
    ∃ (c : Int) (v : Value) (wn : World), (Instr.next (.pointer (some ⟨r, 0, none⟩)) false ty).run Tryz.prog wr = .ok (.tuple #[.bool true, .int .i64 c, v]) wn ∧ (Instr.entry (.pointer (some ⟨r, 0, none⟩))).run Tryz.prog wn = .ok (.tuple #[.int .i64 c, v]) wn ∧
      Calls Tryz.prog 39 #[v] wn fun e w' => e = .returned (.tuple #[]) ∧ Calls Tryz.prog 40 #[v] w' fun e w'' => ∃ v', e = .returned v' ∧ ∃ wz seen', (Instr.mapUpdate 49 (.map (some m)) (.int .i64 c) v').run Tryz.prog w'' = .ok () wz ∧
        Mid w m base r clock gs born seen' wz ∧ zhI gs.length born seen' < zhI gs.length born seen := by
  obtain ⟨es, blk, hG, hborn, hblk⟩ := h.ex
  obtain ⟨hmb, hbr, hwm⟩ := h.mr
  have hsz : es.size = gs.length := hG.size.trans zea
  have idx : ∀ x ∈ es.toList, ∃ j, j < gs.length ∧ es.getD j default = x := fun x hx => by
    obtain ⟨j, hj, rfl⟩ := List.getElem_of_mem hx
    rw [Array.length_toList] at hj
    exact ⟨j, by omega, by simp [Array.getD_eq_getD_getElem?, hj]⟩
  have hold : ∀ x ∈ es.toList, x.born < clock := fun x hx => by
    obtain ⟨j, hj, rfl⟩ := idx x hx
    exact hG.st.lt j (by omega)
  have hbi : ∀ i j, i < gs.length → j < gs.length → born i = born j → i = j := fun i j hi hj e => hG.st.inj i j (by omega) (by omega) (by rw [hborn i hi, hborn j hj, e])
  rcases run_next_at (P := Tryz.prog) wr ty r m clock clock seen es clock h.iter hG.heap hold (Nat.le_refl _) with ⟨h0, hrun⟩ | ⟨e, he, w1, hw1, hrun⟩
  · refine .inl ⟨hrun, fun j hj => ?_⟩
    by_cases hc : seen.contains (born j) = true
    · exact hc
    · have hm : es.getD j default ∈ (leftOf es seen) := by
        unfold leftOf
        refine Array.mem_filter.2 ⟨?_, ?_⟩
        · rw [show es.getD j default = es[j]'(by omega) by simp [Array.getD_eq_getD_getElem?, show j < es.size by omega]]
          exact Array.getElem_mem _
        · rw [hborn j hj]; simpa using hc
      have : leftOf es seen = #[] := Array.eq_empty_of_size_eq_zero h0
      rw [this] at hm
      simp at hm
  · right
    have he' : e ∈ es ∧ seen.contains e.born = false := by
      have : e ∈ leftOf es seen := by simpa using he
      unfold leftOf at this
      obtain ⟨h1, h2⟩ := Array.mem_filter.1 this
      exact ⟨h1, by simpa using h2⟩
    obtain ⟨j, hj, rfl⟩ := idx e (by simpa using he'.1)
    have hs := he'.2
    rw [hborn j hj] at hs hrun
    have hjl : j < (gAt gs born seen).length := by rw [zea]; exact hj
    have hkey := hG.key j hjl
    have hval := hG.val j hjl
    have hgj := zuy (born := born) (seen := seen) hj
    rw [hs] at hgj
    simp only [Bool.false_eq_true, if_false] at hgj
    rw [hgj] at hkey hval
    simp only at hkey hval
    rw [hkey] at hrun
    have hw1h : w1.heap = wr.heap ∧ w1.os = wr.os ∧ w1.tape = wr.tape ∧ w1.output = wr.output := by rcases hw1 with rfl | rfl <;> exact ⟨rfl, rfl, rfl, rfl⟩
    have hrlt : r < wr.heap.size := zj h.iter
    generalize hwn : setBlock w1 r (.mapIter (some m) clock (seen.push (born j)) clock) = wn at hrun
    have nr : wn.heap[r]? = some (.mapIter (some m) clock (seen.push (born j)) clock) := by rw [← hwn]; simp [setBlock, hw1h.1, hrlt]
    have no : ∀ b, b ≠ r → wn.heap[b]? = wr.heap[b]? := fun b hb => by rw [← hwn]; simp [setBlock, hw1h.1, Array.getElem?_setIfInBounds_ne (Ne.symm hb)]
    have ns : wn.heap.size = wr.heap.size := by rw [← hwn]; simp [setBlock, hw1h.1]
    have nx : wn.os = wr.os ∧ wn.tape = wr.tape ∧ wn.output = wr.output := by rw [← hwn]; exact hw1h.2
    clear hwn
    obtain ⟨hbj1, hbj2⟩ := hblk j hj
    have hbase : ∀ i, i < gs.length → base ≤ blk i := fun i hi => by
      obtain ⟨_, _, _, _, h2, _⟩ := hG.val i (by rw [zea]; exact hi); exact h2
    have hgn : w.grownBy wn none := ⟨nx.1.trans h.grown.os, nx.2.1.trans h.grown.tape, nx.2.2.trans h.grown.output, by rw [ns]; exact h.grown.size, fun b hb _ => (no b (by omega)).trans (h.grown.block b hb (by simp))⟩
    have hTn : ∀ (x : World), wn.grownBy x (some (blk j)) → ∀ b o, T b o → x.heap[b]? = some o ∧ b ≠ blk j := fun x hx b o ht => by
      have h1 := hT b o ht
      have h2 := zj h1
      have h3 := hbase j hj
      exact ⟨(hx.block b (Nat.lt_of_lt_of_le h2 hgn.size) (by simp; omega)).trans ((hgn.block b h2 (by simp)).trans h1), by omega⟩
    have hself : wn.grownBy wn (some (blk j)) := ⟨rfl, rfl, rfl, Nat.le_refl _, fun _ _ _ => rfl⟩
    refine ⟨(gs.getD j default).1, (es.getD j default).val, wn, hrun, ?_, ?_⟩
    · have := run_entry_at (P := Tryz.prog) wn r m clock seen es clock (es.getD j default) (by rw [hborn j hj]; exact nr) ((no m (by omega)).trans hG.heap) (by simpa using he'.1) (by
        refine List.pairwise_iff_getElem.2 fun p q hp hq hpq e => ?_
        simp only [List.length_map, Array.length_toList] at hp hq
        have := hG.st.inj p q hp hq (by simpa [Array.getD_eq_getD_getElem?, hp, hq] using e)
        omega)
      rw [hkey] at this
      exact this
    · refine (zu5 (T := T) (hz j hj).2 (hz j hj).1 (hval.kept (no _ hbj1)) (hTn wn hself)).mono ?_
      rintro e1 w' ⟨rfl, hO1, hg1⟩
      refine ⟨rfl, ?_⟩
      have hds : (Sort.sort Sort.ltInt (gs.getD j default).2.toArray).size = (gs.getD j default).2.length := by rw [zrs]; simp
      refine (zss (T := T) (d := Sort.sort Sort.ltInt (gs.getD j default).2.toArray) (by rw [hds]; exact (hz j hj).2) (by rw [hds]; exact List.length_pos_iff.2 (hz j hj).1) hO1 (hTn w' hg1) (by have := hbase j hj; have := hg1.size; omega)).mono ?_
      rintro e2 w'' ⟨v', g', rfl, hO2, hg', hg2⟩
      refine ⟨v', rfl, ?_⟩
      have hg12 : wn.grownBy w'' (some (blk j)) := ⟨hg2.os.trans hg1.os, hg2.tape.trans hg1.tape, hg2.output.trans hg1.output, Nat.le_trans hg1.size hg2.size, fun b hb hne => (hg2.block b (Nat.lt_of_lt_of_le hb hg1.size) hne).trans (hg1.block b hb hne)⟩
      have hmj : m ≠ blk j := by have := hbase j hj; omega
      have hm2 : w''.heap[m]? = some (.map es clock) := (hg12.block m (by rw [ns]; omega) (by simpa using hmj)).trans ((no m (by omega)).trans hG.heap)
      have hg'b : base ≤ g' := by obtain ⟨_, _, _, _, h2, _⟩ := hO2; exact h2
      have hg'l : g' < w''.heap.size := by obtain ⟨_, _, _, _, _, h3, _⟩ := hO2; exact zj h3
      have hg'r : g' ≠ r := by
        rcases hg' with rfl | h3
        · exact hbj1
        · have := hg1.size; omega
      have hf : Instr.findNow (.int .i64) (.int .i64 (gs.getD j default).1) es.toList 0 = some (some (j, (es.getD j default).val)) := by
        rcases hG.find (gs.getD j default).1 with ⟨hn, -⟩ | ⟨i, hi, hi2, hf⟩
        · refine absurd ?_ hn
          refine List.mem_map.2 ⟨(gAt gs born seen).getD j default, ?_, by rw [hgj]⟩
          simp [List.getD, hjl]
        · rw [zea] at hi
          rw [zuy hi] at hi2
          have := hk i j hi hj hi2
          subst this
          exact hf
      obtain ⟨es', hup, hG', hbn⟩ := hG.set (w1 := w'') (c := (gs.getD j default).1) (i := j) (u := (es.getD j default).val) (v := v') (g := g') (zs := zeP (gs.getD j default).2) hjl (by rw [hgj]) hf hm2
        (fun o => hO2.kept (by simp [Array.getElem?_setIfInBounds_ne (show m ≠ g' by omega)]))
        (fun o i hi hij => (hG.val i hi).kept (by
          rw [zea] at hi
          have h1 := hbase i hi
          have h2 : blk i ≠ blk j := fun e => hij (hG.apart i j (by rw [zea]; exact hi) hjl e)
          obtain ⟨h3, h4⟩ := hblk i hi
          show (w''.heap.setIfInBounds m o)[blk i]? = _
          rw [Array.getElem?_setIfInBounds_ne (show m ≠ blk i by omega), hg12.block (blk i) (by rw [ns]; exact h4) (by simpa using h2), no _ h3]))
        (fun i hi hij => by
          rw [zea] at hi
          have h2 : blk i ≠ blk j := fun e => hij (hG.apart i j (by rw [zea]; exact hi) hjl e)
          have h4 := (hblk i hi).2
          rcases hg' with rfl | h3
          · exact h2
          · have := hg1.size; omega)
      refine ⟨_, seen.push (born j), hup, ⟨⟨es', fun i => if i = j then g' else blk i, ?_, fun i hi => (hbn i (by rw [zea]; exact hi)).trans (hborn i hi), fun i hi => ?_⟩, ?_, ?_, hmb, hbr, hwm⟩, zul hj hs⟩
      · rw [zyd hj (fun i hi e => hbi i j hi hj e)]
        exact hG'
      · show (if i = j then g' else blk i) ≠ r ∧ (if i = j then g' else blk i) < _
        by_cases e : i = j
        · rw [if_pos e]; exact ⟨hg'r, by simpa using hg'l⟩
        · rw [if_neg e]
          refine ⟨(hblk i hi).1, ?_⟩
          have := (hblk i hi).2; have := hg12.size; simp; omega
      · show (w''.heap.setIfInBounds m _)[r]? = _
        rw [Array.getElem?_setIfInBounds_ne (show m ≠ r by omega), hg12.block r (by rw [ns]; exact hrlt) (by simpa using Ne.symm hbj1), nr]
      · refine ⟨hg12.os.trans hgn.os, hg12.tape.trans hgn.tape, hg12.output.trans hgn.output, by simp; exact Nat.le_trans hgn.size hg12.size, fun b hb _ => ?_⟩
        show (w''.heap.setIfInBounds m _)[b]? = _
        have := hbase j hj
        rw [Array.getElem?_setIfInBounds_ne (show m ≠ b by omega), hg12.block b (Nat.lt_of_lt_of_le hb hgn.size) (by simp; omega), hgn.block b hb (by simp)]
def zym (r n : Nat) (born : Nat → Nat) (w : World) : Nat := match w.heap[r]? with
  | some (.mapIter _ _ seen _) => zhI n born seen
  | _ => 0
theorem Mid.mu {w wr : World} {m base r clock n : Nat} {gs : GI} {born : Nat → Nat} {seen : Array Nat} (h : Mid w m base r clock gs born seen wr) : zym r n born wr = zhI n born seen := by
  rw [zym, h.iter]
theorem zzL {gs : GI} {born : Nat → Nat} : gAt gs born #[] = gs := by
  refine List.ext_getElem (by simp [gAt]) fun j h1 h2 => ?_
  simp [gAt, List.getD, h2]
theorem zzK {gs : GI} {born : Nat → Nat} {seen : Array Nat} (h : ∀ j, j < gs.length → seen.contains (born j) = true) : gAt gs born seen = gs.map fun p => (p.1, zeP p.2) := by
  refine List.ext_getElem (by simp [gAt]) fun j h1 h2 => ?_
  have hj : j < gs.length := by simpa using h2
  have := h j hj
  simp only [gAt, List.getElem_map, List.getElem_range, this, if_true]
  simp [List.getD, hj]
theorem Mid.start {w wr : World} {m base clock : Nat} {gs : GI} {es : Array MapEntry} {blk : Nat → Nat} (hG : Grp (O1 base) wr m gs es clock blk) (hz : ∀ j, j < gs.length → (gs.getD j default).2.length ≤ 536870912)
    (hgr : w.grownBy wr none) (hmb : m < base) (hb : base ≤ wr.heap.size) (hwm : w.heap.size ≤ m) :
    Mid w m base wr.heap.size clock gs (fun j => (es.getD j default).born) #[] (wr.alloc (.mapIter (some m) clock #[] clock)) := by
  refine ⟨⟨es, blk, ?_, fun j hj => rfl, fun j hj => ?_⟩, heap_alloc_new _ _, hgr.trans (World.grownBy_alloc _ _ _), hmb, hb, hwm⟩
  · rw [zzL]
    exact ⟨(heap_alloc_old _ _ (zj hG.heap)).trans hG.heap, hG.st, hG.size, hG.key, fun i hi => ((hG.val i hi).O2 (hz i hi)).kept (heap_alloc_old _ _ (hG.val i hi).lt.2), hG.apart⟩
  · have := (hG.val j hj).lt
    exact ⟨by omega, by simp; omega⟩
end Go.Ab
namespace Go.Ab
open Go Go.Proofs Go.MapKept Go.RowKit Go.WideMaps Go.Maps
theorem zyJ : (Tryz.prog.info? 3).map (fun i => (i.zero, i.size, i.bytes)) = some (some (.int .i64 0), 1, 8) := by kernel_rfl
variable {T : Nat → Obj → Prop}
theorem zA8 {cell rank : List Int} (hl : cell.length ≤ 536870912) : ∀ j, j < (zM cell rank cell.length).length → ((zM cell rank cell.length).getD j default).2 ≠ [] ∧ ((zM cell rank cell.length).getD j default).2.length ≤ 536870912 := by
  intro j hj
  have hm : (zM cell rank cell.length).getD j default ∈ zM cell rank cell.length := by simp [List.getD, hj]
  obtain ⟨c, hc, e⟩ := List.mem_map.1 hm
  rw [← e]
  refine ⟨fun h => ?_, Nat.le_trans zuA hl⟩
  rw [List.take_length] at hc
  obtain ⟨i, hi, h2⟩ := zfI.1 (zj6.1 hc)
  have : at0 rank i ∈ inC rank cell cell.length c := List.mem_map.2 ⟨i, List.mem_filter.2 ⟨List.mem_range.2 hi, by simpa using h2⟩, rfl⟩
  rw [show inC rank cell cell.length c = [] from h] at this
  cases this
theorem zzM {cell rank : List Int} : ∀ i j, i < (zM cell rank cell.length).length → j < (zM cell rank cell.length).length → ((zM cell rank cell.length).getD i default).1 = ((zM cell rank cell.length).getD j default).1 → i = j := by
  intro i j hi hj e
  have hn : ((zM cell rank cell.length).map Prod.fst).Nodup := by rw [zq1]; exact zlx
  have hi' : i < ((zM cell rank cell.length).map Prod.fst).length := by simpa using hi
  have hj' : j < ((zM cell rank cell.length).map Prod.fst).length := by simpa using hj
  refine (List.getElem_inj (h₀ := hi') (h₁ := hj') hn).1 ?_
  simpa [List.getD, hi, hj] using e
set_option maxHeartbeats 4000000 in
set_option maxRecDepth 100000 in
theorem zpd (b1 o1 cap1 b2 o2 cap2 n2 : Nat) (cell rank : List Int) (w : World) (hn : 0 < cell.length) (hn2 : cell.length ≤ n2) (hl : cell.length ≤ 536870912)
    (hT : ∀ b o, T b o → w.heap[b]? = some o) (hb1 : b1 < w.heap.size) (hb2 : b2 < w.heap.size)
    (hc1 : ∀ j, j < cell.length → w.cell? ⟨b1, o1 + j, none⟩ = some (.int .i64 (at0 cell j))) (hc2 : ∀ j, j < cell.length → w.cell? ⟨b2, o2 + j, none⟩ = some (.int .i64 (at0 rank j))) :
    Calls Tryz.prog 19 #[.slice (some ⟨b1, o1, none⟩) cell.length cap1, .slice (some ⟨b2, o2, none⟩) n2 cap2] w fun e w' => e = .returned (.map (some w.heap.size)) ∧ w.grownBy w' none ∧ ∃ es clock blk, Grp (O2 (w.heap.size + 1)) w' w.heap.size ((zM cell rank cell.length).map fun p => (p.1, zeP p.2)) es clock blk := by
  have hmm := @run_makeMap Tryz.prog
  obtain ⟨i0, hi, hz0, hz1, hz2⟩ := info_parts zyJ
  go_enter Tryz.func19, Tryz.ntmps19
  go_wp2
  go_loopw [13] (fun i wr => ∃ k : Nat, k ≤ cell.length ∧ i = .int .i64 k ∧ ∃ es clock blk, Grp (O1 (w.heap.size + 1)) wr w.heap.size (zM cell rank k) es clock blk ∧ w.grownBy wr none ∧ w.heap.size + 1 ≤ wr.heap.size)
    (fun i _ => cell.length - (RowKit.intOf i).toNat)
  case atStart =>
    refine ⟨0, Nat.zero_le _, rfl, #[], 0, fun _ => 0, ?_, World.grownBy_alloc _ _ _, by simp⟩
    exact ⟨heap_alloc_new _ _, ⟨fun i j hi => by simp at hi, fun i hi => by simp at hi⟩, rfl, fun i hi => by simp [zM, zC] at hi, fun i hi => by simp [zM, zC] at hi, fun i j hi => by simp [zM, zC] at hi⟩
  case round =>
    obtain ⟨k, hk, rfl, es, clock, blk, hG, hgr, hsz⟩ := hrel
    have hcx1 : k < cell.length → wr.cell? ⟨b1, o1 + k, none⟩ = some (.int .i64 (at0 cell k)) := fun hlt => (ze0 (hgr.block b1 hb1 (by simp))).trans (hc1 k hlt)
    have hcx2 : k < cell.length → wr.cell? ⟨b2, o2 + k, none⟩ = some (.int .i64 (at0 rank k)) := fun hlt => (ze0 (hgr.block b2 hb2 (by simp))).trans (hc2 k hlt)
    obtain ⟨v, zs, tgt, hvm, hlook, hown, hcase, hback⟩ := hG.look1 (Nat.lt_succ_self _) (at0 cell k)
    have hmw : w.heap.size < wr.heap.size := by omega
    have hzl : zs.length ≤ k := by
      rcases hcase with ⟨i, hi1, -, rfl, -⟩ | ⟨-, rfl, -⟩
      · have : (zM cell rank k).getD i default ∈ zM cell rank k := by simp [List.getD, hi1]
        obtain ⟨c, -, hc⟩ := List.mem_map.1 this
        rw [← hc]; exact zuA
      · simp
    have hvb : ∀ b, b < w.heap.size → some b ≠ v.ownBlock := fun b hb e => by have := (hown.lt b e.symm).1; omega
    have hik0 : (0 : Int) ≤ (k : Int) := Int.natCast_nonneg _
    have hik1 : k < cell.length → (k : Int) < (n2 : Int) := fun h => by omega
    have hbk : k < cell.length → ∀ w1 gg cap o, (wr.drew.alloc o).grownBy w1 v.ownBlock → w1.ownsRow (w.heap.size + 1) 3 1 (.slice (some ⟨gg, 0, none⟩) (zs.length + 1) cap) (zs.length + 1) (zs.map (Value.int .i64) ++ [.int .i64 (at0 rank k)]) → (v.ownBlock = some gg ∨ gg = wr.heap.size + 1) →
        ∃ w2 es' clock' blk', (Instr.mapUpdate 49 (.map (some w.heap.size)) (.int .i64 (at0 cell k)) (.slice (some ⟨gg, 0, none⟩) (zs.length + 1) cap)).run Tryz.prog w1 = .ok () w2 ∧ Grp (O1 (w.heap.size + 1)) w2 w.heap.size (zM cell rank (k + 1)) es' clock' blk' ∧ w.grownBy w2 none ∧ w.heap.size + 1 ≤ w2.heap.size := by
      intro hlt w1 gg cap o hgrow hown1 hat
      have h1 : wr.drew.grownBy w1 v.ownBlock := (World.grownBy_alloc wr.drew _ _).trans hgrow
      obtain ⟨w2, es', clock', blk', q1, q2, q3⟩ := hback w1 _ _ ⟨h1.os, h1.tape, h1.output, h1.size, h1.block⟩ hown1 (hat.elim (fun h => .inl h.symm) (fun h => .inr (.inr ⟨gg, rfl, by omega⟩)))
      have hs1 : wr.heap.size ≤ w1.heap.size := h1.size
      have hs2 := q3.size
      refine ⟨w2, es', clock', blk', q1, ?_, ⟨q3.os.trans (h1.os.trans hgr.os), q3.tape.trans (h1.tape.trans hgr.tape), q3.output.trans (h1.output.trans hgr.output), by omega, fun b hb _ => ?_⟩, by omega⟩
      · rcases hcase with ⟨i, hi1, hi2, rfl, rfl⟩ | ⟨hn1, rfl, rfl⟩
        · rw [zAD hlt hi1 hi2]; exact q2
        · rw [zAC hlt hn1]; exact q2
      · exact (q3.block b (by omega) (by simp; omega)).trans ((h1.block b (show b < wr.heap.size by omega) (hvb b hb)).trans (hgr.block b hb (by simp)))
    have hrange := run_range_map (P := Tryz.prog) wr 49 3 47 w.heap.size es clock Tryz.underlying49 hG.heap
    go_wp2_with fail
    · clear hrange
      have hlt : k < cell.length := by assumption
      have hik1 := hik1 hlt
      have hl0 : (Instr.lookup 49 (.map (some w.heap.size)) (.int .i64 (at0 cell k)) false).run Tryz.prog wr.drew = .ok v wr.drew := hlook _ rfl
      have hl1 : ∀ o, (Instr.lookup 49 (.map (some w.heap.size)) (.int .i64 (at0 cell k)) false).run Tryz.prog (wr.drew.alloc o) = .ok v (wr.drew.alloc o) := fun o => hlook _ (heap_alloc_old _ _ hmw)
      have hb2r : b2 < wr.heap.size := by omega
      have hl2 : ∀ o, (Instr.lookup 49 (.map (some w.heap.size)) (.int .i64 (at0 cell k)) false).run Tryz.prog (wr.alloc o).drew = .ok v (wr.alloc o).drew := fun o => hlook _ (heap_alloc_old _ _ hmw)
      have hc2k := hcx2 hlt
      go_region_law
        ((refine step_append_lies _ (by rfl) _ _ _ (by rfl) (w.heap.size + 1) 3 i0 _ 1 8 Tryz.underlying47 hi hz0 hz1 hz2 rfl (by omega) v zs.length (zs.map (Value.int .i64)) (by rfl) (hown.drew.alloc _)
            ⟨wr.heap.size, 0, none⟩ 1 1 [.int .i64 (at0 rank k)] (by rfl) (by rfl) (World.news_of_block (cs := #[.int .i64 (at0 rank k)]) (t := 3) (fr := (0, 0)) (heap_alloc_new _ _)) (by simp [Value.oneCell'])
            (by omega) (by unfold maxLen; omega) (by omega) (by simp; omega) (wr.heap.size + 1) (by simp) ?_; intro gg cap w1 hown1 hgrow hat hlt1; obtain ⟨w2, es', clock', blk', hup, hG2, hgr2, hsz2⟩ := hbk hlt w1 gg cap _ hgrow hown1 hat))
      all_goals
        clear hup hl0 hl1 hl2
        go_wp2
        go_roundw
        case rel =>
          exact ⟨k + 1, by omega, by go_num, es', clock', blk', hG2, hgr2, hsz2⟩
        case measure => simp [RowKit.intOf]; omega
    · have hke : k = cell.length := by omega
      subst hke
      have hz : ∀ j, j < (zM cell rank cell.length).length → ((zM cell rank cell.length).getD j default).2 ≠ [] ∧ ((zM cell rank cell.length).getD j default).2.length ≤ 536870912 := zA8 hl
      have hk : ∀ i j, i < (zM cell rank cell.length).length → j < (zM cell rank cell.length).length → ((zM cell rank cell.length).getD i default).1 = ((zM cell rank cell.length).getD j default).1 → i = j := zzM
      have hM := Mid.start hG (fun j hj => (hz j hj).2) hgr (Nat.lt_succ_self _) hsz (Nat.le_refl _)
      generalize hborn : (fun j => (es.getD j default).born) = born at hM
      generalize hrr : wr.heap.size = r at hM
      clear hback hbk hlook hcase hrange hG
      rw [show decide (cell.length < cell.length) = false by simp]
      go_loopw [8] (fun _ wr2 => ∃ seen, Mid w w.heap.size (w.heap.size + 1) r clock (zM cell rank cell.length) born seen wr2) (fun _ wr2 => zym r (zM cell rank cell.length).length born wr2)
      case atStart => exact ⟨#[], hM⟩
      case round =>
        obtain ⟨seen, hM2⟩ := hrel
        rcases hM2.round (T := T) 0 hT hk hz with ⟨hnext, hall⟩ | ⟨c, v, wn, hnext, hentry, hcalls⟩
        · go_wp2
          go_ret
          refine ⟨rfl, hM2.grown, ?_⟩
          obtain ⟨es2, blk2, h1, -⟩ := hM2.ex
          rw [zzK hall] at h1
          exact ⟨es2, _, blk2, h1⟩
        · go_wp2_with (first
            | (go_at_call 39; refine hcalls.mono ?_; rintro e w' ⟨rfl, hcomp⟩)
            | (go_at_call 40; refine hcomp.mono ?_; rintro e w'' ⟨v', rfl, wz, seen', hup, hMz, hlt⟩))
          go_roundw
          case rel => exact ⟨seen', hMz⟩
          case measure => rw [hMz.mu, hM2.mu]; exact hlt
end Go.Ab
namespace Go.Ab
open Go Go.Proofs Go.MapKept
section
variable {α : Type} [Inhabited α] [DecidableEq α]
theorem zhn {d : Array α} {x : α} : ∀ {n : Nat}, x ∈ ddA d n ↔ ∃ i, i < n ∧ d[i]! = x
  | 0 => by simp [ddA]
  | n + 1 => by
    rw [ddA]
    constructor
    · intro h
      split at h
      · obtain ⟨i, h1, h2⟩ := zhn.1 h
        exact ⟨i, by omega, h2⟩
      · rcases List.mem_append.1 h with h | h
        · obtain ⟨i, h1, h2⟩ := zhn.1 h
          exact ⟨i, by omega, h2⟩
        · exact ⟨n, by omega, by simp at h; exact h.symm⟩
    · rintro ⟨i, h1, h2⟩
      split
      · rename_i hc
        by_cases e : i = n
        · subst e
          exact zhn.2 ⟨i - 1, by omega, by rw [← hc.2]; exact h2⟩
        · exact zhn.2 ⟨i, by omega, h2⟩
      · by_cases e : i = n
        · subst e; exact List.mem_append.2 (.inr (by simp [h2]))
        · exact List.mem_append.2 (.inl (zhn.2 ⟨i, by omega, h2⟩))
theorem zpN {lt : α → α → Bool} {d : Array α} (hs : ∀ i j, i < j → j < d.size → lt d[j]! d[i]! = false) (tri : ∀ x y, lt x y = false → lt y x = false → x = y) : ∀ {n : Nat}, n ≤ d.size → (ddA d n).Pairwise fun x y => lt x y = true
  | 0, _ => List.Pairwise.nil
  | n + 1, h => by
    rw [ddA]
    split
    · exact zpN hs tri (by omega)
    · rename_i hc
      refine List.pairwise_append.2 ⟨zpN hs tri (by omega), List.pairwise_singleton _ _, fun x hx y hy => ?_⟩
      obtain ⟨i, hi, rfl⟩ := zhn.1 hx
      have hy : y = d[n]! := by simpa using hy
      subst hy
      cases hb : lt d[i]! d[n]! with
      | true => rfl
      | false =>
        have e1 := tri _ _ hb (hs i n hi (by omega))
        refine absurd ⟨by omega, ?_⟩ hc
        by_cases e : i = n - 1
        · rw [← e]; exact e1.symm
        · refine (tri _ _ ?_ ?_)
          · exact hs (n - 1) n (by omega) (by omega)
          · rw [← e1]; exact hs i (n - 1) (by omega) (by omega)
theorem zto {R : α → α → Prop} (irr : ∀ x, ¬R x x) (tr : ∀ x y z, R x y → R y z → R x z) : ∀ {l l' : List α}, l.Pairwise R → l'.Pairwise R → (∀ x, x ∈ l ↔ x ∈ l') → l = l'
  | [], [], _, _, _ => rfl
  | [], y :: l', _, _, h => by have := (h y).2 (by simp); cases this
  | x :: l, [], _, _, h => by have := (h x).1 (by simp); cases this
  | x :: l, y :: l', h1, h2, h => by
    obtain ⟨a1, a2⟩ := List.pairwise_cons.1 h1
    obtain ⟨b1, b2⟩ := List.pairwise_cons.1 h2
    have hxy : x = y := by
      rcases List.mem_cons.1 ((h x).1 (by simp)) with e | hx
      · exact e
      · rcases List.mem_cons.1 ((h y).2 (by simp)) with e | hy
        · exact e.symm
        · exact absurd (tr _ _ _ (a1 y hy) (b1 x hx)) (irr x)
    subst hxy
    rw [zto irr tr a2 b2 fun z => ?_]
    constructor
    · intro hz
      rcases List.mem_cons.1 ((h z).1 (List.mem_cons_of_mem _ hz)) with rfl | h3
      · exact absurd (a1 z hz) (irr z)
      · exact h3
    · intro hz
      rcases List.mem_cons.1 ((h z).2 (List.mem_cons_of_mem _ hz)) with rfl | h3
      · exact absurd (b1 z hz) (irr z)
      · exact h3
end
theorem ztD {α : Type} [Inhabited α] {lt : α → α → Bool} (hS : Sort.SWO lt) (d : Array α) : (Sort.sort lt d).toList.Perm d.toList := by
  obtain ⟨⟨h1, -, h2⟩, -⟩ := Sort.sort_sorts lt hS d
  have e1 : (Sort.sort lt d).extract 0 d.size = Sort.sort lt d := by rw [← h1]; simp
  have e2 : d.extract 0 d.size = d := by simp
  rwa [e1, e2] at h2
theorem zzP {α : Type} [Inhabited α] {d : Array α} {x : α} : x ∈ d.toList ↔ ∃ i, i < d.size ∧ d[i]! = x := by
  constructor
  · intro h
    obtain ⟨i, hi, rfl⟩ := List.getElem_of_mem h
    rw [Array.length_toList] at hi
    exact ⟨i, hi, by simp [hi]⟩
  · rintro ⟨i, hi, rfl⟩
    rw [show d[i]! = d.toList[i]'(by simpa using hi) by simp [hi]]
    exact List.getElem_mem _
theorem zuv (zs : List Int) : zeP zs = zkg zs := by
  have hS := Sort.swo_ltInt
  obtain ⟨⟨h1, -, -⟩, h3⟩ := Sort.sort_sorts Sort.ltInt hS zs.toArray
  refine zto (R := (· < ·)) (fun x => Int.lt_irrefl x) (fun x y z => Int.lt_trans) ?_ zfp fun x => ?_
  · have := zpN (lt := Sort.ltInt) (d := Sort.sort Sort.ltInt zs.toArray) (fun i j hij hj => h3 i j (Nat.zero_le _) hij (by rw [← h1]; exact hj)) (fun x y a b => by simp only [Sort.ltInt, decide_eq_false_iff_not] at a b; omega) (Nat.le_refl _)
    exact this.imp fun h => by simpa [Sort.ltInt] using h
  · rw [zlu, zeP, zhn, ← zzP, (ztD hS zs.toArray).mem_iff]
end Go.Ab
namespace Go.Ab
open Go Go.Proofs Go.MapKept Go.RowKit Go.WideMaps Go.Maps
variable {T : Nat → Obj → Prop}
set_option maxRecDepth 100000 in
theorem zpc (a : Option Addr) (cap : Nat) (vb : Value) (w : World) :
    Calls Tryz.prog 19 #[.slice a 0 cap, vb] w fun e w' => e = .returned (.map (some w.heap.size)) ∧ w.grownBy w' none ∧ w'.heap[w.heap.size]? = some (.map #[] 0) := by
  have hmm := @run_makeMap Tryz.prog
  have hrange := run_range_map (P := Tryz.prog) (w.alloc (.map #[] 0)) 49 3 47 w.heap.size #[] 0 Tryz.underlying49 (heap_alloc_new _ _)
  have hnext : (Instr.next (.pointer (some ⟨w.heap.size + 1, 0, none⟩)) false 0).run Tryz.prog ((w.alloc (.map #[] 0)).alloc (.mapIter (some w.heap.size) 0 #[] 0)) = .ok (.tuple #[.bool false]) ((w.alloc (.map #[] 0)).alloc (.mapIter (some w.heap.size) 0 #[] 0)) := by
    rcases run_next_at (P := Tryz.prog) ((w.alloc (.map #[] 0)).alloc (.mapIter (some w.heap.size) 0 #[] 0)) 0 (w.heap.size + 1) w.heap.size 0 0 #[] #[] 0 (by have := heap_alloc_new (w.alloc (.map #[] 0)) (.mapIter (some w.heap.size) 0 #[] 0); simpa using this)
      ((heap_alloc_old _ _ (by simp)).trans (heap_alloc_new _ _)) (by simp) (Nat.le_refl _) with ⟨-, h⟩ | ⟨e, he, -⟩
    · exact h
    · simp [leftOf] at he
  simp only [show (w.alloc (.map #[] 0)).heap.size = w.heap.size + 1 by simp] at hrange
  go_enter Tryz.func19, Tryz.ntmps19
  go_wp2
  refine wp_loop_rounds 1 ?_
  rw [rounds_succ]
  go_wp2
  refine wp_loop_rounds 1 ?_
  rw [rounds_succ]
  go_wp2
  go_ret
  exact ⟨rfl, (World.grownBy_alloc _ _ _).trans (World.grownBy_alloc _ _ _), (heap_alloc_old _ _ (by simp)).trans (heap_alloc_new _ _)⟩
theorem zyD : zaY T := by
  intro cell rank hle h64
  refine ziq ⟨_, Tryz.func19, by decide, rfl⟩ fun B σ a w args hT hS hsz hargs => ?_
  have ha : args = #[args.getD 0 undef, args.getD 1 undef] := by
    apply Array.ext
    · simpa using hsz
    · intro i h1 h2
      match i, h2 with
      | 0, _ => simp [Array.getD, show 0 < args.size by omega]
      | 1, _ => simp [Array.getD, show 1 < args.size by omega]
  have h0 := hargs 0 (by simp)
  have h1 := hargs 1 (by simp)
  have fin : ∀ (e : Ending) (w' : World) (es : Array MapEntry) (clock : Nat) (blk : Nat → Nat), e = .returned (.map (some w.heap.size)) → w.grownBy w' none → Grp (O2 (w.heap.size + 1)) w' w.heap.size ((zM cell rank cell.length).map fun p => (p.1, zeP p.2)) es clock blk →
      ∃ v' σ', e = .returned v' ∧ Sim B (fun _ => .undef) (zp []) (fun i => ([] : List (Option Ob)).length ≤ i) σ' a w' ∧ VSim σ' (zp []) (fun i => ([] : List (Option Ob)).length ≤ i) (B.X σ' (zp [])) w' (.d (.map (zgm cell rank))) v' ∧
        ∀ i ob, ([] : List Ob)[i]? = some ob → zp [] i = none ∨ (σ' i = σ i ∧ ∃ ob', zp [] i = some ob' ∧ zbN ob ob') := by
    intro e w' es clock blk he hg hG
    have hX : ∀ b, w.heap.size ≤ b → ¬B.X σ (zp []) b := by
      rintro b hb (h | ⟨id, h, -⟩)
      · have := hS.olt b h; omega
      · exact h (by simp [zp])
    have hgl : ((zM cell rank cell.length).map fun p => (p.1, zeP p.2)).length = (zC cell).length := by simp [zM]
    have hgd : ∀ i, i < (zC cell).length → ((zM cell rank cell.length).map fun p => (p.1, zeP p.2)).getD i default = ((zC cell).getD i 0, zam cell rank ((zC cell).getD i 0)) := by
      intro i hi
      simp only [zM, List.take_length, List.map_map, List.getD, List.getElem?_map, List.getElem?_eq_getElem hi, Option.map_some, Option.getD_some, Function.comp, zuv]
      rfl
    refine ⟨_, σ, he, ⟨fun t => .undef _, fun id ob h => by simp [zp] at h, fun i j b h => absurd (by simp [zp]) h, fun id b h => absurd (by simp [zp]) h, fun _ _ => by simp [zp], ?_, hS.nt, fun b hb => Nat.lt_of_lt_of_le (hS.olt b hb) hg.size, fun b o hp => (hg.block b (zj (hS.pins b o hp)) (by simp)).trans (hS.pins b o hp), fun id l h => by simp [zp] at h⟩, .d _ _ ?_, fun i ob h => by simp at h⟩
    · refine ⟨hg.os.trans hS.kept.os, hg.tape.trans hS.kept.tape, hg.output.trans hS.kept.output, Nat.le_trans hS.kept.size hg.size, fun b hb hR => (hg.block b (Nat.lt_of_lt_of_le hb hS.kept.size) (by simp)).trans (hS.kept.block b hb hR), fun b c e h => ?_⟩
      obtain ⟨c', h1, h2⟩ := hS.kept.cells b c e h
      exact ⟨c', (hg.block b (zj h1) (by simp)).trans h1, h2⟩
    · refine .map _ _ es clock (hX _ (Nat.le_refl _)) (zj hG.heap) hG.heap (by rw [hG.size, hgl]; simp) hG.st (fun i hi => ?_) (fun i hi => ?_)
      · rw [List.length_map] at hi
        rw [hG.key i (by rw [hgl]; exact hi), hgd i hi, show ((zC cell).map fun c => (D.int .i64 c, dI (zam cell rank c))).getD i (.nil, .nil) = (D.int .i64 ((zC cell).getD i 0), dI (zam cell rank ((zC cell).getD i 0))) by simp [List.getD, hi]]
        exact .int .i64 _ (by simp)
      · rw [List.length_map] at hi
        have hv := hG.val i (by rw [hgl]; exact hi)
        rw [hgd i hi] at hv
        rw [show ((zC cell).map fun c => (D.int .i64 c, dI (zam cell rank c))).getD i (.nil, .nil) = (D.int .i64 ((zC cell).getD i 0), dI (zam cell rank ((zC cell).getD i 0))) by simp [List.getD, hi]]
        simp only
        generalize zam cell rank ((zC cell).getD i 0) = zs at hv
        replace hv : O2 (w.heap.size + 1) w' (es.getD i default).val (blk i) zs := hv
        obtain ⟨cap, c, e, q1, q2, q3, q4, q5, q6, q7⟩ := hv
        rw [q1]
        have hl : (zs.map (D.int .i64)).length = zs.length := List.length_map _
        rw [← hl]
        refine .arr 1 (zs.map (D.int .i64)) (blk i) 0 cap (fun j => c.getD j undef) (hX _ (by omega)) (zj q3) (fun x hx => ?_) (by omega) (by omega) (fun j hj => ?_) (fun j k hj hk => ?_)
        · obtain ⟨y, -, rfl⟩ := List.mem_map.1 hx; rfl
        · have hjc : j < c.size := by omega
          simp [World.cell?, q3, Array.getD_eq_getD_getElem?, hjc]
        · have : k = 0 := by omega
          subst this
          rw [hl] at hj
          rw [Nat.mul_one, Nat.add_zero]
          rw [q7 j hj, show (zs.map (D.int .i64)).getD j .nil = .int .i64 (zs.getD j 0) by simp [List.getD, hj]]
          exact .int .i64 _ (by simp)
  have read : ∀ (xs : List Int) (v : Value), xs ≠ [] → zi (B.X σ (zp [])) w (dI xs) v → ∃ b off cap, v = .slice (some ⟨b, off, none⟩) xs.length cap ∧ b < w.heap.size ∧ ∀ j, j < xs.length → w.cell? ⟨b, off + j, none⟩ = some (.int .i64 (at0 xs j)) := by
    intro xs v hne hd
    unfold dI at hd
    have hl : (xs.map (D.int .i64)).length = xs.length := List.length_map _
    generalize hys : xs.map (D.int .i64) = ys at hd hl
    cases hd with
    | arr0 s a cap => exact absurd (List.eq_nil_of_length_eq_zero (by simpa using hl.symm)) hne
    | arr s _ b off cap cv g1 g2 g3 g4 g5 g6 g7 =>
      refine ⟨b, off, cap, by rw [hl], g2, fun j hj => ?_⟩
      have h6 := g6 j (by omega)
      have h7 := g7 j 0 (by omega) (by omega)
      rw [Nat.mul_one, Nat.add_zero, ← hys, show (xs.map (D.int .i64)).getD j .nil = .int .i64 (at0 xs j) by simp [List.getD, at0, hj]] at h7
      rw [h6]
      generalize cv j = z at h7
      cases h7; rfl
  rw [ha]
  have e0 : ([V.d (dI cell), V.d (dI rank)].getD 0 .undef) = .d (dI cell) := rfl
  have e1 : ([V.d (dI cell), V.d (dI rank)].getD 1 .undef) = .d (dI rank) := rfl
  rw [e0] at h0
  rw [e1] at h1
  generalize args.getD 0 undef = va at h0
  generalize args.getD 1 undef = vb at h1
  cases h0 with
  | d _ _ hd0 =>
  cases h1 with
  | d _ _ hd1 =>
  by_cases hc : cell = []
  · subst hc
    have hv : ∃ a' cap, va = .slice a' 0 cap := by
      unfold dI at hd0
      cases hd0 with
      | arr0 s a' cap => exact ⟨a', cap, rfl⟩
      | arr s _ b off cap cv => exact ⟨_, cap, rfl⟩
    obtain ⟨a', cap, rfl⟩ := hv
    refine (zpc a' cap vb w).mono ?_
    rintro e w' ⟨he, hg, hh⟩
    exact fin e w' #[] 0 (fun _ => 0) he hg ⟨hh, ⟨fun i j hi => by simp at hi, fun i hi => by simp at hi⟩, rfl, fun i hi => by simp [zM, zC] at hi, fun i hi => by simp [zM, zC] at hi, fun i j hi => by simp [zM, zC] at hi⟩
  · have hpos : 0 < cell.length := List.length_pos_iff.2 hc
    obtain ⟨b1, o1, cap1, rfl, l1, c1⟩ := read cell va hc hd0
    obtain ⟨b2, o2, cap2, rfl, l2, c2⟩ := read rank vb (fun e => by rw [e] at hle; simp at hle; exact hc (List.eq_nil_of_length_eq_zero (by simp [hle]))) hd1
    refine (zpd (T := T) b1 o1 cap1 b2 o2 cap2 rank.length cell rank w hpos hle (by omega) (fun b o ht => hS.pins b o (hT b o ht)) l1 l2 c1 (fun j hj => c2 j (by omega))).mono ?_
    rintro e w' ⟨he, hg, es, clock, blk, hG⟩
    exact fin e w' es clock blk he hg hG
end Go.Ab
namespace Go.Ab
open Go Go.Proofs Go.MapKept
theorem Sim.grown {B : zu} {ρ : Nat → V} {M : Nat → Option Ob} {F : Nat → Prop} {σ : Nat → Option Nat} {a : Act} {w w' : World} (h : Sim B ρ M F σ a w) (hg : w.grownBy w' none) : Sim B ρ M F σ a w' := by
  refine h.step ⟨fun id ob hid => .inr ⟨rfl, ob, hid, zbN.refl ob⟩, fun id h1 h2 => ⟨h1, h2⟩, hg.size, fun b _ hb => hg.block b hb (by simp), fun b _ hx => hx, fun id b c e _ _ hc => ⟨c, (hg.block b (zj hc) (by simp)).trans hc, rfl⟩⟩
    (fun id ob hid => .inl ⟨hid, rfl, fun b hb => ?_⟩) h.inj h.mine h.free ?_ (fun b hb => hg.block b (h.olt b hb) (by simp)) (fun _ _ h => h)
  · obtain ⟨o, ho⟩ := (h.mem id ob hid).block hb
    exact hg.block b (zj ho) (by simp)
  · refine ⟨hg.os.trans h.kept.os, hg.tape.trans h.kept.tape, hg.output.trans h.kept.output, Nat.le_trans h.kept.size hg.size, fun b hb hR => (hg.block b (Nat.lt_of_lt_of_le hb h.kept.size) (by simp)).trans (h.kept.block b hb hR), fun b c e hc => ?_⟩
    obtain ⟨c', h1, h2⟩ := h.kept.cells b c e hc
    exact ⟨c', (hg.block b (zj h1) (by simp)).trans h1, h2⟩
theorem zw2 {w w' : World} {X : Nat → Prop} {cell rank : List Int} {es : Array MapEntry} {clock : Nat} {blk : Nat → Nat} (hX : ∀ b, w.heap.size ≤ b → ¬X b)
    (hG : Grp (O2 (w.heap.size + 1)) w' w.heap.size ((zM cell rank cell.length).map fun p => (p.1, zeP p.2)) es clock blk) : zi X w' (.map (zgm cell rank)) (.map (some w.heap.size)) := by
  have hgl : ((zM cell rank cell.length).map fun p => (p.1, zeP p.2)).length = (zC cell).length := by simp [zM]
  have hgd : ∀ i, i < (zC cell).length → ((zM cell rank cell.length).map fun p => (p.1, zeP p.2)).getD i default = ((zC cell).getD i 0, zam cell rank ((zC cell).getD i 0)) := by
    intro i hi
    simp only [zM, List.take_length, List.map_map, List.getD, List.getElem?_map, List.getElem?_eq_getElem hi, Option.map_some, Option.getD_some, Function.comp, zuv]
    rfl
  refine .map _ _ es clock (hX _ (Nat.le_refl _)) (zj hG.heap) hG.heap (by rw [hG.size, hgl]; simp) hG.st (fun i hi => ?_) (fun i hi => ?_)
  · rw [List.length_map] at hi
    rw [hG.key i (by rw [hgl]; exact hi), hgd i hi, show ((zC cell).map fun c => (D.int .i64 c, dI (zam cell rank c))).getD i (.nil, .nil) = (D.int .i64 ((zC cell).getD i 0), dI (zam cell rank ((zC cell).getD i 0))) by simp [List.getD, hi]]
    exact .int .i64 _ (by simp)
  · rw [List.length_map] at hi
    have hv := hG.val i (by rw [hgl]; exact hi)
    rw [hgd i hi] at hv
    rw [show ((zC cell).map fun c => (D.int .i64 c, dI (zam cell rank c))).getD i (.nil, .nil) = (D.int .i64 ((zC cell).getD i 0), dI (zam cell rank ((zC cell).getD i 0))) by simp [List.getD, hi]]
    simp only
    generalize zam cell rank ((zC cell).getD i 0) = zs at hv
    replace hv : O2 (w.heap.size + 1) w' (es.getD i default).val (blk i) zs := hv
    obtain ⟨cap, c, e, q1, q2, q3, q4, q5, q6, q7⟩ := hv
    rw [q1]
    have hl : (zs.map (D.int .i64)).length = zs.length := List.length_map _
    rw [← hl]
    refine .arr 1 (zs.map (D.int .i64)) (blk i) 0 cap (fun j => c.getD j undef) (hX _ (by omega)) (zj q3) (fun x hx => ?_) (by omega) (by omega) (fun j hj => ?_) (fun j k hj hk => ?_)
    · obtain ⟨y, -, rfl⟩ := List.mem_map.1 hx; rfl
    · have hjc : j < c.size := by omega
      simp [World.cell?, q3, Array.getD_eq_getD_getElem?, hjc]
    · have : k = 0 := by omega
      subst this
      rw [hl] at hj
      rw [Nat.mul_one, Nat.add_zero]
      rw [q7 j hj, show (zs.map (D.int .i64)).getD j .nil = .int .i64 (zs.getD j 0) by simp [List.getD, hj]]
      exact .int .i64 _ (by simp)
end Go.Ab
namespace Go.Ab
open Go Go.Proofs Go.MapKept
variable {T : Nat → Obj → Prop}
theorem zw3 {cell rank : List Int} (hle : cell.length ≤ rank.length) (h64 : rank.length ≤ 64) : Fn Tryz.prog T zeJ [.own 0, .own 1] [zaI cell, zaI rank] (.d (.map (zgm cell rank))) [some (zaI cell), some (zaI rank)] := by
  refine ziq ⟨_, Tryz.func19, by decide, rfl⟩ fun B σ a w args hT hS hsz hargs => ?_
  have ha : args = #[args.getD 0 undef, args.getD 1 undef] := by
    apply Array.ext
    · simpa using hsz
    · intro i h1 h2
      match i, h2 with
      | 0, _ => simp [Array.getD, show 0 < args.size by omega]
      | 1, _ => simp [Array.getD, show 1 < args.size by omega]
  have h0 := hargs 0 (by simp)
  have h1 := hargs 1 (by simp)
  have fin : ∀ (e : Ending) (w' : World) (es : Array MapEntry) (clock : Nat) (blk : Nat → Nat), e = .returned (.map (some w.heap.size)) → w.grownBy w' none → Grp (O2 (w.heap.size + 1)) w' w.heap.size ((zM cell rank cell.length).map fun p => (p.1, zeP p.2)) es clock blk →
      ∃ v' σ', e = .returned v' ∧ Sim B (fun _ => .undef) (zp [some (zaI cell), some (zaI rank)]) (fun i => 2 ≤ i) σ' a w' ∧ VSim σ' (zp [some (zaI cell), some (zaI rank)]) (fun i => 2 ≤ i) (B.X σ' (zp [some (zaI cell), some (zaI rank)])) w' (.d (.map (zgm cell rank))) v' ∧
        ∀ i ob, [zaI cell, zaI rank][i]? = some ob → zp [some (zaI cell), some (zaI rank)] i = none ∨ (σ' i = σ i ∧ ∃ ob', zp [some (zaI cell), some (zaI rank)] i = some ob' ∧ zbN ob ob') := by
    intro e w' es clock blk he hg hG
    refine ⟨_, σ, he, hS.grown hg, .d _ _ (zw2 (fun b hb => ?_) hG), fun i ob hi => .inr ⟨rfl, ob, ?_, zbN.refl ob⟩⟩
    · rintro (h | ⟨id, h, h2⟩)
      · have := hS.olt b h; omega
      · obtain ⟨ob, hob⟩ := Option.ne_none_iff_exists'.1 h
        obtain ⟨o, ho⟩ := (hS.mem id ob hob).block h2
        have := zj ho; omega
    · match i, hi with
      | 0, hi => simpa [zp] using hi
      | 1, hi => simpa [zp] using hi
  rw [ha]
  have m0 : zp ([zaI cell, zaI rank].map some) 0 = some (zaI cell) := rfl
  have m1 : zp ([zaI cell, zaI rank].map some) 1 = some (zaI rank) := rfl
  change VSim _ _ _ _ _ (.own 0) _ at h0
  change VSim _ _ _ _ _ (.own 1) _ at h1
  generalize args.getD 0 undef = va at h0
  generalize args.getD 1 undef = vb at h1
  have rd : ∀ {g : Nat} {v : Value} {xs : List Int}, O2 0 w v g xs → ∃ cap, v = .slice (some ⟨g, 0, none⟩) xs.length cap ∧ g < w.heap.size ∧ ∀ j, j < xs.length → w.cell? ⟨g, 0 + j, none⟩ = some (.int .i64 (at0 xs j)) := by
    rintro g v xs ⟨cap, c, e, q1, -, q3, q4, q5, -, q7⟩
    refine ⟨cap, q1, zj q3, fun j hj => ?_⟩
    have hjc : j < c.size := by omega
    have := q7 j hj
    rw [Array.getD_eq_getD_getElem?, Array.getElem?_eq_getElem hjc] at this
    simp only [Option.getD_some] at this
    simp [World.cell?, q3, hjc, this, at0]
  by_cases hc : cell = []
  · subst hc
    have hv : ∃ a' cap, va = .slice a' 0 cap := by
      cases h0 with
      | ownDead _ ad l c g1 => rw [m0] at g1; cases g1
      | ownNil => exact ⟨none, 0, rfl⟩
      | own _ s xs b cap c e g1 g2 g3 g4 g5 =>
        rw [m0] at g1
        simp only [zaI, Option.some.injEq, Ob.row.injEq] at g1
        obtain ⟨-, rfl⟩ := g1
        exact ⟨_, cap, rfl⟩
    obtain ⟨a', cap, rfl⟩ := hv
    refine (zpc a' cap vb w).mono ?_
    rintro e w' ⟨he, hg, hh⟩
    exact fin e w' #[] 0 (fun _ => 0) he hg ⟨hh, ⟨fun i j hi => by simp at hi, fun i hi => by simp at hi⟩, rfl, fun i hi => by simp [zM, zC] at hi, fun i hi => by simp [zM, zC] at hi, fun i j hi => by simp [zM, zC] at hi⟩
  · have hpos : 0 < cell.length := List.length_pos_iff.2 hc
    obtain ⟨g1, -, o1⟩ := zqk h0 (hS.mem 0 _ m0) m0 (by omega) hc
    obtain ⟨g2, -, o2⟩ := zqk h1 (hS.mem 1 _ m1) m1 (by omega) (fun e => by rw [e] at hle; simp at hle; exact hc hle)
    obtain ⟨cap1, rfl, l1, c1⟩ := rd o1
    obtain ⟨cap2, rfl, l2, c2⟩ := rd o2
    refine (zpd (T := T) g1 0 cap1 g2 0 cap2 rank.length cell rank w hpos hle (by omega) (fun b o ht => hS.pins b o (hT b o ht)) l1 l2 c1 (fun j hj => c2 j (by omega))).mono ?_
    rintro e w' ⟨he, hg, es, clock, blk, hG⟩
    exact fin e w' es clock blk he hg hG
end Go.Ab
namespace Go.Ab
open Go Go.Proofs
set_option maxRecDepth 10000
set_option maxHeartbeats 4000000
variable {T:Nat→Obj→Prop}
def ztb:Fs:=fun f vs obs =>
 cond (Nat.beq f zeJ) (match vs,obs with
  | [.d (.arr 1 a),.d (.arr 1 b)],[]=>match zj2 a,zj2 b with
   | some a,some b=>cond (Nat.ble a.length b.length&&Nat.ble a.length 64) (some (.d (.map (zgm a b)),[])) none
   | _,_=>none
  | [.own 0,.own 1],[.row 1 a,.row 1 b]=>match zj2 a,zj2 b with
   | some a,some b=>cond (Nat.ble a.length b.length&&Nat.ble b.length 64) (some (.d (.map (zgm a b)),[some (.row 1 (a.map (D.int .i64))),some (.row 1 (b.map (D.int .i64)))])) none
   | _,_=>none
  | _,_=>none)
 (cond (Nat.beq f zdH) (match vs,obs with
  | [.d (.u64 w)],[]=>some (.d (.int .i64 (Sort.bitsLen w.toNat:Int)),[])
  | _,_=>none) none)
noncomputable def zAl:Cfg:=⟨zf Tryz.prog,ztb,fun _ _ _=>none,fun _=>false,fun f=>Nat.beq f zc2,150⟩
theorem zwM:zuR Tryz.prog T ztb:=by
 intro f vs obs v obs' h
 unfold ztb at h
 cases h1:Nat.beq f zeJ with
 | true =>
  rw [h1,cond_true] at h
  rw [Nat.eq_of_beq_eq_true h1]
  split at h
  ·split at h
   ·rename_i a b ha hb
    rw [zhB ha,zhB hb]
    cases hc:Nat.ble a.length b.length&&Nat.ble a.length 64 with
    | true =>
     rw [hc] at h
     rw [Bool.and_eq_true,Nat.ble_eq,Nat.ble_eq] at hc
     cases h
     exact zyD _ _ hc.1 hc.2
    | false=>rw [hc] at h;cases h
   ·cases h
  ·split at h
   ·rename_i a b ha hb
    rw [zhB ha,zhB hb]
    cases hc:Nat.ble a.length b.length&&Nat.ble b.length 64 with
    | true =>
     rw [hc] at h
     rw [Bool.and_eq_true,Nat.ble_eq,Nat.ble_eq] at hc
     cases h
     exact zw3 hc.1 hc.2
    | false=>rw [hc] at h;cases h
   ·cases h
  ·cases h
 | false =>
  rw [h1,cond_false] at h
  cases h4:Nat.beq f zdH with
  | true =>
   rw [h4,cond_true] at h
   rw [Nat.eq_of_beq_eq_true h4]
   split at h
   ·cases h;exact zsV _
   ·cases h
  | false=>rw [h4] at h;cases h
theorem zzw:zuQ Tryz.prog T zAl:=⟨fun f c h=>h,zwM,fun g vs obs xs h=>by cases h⟩
set_option maxRecDepth 1000000 in
theorem ztx:evF zAl 60 zc2 [] []=some (.d (.bool true),[]):=by kernel_rfl
theorem zAW:Fn Tryz.prog T zc2 [] [] (.d (.bool true)) []:=zqJ zn zzw 60 _ _ _ _ _ ztx
end Go.Ab
