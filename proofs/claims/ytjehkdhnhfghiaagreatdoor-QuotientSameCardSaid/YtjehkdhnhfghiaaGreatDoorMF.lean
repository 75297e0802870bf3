/- A part of the proofs of this seat: functions and their contracts. -/
import Derived.Test.YtjehkdhnhfghiaaGreatDoorME
import Derived.Shelf.Strconv.Itoa0
import Derived.Laws.IdiomStrings
import Derived.WalkKit
import Derived.CellFam
import Derived.Sort.Row
set_option linter.unusedVariables false
set_option linter.unusedSimpArgs false
set_option linter.unusedSectionVars false
namespace Go.Ab
open Go Go.Proofs
set_option maxRecDepth 10000
set_option maxHeartbeats 4000000
variable {T:Nat→Obj→Prop}
theorem zwK (m:KM) (R:List (List (BitVec 64))):Fn Tryz.prog T zjY [.d (dKM m),.d (dUU R)] [] (.fn zdy [.ptr 0 0,.ptr 1 0]) [some (zR m),some (.box [.d (dUU R)])]:=by
 refine zaL zm zrt (by show 2≤6;decide) _ (fun e env mem n h=>h) ?_
 (repeat' ((conv=>whnf);refine vT ?_));all_goals try conv=>whnf
 exact ⟨trivial,_,[(0,0),(1,1)],[],rfl,.inl (by (repeat' first|exact rfl|refine And.intro ?_ ?_|refine ⟨_,rfl,?_⟩)),⟨rfl,rfl,rfl,trivial,by (repeat' first|exact trivial|exact rfl|refine And.intro ?_ ?_|refine ⟨_,rfl,?_⟩|exact of_decide_eq_true rfl)⟩,trivial⟩
def zey (m:KM) (j:Nat):Prop:=ptL m.W.toNat (z7 m (j+1))=ptL m.W.toNat (z7 m j)
instance (m:KM) (j:Nat):Decidable (zey m j):=inferInstanceAs (Decidable (_=_))
def zq2 (m:KM):Nat:=zK (fun v _=>decide (zey m v)) 65
theorem zuQ {m:KM} {j:Nat} (hj:j < 65) (h:zey m j) (hn : ∀ i,i < j → ¬zey m i):zq2 m=j:=by
 have h1:=zkp (fun v _=>decide (zey m v)) 65
 rcases Nat.lt_trichotomy (zq2 m) j with hl|hl|hl
 ·exfalso
  rcases h1.1 with ⟨h2,h3⟩|h2
  ·exact hn _ hl (of_decide_eq_true h3)
  ·unfold zq2 at hl;omega
 ·exact hl
 ·have:=h1.2 j hl
  simp [h] at this
def zDb (m:KM):Nat→V
 | 0 => .nils 1
 | k+1 => .d (dI (ptL m.W.toNat (z7 m k)))
theorem zB8 {m:KM} {N i:Nat} {x:List D} (h:(zew m N 0)[i]? = some x):x=[dI (ptL m.W.toNat (z7 m i))]∧i≤N:=by
 unfold zew at h
 rw [List.drop_zero,List.getElem?_map,Option.map_eq_some_iff] at h
 obtain ⟨j,hj,rfl⟩:=h
 have hi:=(List.getElem?_eq_some_iff.1 hj).1
 rw [List.length_range] at hi
 rw [List.getElem?_range hi] at hj
 cases hj
 exact ⟨rfl,by omega⟩
theorem zAJ (m:KM) (N:Nat):(zew m N 0).length=N+1:=by simp [zew]
theorem zwL (hT:zbV T) (hX:zfj T) {m:KM} (hk0:za m=0):Fn Tryz.prog T zjZ [.d (dKM m),.d (dUU m.rel)] [] (.d (.tup [dI (ptL m.W.toNat (cq m)),.int .i64 (zq2 m:Int)])) []:=by
 have hg0:=zn hk0
 have w1:=hg0.w1
 have w2:=hg0.w2
 refine zb zm zru (by show 2≤21;decide) ?_
 (repeat' ((conv=>whnf);first|refine vA ?_|refine vT ?_));all_goals try conv=>whnf
 refine zaO.res (zwK m m.rel) (by (repeat refine ⟨⟨rfl,rfl⟩,?_⟩);rfl) ?_
 (repeat' ((conv=>whnf);refine vT ?_));all_goals try conv=>whnf
 refine zxj (zyn hT hX hk0 (m.W.toNat+1)) [3,4] [] (by first|((repeat refine ⟨⟨rfl,rfl⟩,?_⟩);rfl)|(repeat' first|exact rfl|refine And.intro ?_ ?_|refine ⟨_,rfl,?_⟩)) (by (repeat' first|exact rfl|refine And.intro ?_ ?_|refine ⟨_,rfl,?_⟩)) (by rfl) (by rfl) [(6,.ptr 0 0),(7,.ptr 1 0)] (fun ((a,c):Nat×Int)=>[(0,some (.box [zDb m a])),(1,some (.box [.d (.int .i64 c)]))]) 2 (fun i ((a,c):Nat×Int)=>a=i∧c=(i:Int) - 1 ∧ ∀ j,j+1 < i → ¬zey m j) ((0,-1)) [(0,1),(1,2)] [] (⟨rfl,rfl,fun j hj=>by omega⟩) (by (refine ⟨rfl,rfl,rfl,?_,?_⟩;repeat' first|exact trivial|exact rfl|refine And.intro ?_ ?_|refine ⟨_,rfl,?_⟩|decide)) ?_ ?_
 ·rintro i x ⟨a,c⟩ hx ⟨rfl,hcc,hJ⟩
  obtain ⟨rfl,hi⟩:=zB8 hx
  refine ⟨rfl,?_⟩
  cases a with
  | zero =>
   have ce:=zmU (T:=T) (ptL m.W.toNat (z7 m 0)) []
   rw [show (ptL m.W.toNat (z7 m 0)==[])=false by
    rw [beq_eq_false_iff_ne];intro e;have:=congrArg List.length e;rw [z1] at this;simp at this;omega] at ce
   (repeat' ((conv=>whnf);first|refine vA ?_|refine vH ?_|refine vT ?_|(refine vO ?_ ?_;·omega)|refine yD ce ⟨⟨rfl,rfl⟩,⟨rfl,rfl⟩,rfl⟩ rfl ?_));all_goals try conv=>whnf
   ·exact ⟨(0+1,c+1),[(0,0),(1,1)],[],⟨rfl,by omega,fun j hj=>by omega⟩,by (refine ⟨rfl,rfl,rfl,?_,?_⟩;repeat' first|exact trivial|exact rfl|refine And.intro ?_ ?_|refine ⟨_,rfl,?_⟩|decide)⟩
   all_goals omega
  | succ k =>
   (repeat' ((conv=>whnf);first|refine vA ?_|(refine vI ?_ ?_<;>intro hc)|refine vT ?_|(refine vO ?_ ?_;·omega)|(refine vU ?_ ?_;·kernel_rfl)|refine yD (zmU _ _) ⟨⟨rfl,rfl⟩,⟨rfl,rfl⟩,rfl⟩ rfl ?_));all_goals try conv=>whnf
   ·show some (D.tup [dI (ptL m.W.toNat (z7 m k)),.int .i64 c])=_
    have hs:zey m k:=by simpa [zey] using hc
    have hk:=zuQ (m:=m) (j:=k) (by omega) hs (fun i hi=>hJ i (by omega))
    rw [zrk (m:=m) (k:=k) (by omega) hs,hk,show c=(k:Int) by omega]
   ·have hs : ¬zey m k:=by simpa [zey] using hc
    exact ⟨(k+1+1,c+1),[(0,0),(1,1)],[],⟨rfl,by omega,fun j hj=>by
     by_cases e:j=k
     ·subst e;exact hs
     ·exact hJ j (by omega)⟩,by (refine ⟨rfl,rfl,rfl,?_,?_⟩;repeat' first|exact trivial|exact rfl|refine And.intro ?_ ?_|refine ⟨_,rfl,?_⟩|decide)⟩
   all_goals omega
 ·rintro ⟨a,c⟩ ⟨rfl,hcc,hJ⟩
  rw [zAJ] at hJ
  have:=zvM (m:=m) (k:=m.W.toNat+1) fun j hj=>hJ j (by omega)
  omega
def zbg (m:KM):List Int×Int:=if za m≠0 then ([],za m) else (ptL m.W.toNat (cq m),0)
abbrev dLI (x:List Int×Int):D := .tup [dI x.1,.int .i64 x.2]
theorem zif (hT:zbV T) (hX:zfj T) (m:KM):Fn Tryz.prog T zdx [.d (dKM m)] [] (.d (dLI (zbg m))) []:=by
 refine zb zm zpi (by show 1≤20;decide) ?_
 by_cases hk0:za m=0
 ·have cs:=zwL (T:=T) hT hX hk0
  (repeat' ((conv=>whnf);first|refine vA ?_|(refine vD ?_ ?_<;>intro hc)|refine vT ?_|refine yD (zaY m) ⟨⟨rfl,rfl⟩,rfl⟩ rfl ?_|refine yN cs ⟨⟨rfl,rfl⟩,⟨rfl,rfl⟩,rfl⟩ ?_));all_goals try conv=>whnf
  ·exact absurd hk0 (by omega)
  ·rw [zbg,if_neg (by omega)];rfl
 ·(repeat' ((conv=>whnf);first|refine vA ?_|(refine vD ?_ ?_<;>intro hc)|refine vT ?_|refine yD (zaY m) ⟨⟨rfl,rfl⟩,rfl⟩ rfl ?_));all_goals try conv=>whnf
  ·rw [zbg,if_pos hk0];rfl
  ·exact absurd ‹za m=0› hk0
theorem zwS (a b:List Int):Fn Tryz.prog T zdX [.d (dI a),.d (dI b)] [] (.d (.bool (a==b))) []:=by
 refine zb zm zgq (by show 2≤26;decide) ?_
 (repeat' ((conv=>whnf);first|refine vA ?_|(refine vD ?_ ?_<;>intro hc<;>try simp only [vL] at hc)|refine vJ fun hg=>?_|refine vT ?_|refine vZ ?_));all_goals try conv=>whnf
 ·have:a≠b:=fun e=>hc (by rw [e])
  simp [this]
 ·refine zM (fun (k:Nat)=>[(0,.d (dI a)),(1,.d (dI b)),(12,.d (.int .i64 ((a.map (D.int .i64)).length:Int))),(13,.d (.int .i64 ((k:Int))))]) (fun (k:Nat)=>k≤a.length∧(a==b)=(a.drop k==b.drop k)) (fun (k:Nat)=>a.length - k) (0) (⟨by simp,by simp⟩) (by (repeat' first|exact trivial|exact rfl|refine And.intro ?_ ?_)) ?_
  rintro k ⟨hk,hI⟩
  (repeat' ((conv=>whnf);first|refine vA ?_|((first|refine vD ?_ ?_|refine vF ?_ ?_)<;>intro hc<;>try simp only [vL] at hc)|refine vT ?_|(refine vQ ?_ fun x hx=>?_;·omega)|(refine vO ?_ ?_;·omega)|(refine vU ?_ ?_;·kernel_rfl)|refine vZ ?_));all_goals try conv=>whnf
  ·rw [hI,zt ‹a[k]? = some _›,zt ‹b[k]? = some _›];simp [hc]
  ·exact ⟨k+1,[],[],⟨by (omega),by rw [hI,zt ‹a[k]? = some _›,zt ‹b[k]? = some _›];simp [hc]⟩,by (omega),by (refine ⟨rfl,rfl,rfl,?_,?_⟩;repeat' first|exact trivial|exact rfl|refine And.intro ?_ ?_)⟩
  ·rw [hI,List.drop_eq_nil_of_le (by omega),List.drop_eq_nil_of_le (by omega)];rfl
theorem zvg {m:KM} (hk0:za m=0):Fn Tryz.prog T zf6 [.d (dKM m)] [] (.d (dI (ptL m.W.toNat (z7 m 0)))) []:=by
 have hg0:=zn hk0
 have w1:=hg0.w1
 have w2:=hg0.w2
 have cs:=zi5 (T:=T) (zsN m.W.toNat) (by omega) (zeB m) (by simp [zeB])
 rw [zb2 fun w hw=>zqh m hw] at cs
 have ct:=zoA (T:=T) m.W.toNat (by omega)
 rw [show ((m.W.toNat:Nat):Int)=m.W by omega] at ct
 refine zb zm zlz (by show 1≤34;decide) ?_
 (repeat' ((conv=>whnf);first|refine vA ?_|refine vT ?_));all_goals try conv=>whnf
 refine zf (fun ((k,zs):Nat×List D)=>[(1,.ptr 0 0),(3,.own 1),(4,.d (.int .i64 ((k:Int))))]) (fun ((k,zs):Nat×List D)=>[(0,some (zR m)),(1,some (.row 1 zs))]) 2 (fun ((k,zs):Nat×List D)=>k≤m.W.toNat∧zs=((List.range k).map (zF m)).map (D.int .i64)) (fun ((k,zs):Nat×List D)=>m.W.toNat - k) ((0,[])) [(0,0)]   [1] (⟨by simp,rfl⟩) (by (refine ⟨rfl,rfl,rfl,?_,?_⟩;repeat' first|exact trivial|exact rfl|exact ⟨_,rfl⟩|refine And.intro ?_ ?_|refine ⟨_,rfl,?_⟩|decide)) ?_
 rintro ⟨k,zs⟩ ⟨hk,hz⟩
 have hzl:zs.length=k:=by rw [hz];simp
 by_cases hkl:k < m.W.toNat
 ·have cfa:=zf9 (T:=T) m (k:Int)
  rw [zgx hk0 hkl] at cfa
  (repeat' ((conv=>whnf);first|refine vA ?_|(refine vF ?_ ?_<;>intro hc<;>try simp only [vL] at hc)|refine vT ?_|((first|refine vO ?_ ?_|refine vP ?_ ?_);·first|omega|(simp only [vM] at *;omega))|refine yD cfa ⟨⟨rfl,rfl⟩,⟨rfl,rfl⟩,rfl⟩ rfl ?_));all_goals try conv=>whnf
  ·refine ⟨(k+1,_),[(0,0),(1,3)],[],?_,?_,by (refine ⟨rfl,rfl,rfl,?_,?_⟩;repeat' first|exact trivial|exact rfl|refine And.intro ?_ ?_|refine ⟨_,rfl,?_⟩|decide)⟩
   ·exact ⟨by (omega),by rw [List.range_succ,List.map_append,List.map_append,hz];rfl⟩
   ·((simp only [vM] at *;omega))
  all_goals omega
 ·have e0:k=m.W.toNat:=by omega
  subst e0
  have hz:zs=(zeB m).map (D.int .i64):=hz
  subst hz
  (repeat' ((conv=>whnf);first|refine vA ?_|(refine vF ?_ ?_<;>intro hc<;>try simp only [vL] at hc)|refine vT ?_|refine yN ct ⟨⟨rfl,rfl⟩,rfl⟩ ?_|refine yN cs ⟨⟨rfl,rfl⟩,⟨rfl,rfl⟩,rfl⟩ ?_));all_goals try conv=>whnf
  ·omega
  ·rfl
theorem zz8 {m:KM} (hg:zkJ m) : ∀ r∈m.rel,r.length=m.W.toNat:=fun r hr=>by have:=hg.len r hr;omega
theorem zwX {m:KM} (hk0:za m=0):Fn Tryz.prog T zfK [.d (dI (ptL m.W.toNat (z7 m 0))),.d (dUU m.rel)] [] (.d (.tup [dI (ptL m.W.toNat (cq m)),.int .i64 (zq2 m:Int)])) []:=by
 have hg0:=zn hk0
 have w1:=hg0.w1
 have w2:=hg0.w2
 refine zb zm zkj (by show 2≤19;decide) ?_
 (repeat' ((conv=>whnf);refine vT ?_));all_goals try conv=>whnf
 refine zM (fun (j:Nat)=>[(0,.d (dI (ptL m.W.toNat (z7 m j)))),(1,.d (dUU m.rel)),(6,.d (.int .i64 ((j:Int))))]) (fun (j:Nat) => ∀ i,i < j → ¬zey m i) (fun (j:Nat)=>65 - j) (0) (fun i hi=>by omega) (by (repeat' first|exact trivial|exact rfl|refine And.intro ?_ ?_)) ?_
 rintro j hn
 have hj:=zvM (m:=m) (k:=j) hn
 have crf:Fn Tryz.prog T zdc [.d (dI (ptL m.W.toNat (z7 m j))),.d (dUU m.rel)] [] (.d (dI (ptL m.W.toNat (z7 m (j+1))))) []:=zwQ (zeL m j) (by omega) m.rel (zz8 hg0)
 (repeat' ((conv=>whnf);first|refine vA ?_|(refine vI ?_ ?_<;>intro hc)|refine vT ?_|(refine vO ?_ ?_;·omega)|refine yN crf (by (repeat refine ⟨⟨rfl,rfl⟩,?_⟩);rfl) ?_|refine yD (zwS _ _) ⟨⟨rfl,rfl⟩,⟨rfl,rfl⟩,rfl⟩ rfl ?_));all_goals try conv=>whnf
 ·have hs:zey m j:=by
   have:ptL m.W.toNat (z7 m j)=ptL m.W.toNat (z7 m (j+1)):=by simpa using hc
   exact this.symm
  have hk:=zuQ (m:=m) (j:=j) (by omega) hs hn
  rw [← zrk (m:=m) (k:=j) (by omega) hs,hk];rfl
 ·have hs : ¬zey m j:=fun e=>by
   have e:ptL m.W.toNat (z7 m (j+1))=ptL m.W.toNat (z7 m j):=e
   rw [e] at hc;simp at hc
  exact ⟨j+1,[],[],fun i hi=>by
   by_cases e:i=j
   ·subst e;exact hs
   ·exact hn i (by omega),by (omega),by (refine ⟨rfl,rfl,rfl,?_,?_⟩;repeat' first|exact trivial|exact rfl|refine And.intro ?_ ?_)⟩
 all_goals omega
theorem zmX (m:KM):Fn Tryz.prog T zeS [.d (dKM m)] [] (.d (dLI (zbg m))) []:=by
 refine zb zm ziR (by show 1≤21;decide) ?_
 by_cases hk0:za m=0
 ·have cfc:=zvg (T:=T) hk0
  have cs:=zwX (T:=T) hk0
  (repeat' ((conv=>whnf);first|refine vA ?_|(refine vD ?_ ?_<;>intro hc)|refine vT ?_|(refine vU ?_ ?_;·kernel_rfl)|refine yD (za8 m) ⟨⟨rfl,rfl⟩,rfl⟩ rfl ?_|refine yN cfc ⟨⟨rfl,rfl⟩,rfl⟩ ?_|refine yN cs ⟨⟨rfl,rfl⟩,⟨rfl,rfl⟩,rfl⟩ ?_));all_goals try conv=>whnf
  ·exact absurd hk0 (by omega)
  ·rw [zbg,if_neg (by omega)];rfl
 ·(repeat' ((conv=>whnf);first|refine vA ?_|(refine vD ?_ ?_<;>intro hc)|refine vT ?_|refine yD (za8 m) ⟨⟨rfl,rfl⟩,rfl⟩ rfl ?_));all_goals try conv=>whnf
  ·rw [zbg,if_pos hk0];rfl
  ·exact absurd ‹za m=0› hk0
end Go.Ab
namespace Go.Ab
open Go Go.Proofs
set_option maxRecDepth 10000
set_option maxHeartbeats 4000000
variable {T:Nat→Obj→Prop}
theorem zx0 (l:List Int) (h:l≠[]) (hl:l.length≤1000):Fn Tryz.prog T zb9 [.d (dI l)] [] (.own 0) [some (.row 1 (l.map (D.int .i64)))]:=by
 refine zaL zm zim (by show 1≤8;decide) _ (fun e env mem n h=>h) ?_
 (repeat' ((conv=>whnf);first|refine vA ?_|refine vB fun b hb=>?_|refine vE ?_|(refine vF ?_ ?_<;>intro hc)|refine vT ?_|(refine vP ?_ ?_;·(simp only [vM] at *;omega))|fail));all_goals try conv=>whnf
 ·refine ⟨trivial,_,[(0,1)],[],rfl,.inl (by (repeat' exact rfl)),⟨by rfl,by rfl,by rfl,trivial,by (repeat' first|exact trivial|exact rfl|refine And.intro ?_ ?_|refine ⟨_,rfl,?_⟩|exact of_decide_eq_true rfl)⟩,by (repeat' exact trivial)⟩
 ·exact absurd (List.map_eq_nil_iff.1 (hb (by simpa using hc))) h
theorem zA1 {n:Nat} {q:Nat→Nat} (hq:zad n q):zd2 (ptL n q)=(zac n q).map fun (x:Nat)=>(x:Int):=by
 have hs:((zac n q).map fun (x:Nat)=>(x:Int)).Pairwise (· < ·):=by
  rw [List.pairwise_map]
  refine List.Pairwise.imp (R:=(· < ·)) (fun h=>by omega) (List.Pairwise.filter _ List.pairwise_lt_range)
 have hn:(zd2 (ptL n q)).Nodup:=(za5 _).nodup_iff.2 (zbv _)
 refine zcq (zcL _) (hs.imp fun h=>Int.le_of_lt h) (zeH hn (hs.imp fun h e=>by subst e;omega) fun x=>?_)
 rw [zgE]
 unfold ptL zac
 simp only [List.mem_map,List.mem_filter,List.mem_range,decide_eq_true_eq]
 constructor
 ·rintro ⟨w,hw,rfl⟩
  have:=hq.le w hw
  exact ⟨q w,⟨by omega,hq.idem w hw⟩,rfl⟩
 ·rintro ⟨w,⟨hw,e⟩,rfl⟩
  exact ⟨w,hw,by rw [e]⟩
theorem zr4 {n:Nat} {q:Nat→Nat} (hq:zad n q) (h0:0 < n) (h12:n≤12):Fn Tryz.prog T zhr [.d (dI (ptL n q))] [] (.d (dN (zac n q))) []:=by
 have hl:(ptL n q).length=n:=z1
 have c0:=zx0 (T:=T) (ptL n q) (fun e=>by rw [e] at hl;simp at hl;omega) (by omega)
 have c1:=zow (T:=T) (ptL n q).toArray (by simp;omega)
 rw [show zbK (Sort.sort ltI (ptL n q).toArray) = .row 1 ((zbq (ptL n q)).map (D.int .i64)) by rw [zbK,zqZ]] at c1
 have hsl:(zbq (ptL n q)).length=n:=by rw [(za5 _).length_eq,hl]
 have c2:=ztO (T:=T) (zbq (ptL n q)).toArray (by simp;omega)
 rw [zxV,zA1 hq] at c2
 refine zb zm zoi (by show 1≤10;decide) ?_
 (repeat' ((conv=>whnf);refine vT ?_));all_goals try conv=>whnf
 refine zaO.res (c0) (by (repeat refine ⟨⟨rfl,rfl⟩,?_⟩);rfl) ?_
 (repeat' ((conv=>whnf);refine vT ?_));all_goals try conv=>whnf
 refine zaO.objs [0] (c1) (by (repeat' first|exact rfl|refine And.intro ?_ ?_|refine ⟨_,rfl,?_⟩)) (by (repeat' first|exact rfl|refine And.intro ?_ ?_)) (by rfl) (by rfl) (by simp) ?_
 (repeat' ((conv=>whnf);refine vT ?_));all_goals try conv=>whnf
 refine zaO.objs [0] (c2) (by (repeat' first|exact rfl|refine And.intro ?_ ?_|refine ⟨_,rfl,?_⟩)) (by (repeat' first|exact rfl|refine And.intro ?_ ?_)) (by rfl) (by rfl) (by simp) ?_
 (repeat' ((conv=>whnf);refine vT ?_));all_goals try conv=>whnf
 rfl
theorem zqk (s:BitVec 64) {n:Nat} {k:Nat→Nat} (hk : ∀ w,w < n→k w < 64):Fn Tryz.prog T zhs [.d (.u64 s),.d (dI (ptL n k))] [] (.d (.u64 (zak k s n))) []:=by
 have hl:(ptL n k).length=n:=z1
 refine zb zm zoj (by show 2≤26;decide) ?_
 (repeat' ((conv=>whnf);first|refine vA ?_|refine vJ fun hg=>?_|refine vT ?_));all_goals try conv=>whnf
 refine zM (fun ((j,o):Nat×BitVec 64)=>[(0,.d (.u64 (s))),(5,.d (.u64 (o))),(8,.d (dI (ptL n k))),(9,.d (.int .i64 (((ptL n k).map (D.int .i64)).length:Int))),(10,.d (.int .i64 ((j:Int))))]) (fun ((j,o):Nat×BitVec 64)=>j≤n∧o=zak k s j) (fun ((j,o):Nat×BitVec 64)=>n - j) ((0,0#64)) (⟨by simp,rfl⟩) (by (repeat' first|exact trivial|exact rfl|refine And.intro ?_ ?_)) ?_
 rintro ⟨j,o⟩ ⟨hj,ho⟩
 by_cases hjl:j < n
 ·have e1:=zG (q:=k) hjl
  (repeat' ((conv=>whnf);first|refine vA ?_|(refine vF ?_ ?_<;>intro hc<;>try simp only [vL] at hc)|refine vT ?_|refine vN ‹_› ?_|((first|refine vO ?_ ?_|refine vP ?_ ?_);·omega)|refine vY ?_));all_goals try conv=>whnf
  ·refine ⟨(j+1,_),[],[],?_,?_,by (refine ⟨rfl,rfl,rfl,?_,?_⟩;repeat' first|exact trivial|exact rfl|refine And.intro ?_ ?_)⟩
   ·exact ⟨by (omega),by rw [zcx,if_pos ((zfA s j).1 ‹_›),ho];rfl⟩
   ·((simp only [vM] at *;omega))
  ·refine ⟨(j+1,o),[],[],?_,?_,by (refine ⟨rfl,rfl,rfl,?_,?_⟩;repeat' first|exact trivial|exact rfl|refine And.intro ?_ ?_)⟩
   ·refine ⟨by (omega),?_⟩
    rw [zcx,if_neg,ho]
    intro h
    exact absurd ((zfA s j).2 h) ‹_›
   ·((simp only [vM] at *;omega))
  all_goals omega
 ·(repeat' ((conv=>whnf);first|refine vA ?_|(refine vF ?_ ?_<;>intro hc<;>try simp only [vL] at hc)|refine vT ?_|(refine vQ ?_ fun x hx=>?_;·omega)|((first|refine vO ?_ ?_|refine vP ?_ ?_);·omega)|refine vY ?_));all_goals try conv=>whnf
  all_goals try omega
  rw [ho,show j=n by omega]
theorem zwa {n:Nat} {q:Nat→Nat} : (zac n q).length=zo n q:=rfl
theorem zBN {n:Nat} {q:Nat→Nat} (hq:zad n q) {w:Nat} (hw:w < n):zfn (fun y=>((q w:Nat):Int)==y) ((zac n q).map fun (x:Nat)=>(x:Int))=((zz q w:Nat):Int):=by
 have h1:=zgG hq hw
 refine zg7 (by rw [List.getElem?_map,h1];rfl) (by simp) fun i y hi hy=>?_
 rw [List.getElem?_map,Option.map_eq_some_iff] at hy
 obtain ⟨u,hu,rfl⟩:=hy
 have hnd:(zac n q).Nodup:=List.Nodup.sublist List.filter_sublist List.nodup_range
 rw [beq_eq_false_iff_ne]
 intro e
 have e:q w=u:=by omega
 subst e
 obtain ⟨a1,a2⟩:=List.getElem?_eq_some_iff.1 h1
 obtain ⟨b1,b2⟩:=List.getElem?_eq_some_iff.1 hu
 have:=(List.getElem_inj hnd).1 (a2.trans b2.symm)
 omega
abbrev byQ (p:List Int):Nat→Nat:=fun w=>(at0 p w).toNat
def byF (m:KM) (q:Nat→Nat) (w:Nat):Bool:=decide (zF m w=zF m (q w))
def byL (m:KM) (p:List Int):KM×List Int×Int :=
 if za m≠0 then (zaF,[],za m) else if zas p≠0 then (zaF,[],zas p) else if (p.length:Int)≠m.W then (zaF,[],3) else
  if (List.range m.W.toNat).all (byF m (byQ p))=true then (zaN m (byQ p),ptL m.W.toNat (zz (byQ p)),0) else (zaF,[],1)
abbrev zo6 (x:KM×List Int×Int):D := .tup [dKM x.1,dI x.2.1,.int .i64 x.2.2]
theorem zvA {n k:Nat} {f:Nat→Bool} (hk:k < n) (h:f k=false) : ¬(List.range n).all f=true:=fun e=>by
 rw [List.all_eq_true] at e
 rw [e k (List.mem_range.2 hk)] at h;cases h
theorem zoV {n:Nat} {f:Nat→Bool} (h : ∀ i,i < n→f i=true):(List.range n).all f=true:=List.all_eq_true.2 fun i hi=>h i (List.mem_range.1 hi)
theorem zrK {q:Nat→Nat} {n:Nat} {r:List (BitVec 64)} {k i:Nat} : zbp q n r (k+1) i=if zz q k=i then zbp q n r k i|||zak (zz q) (r.getD k 0#64) n else zbp q n r k i:=rfl
def byR (m:KM) (q:Nat→Nat):KM×List Int×Int:=if (List.range m.W.toNat).all (byF m q)=true then (zaN m q,ptL m.W.toNat (zz q),0) else (zaF,[],1)
theorem zxZ {m:KM} (hk0:za m=0) (h12:m.W≤12) {q:Nat→Nat} (hq:zad m.W.toNat q):Fn Tryz.prog T zdQ [.d (dKM m),.d (dI (ptL m.W.toNat q))] [] (.d (zo6 (byR m q))) []:=by
 have hg0:=zn hk0
 have w1:=hg0.w1
 have n4:=hg0.n4
 have v8:=hg0.v8
 have hp0:zas (ptL m.W.toNat q)=0:=zjn hq (by omega)
 refine zb zm zl0 (by show 2≤134;decide) ?_
 have hlen:((ptL m.W.toNat q).length:Int)=m.W:=by rw [z1];omega
 have e0:byR m q=if (List.range m.W.toNat).all (byF m q)=true then (zaN m q,ptL m.W.toNat (zz q),0) else (zaF,[],1):=rfl
 obtain ⟨n,hn⟩ : ∃ n,n=m.W.toNat:=⟨_,rfl⟩
 rw [← hn] at hq hp0 hlen e0 ⊢
 have hpl:(ptL n q).length=n:=z1
 have hcn:=zbS n q
 have h64 : ∀ w,w < n→zz q w < 64:=fun w hw=>by have:=zdU hq hw;omega
 have clo:=zr4 (T:=T) hq (by omega) (by omega)
 (repeat' ((conv=>whnf);first|refine vA ?_|(refine vD ?_ ?_<;>intro hc<;>try simp only [vL] at hc)|refine vJ fun hg=>?_|refine vT ?_|refine yD (zaY m) ⟨⟨rfl,rfl⟩,rfl⟩ rfl ?_|refine yD (zhz _) ⟨⟨rfl,rfl⟩,rfl⟩ rfl ?_));all_goals try conv=>whnf
 iterate 3 (exact absurd ‹_≠_› (by first|exact not_not_intro hk0|exact not_not_intro hp0|exact not_not_intro hlen))
 refine zf (fun (w:Nat)=>[(1,.d (dI (ptL n q))),(2,.ptr 0 0),(4,.ptr 1 0),(41,.d (dI (ptL n q))),(42,.d (.int .i64 (((ptL n q).map (D.int .i64)).length:Int))),(43,.d (.int .i64 ((w:Int))))]) (fun (w:Nat)=>[(0,some (zR m)),(1,some (.box [.d (.int .i64 0),.nils 1,.nils 1]))]) 2 (fun (w:Nat)=>w≤n ∧ ∀ u,u < w→byF m q u=true) (fun (w:Nat)=>n - w) (0) [(0,0),(1,1)] [] (⟨by omega,fun u hu=>by omega⟩) (by (refine ⟨rfl,rfl,rfl,?_,?_⟩;repeat' first|exact trivial|exact rfl|refine And.intro ?_ ?_|refine ⟨_,rfl,?_⟩|decide)) ?_
 rintro w ⟨hw,hI⟩
 by_cases hwl:w < n
 ·have e1:=zG (q:=q) hwl
  have hqw:=hq.le w hwl
  have cf1:=zg8 (T:=T) m (w:Int)
  have cf2:=zg8 (T:=T) m ((q w:Nat):Int)
  rw [zgx hk0 (by omega)] at cf1 cf2
  (repeat' ((conv=>whnf);first|refine vA ?_|((first|refine vD ?_ ?_|refine vF ?_ ?_)<;>intro hc<;>try simp only [vL] at hc)|refine vT ?_|refine vN ‹_› ?_|(refine vO ?_ ?_;·omega)|(refine vU ?_ ?_;·kernel_rfl)|refine yD cf1 ⟨⟨rfl,rfl⟩,⟨rfl,rfl⟩,rfl⟩ rfl ?_|refine yD cf2 ⟨⟨rfl,rfl⟩,⟨rfl,rfl⟩,rfl⟩ rfl ?_));all_goals try conv=>whnf
  ·rw [e0,if_neg (zvA hwl (by unfold byF;rw [decide_eq_false_iff_not];assumption))];rfl
  ·exact ⟨w+1,[(0,0),(1,1)],[],⟨by (omega),fun u hu=>by
    by_cases e:u=w
    ·subst e;unfold byF;rw [decide_eq_true_eq];assumption
    ·exact hI u (by omega)⟩,by (omega),by (refine ⟨rfl,rfl,rfl,?_,?_⟩;repeat' first|exact trivial|exact rfl|refine And.intro ?_ ?_|refine ⟨_,rfl,?_⟩|decide)⟩
  all_goals omega
 ·have hfa:zwk m q:=fun w hw=>by
   have:=hI w (by omega)
   simpa [byF] using this
  have e0:byR m q=(zaN m q,ptL n (zz q),0):=by rw [e0,if_pos (zoV fun u hu=>hI u (by omega))]
  have hrl':zer (zac n q)=zo n q:=zhL _
  (repeat' ((conv=>whnf);first|refine vA ?_|(refine vF ?_ ?_<;>intro hc<;>try simp only [vL] at hc)|refine vJ fun hg=>?_|refine vT ?_|(refine vQ ?_ fun x hx=>?_;·omega)|(refine vP ?_ ?_;·(simp only [vM] at *;omega))|refine yN clo ⟨⟨rfl,rfl⟩,rfl⟩ ?_));all_goals try conv=>whnf
  ·omega
  refine zf (fun ((w,zs):Nat×List D)=>[(2,.ptr 0 0),(4,.ptr 1 0),(11,.d (dN (zac n q))),(12,.own 2),(62,.d (dI (ptL n q))),(63,.d (.int .i64 (((ptL n q).map (D.int .i64)).length:Int))),(64,.d (.int .i64 ((w:Int))))]) (fun ((w,zs):Nat×List D)=>[(0,some (zR m)),(1,some (.box [.d (.int .i64 0),.nils 1,.nils 1])),(2,some (.row 1 zs))]) 3 (fun ((w,zs):Nat×List D)=>w≤n∧zs=(List.range n).map fun u=>if u < w then D.int .i64 (zz q u:Int) else D.int .i64 0) (fun ((w,zs):Nat×List D)=>n - w) ((0,List.replicate ((((ptL n q).map (D.int .i64)).length:Int)).toNat (D.int .i64 0))) [(0,0),(1,1),(2,2)] [] (⟨by omega,by simp only [Nat.not_lt_zero,if_false];rw [List.length_map,hpl,Int.toNat_natCast];exact z2 _ _⟩) (by (refine ⟨rfl,rfl,rfl,?_,?_⟩;repeat' first|exact trivial|exact rfl|refine And.intro ?_ ?_|refine ⟨_,rfl,?_⟩|decide)) ?_
  rintro ⟨w,zs⟩ ⟨hw,hz⟩
  have hzl:zs.length=n:=by rw [hz];simp
  by_cases hwl:w < n
  ·have e1:=zG (q:=q) hwl
   have cix:=zie (T:=T) ((zac n q).map fun (x:Nat)=>(x:Int)) ((q w:Nat):Int)
   rw [zBN hq hwl] at cix
   (repeat' ((conv=>whnf);first|refine vA ?_|(refine vF ?_ ?_<;>intro hc<;>try simp only [vL] at hc)|refine vJ fun hg=>?_|refine vT ?_|refine vN ‹_› ?_|((first|refine vO ?_ ?_|refine vP ?_ ?_);·omega)|refine yD cix ⟨⟨rfl,rfl⟩,⟨rfl,rfl⟩,rfl⟩ rfl ?_));all_goals try conv=>whnf
   ·refine ⟨(w+1,_),[(0,0),(1,1),(2,2)],[],?_,?_,by (refine ⟨rfl,rfl,rfl,?_,?_⟩;repeat' first|exact trivial|exact rfl|refine And.intro ?_ ?_|refine ⟨_,rfl,?_⟩|decide)⟩
    ·exact ⟨by (omega),by rw [hz];exact zlK (α:=Nat) rfl⟩
    ·((simp only [vM] at *;omega))
   all_goals omega
  ·obtain rfl:zs=(ptL n (zz q)).map (D.int .i64):=by
    rw [hz];unfold ptL;rw [List.map_map]
    exact zC fun u hu=>by rw [if_pos (by omega)];rfl
   have hml:(ptL n (zz q)).length=n:=z1
   (repeat' ((conv=>whnf);first|refine vA ?_|(refine vF ?_ ?_<;>intro hc<;>try simp only [vL] at hc)|refine vJ fun hg=>?_|refine vT ?_|(refine vQ ?_ fun x hx=>?_;·omega)|fail));all_goals try conv=>whnf
   ·omega
   refine zf (fun ((k,zs):Nat×List D)=>[(2,.ptr 0 0),(4,.ptr 1 0),(11,.d (dN (zac n q))),(12,.own 2),(15,.ptr 3 0),(80,.d (dU m.val)),(81,.d (.int .i64 ((m.val.map D.u64).length:Int))),(82,.d (.int .i64 ((k:Int))))]) (fun ((k,zs):Nat×List D)=>[(0,some (zR m)),(1,some (.box [.d (.int .i64 0),.nils 1,.nils 1])),(2,some (.row 1 ((ptL n (zz q)).map (D.int .i64)))),(3,some (.box [.d (.int .i64 (zer (zac n q):Int)),.own 4,.nils 1])),(4,some (.row 1 zs))]) 5 (fun ((k,zs):Nat×List D)=>k≤m.val.length∧zs=(m.val.take k).map fun s=>D.u64 (zak (zz q) s n)) (fun ((k,zs):Nat×List D)=>m.val.length - k) ((0,[])) [(0,0),(1,1),(2,2),(3,3)]   [4] (⟨by simp,by simp⟩) (by (refine ⟨rfl,rfl,rfl,?_,?_⟩;repeat' first|exact trivial|exact rfl|exact ⟨_,rfl⟩|refine And.intro ?_ ?_|refine ⟨_,rfl,?_⟩|decide)) ?_
   rintro ⟨k,zs⟩ ⟨hk,hz⟩
   have hzl:zs.length≤8:=by rw [hz];simp;omega
   by_cases hkl:k < m.val.length
   ·obtain ⟨s,hs⟩ : ∃ s,m.val[k]? = some s:=⟨_,List.getElem?_eq_getElem hkl⟩
    (repeat' ((conv=>whnf);first|refine vA ?_|(refine vF ?_ ?_<;>intro hc<;>try simp only [vL] at hc)|refine vJ fun hg=>?_|refine vT ?_|refine vN ‹_› ?_|((first|refine vO ?_ ?_|refine vP ?_ ?_);·first|omega|(simp only [vM] at *;omega))|(refine vU ?_ ?_;·kernel_rfl)|refine yD (zqk s h64) ⟨⟨rfl,rfl⟩,⟨rfl,rfl⟩,rfl⟩ rfl ?_));all_goals try conv=>whnf
    ·refine ⟨(k+1,_),[(0,0),(1,1),(2,2),(3,3),(4,6)],[],?_,?_,by (refine ⟨rfl,rfl,rfl,?_,?_⟩;repeat' first|exact trivial|exact rfl|refine And.intro ?_ ?_|refine ⟨_,rfl,?_⟩|decide)⟩
     ·exact ⟨by omega,by rw [List.take_add_one,hs,hz];simp⟩
     ·((simp only [vM] at *;omega))
    all_goals omega
   ·have hzz:zs=m.val.map fun s=>D.u64 (zak (zz q) s n):=by rw [hz,List.take_of_length_le (by omega)]
    clear hz
    subst hzz
    (repeat' ((conv=>whnf);first|refine vA ?_|(refine vF ?_ ?_<;>intro hc<;>try simp only [vL] at hc)|refine vJ fun hg=>?_|refine vT ?_|(refine vQ ?_ fun x hx=>?_;·omega)|fail));all_goals try conv=>whnf
    ·omega
    refine zf (fun ((k,zs):Nat×List D)=>[(4,.ptr 1 0),(11,.d (dN (zac n q))),(12,.own 2),(15,.ptr 3 0),(96,.d (dUU m.rel)),(97,.d (.int .i64 ((m.rel.map dU).length:Int))),(98,.d (.int .i64 ((k:Int))))]) (fun ((k,zs):Nat×List D)=>[(1,some (.box [.d (.int .i64 0),.nils 1,.nils 1])),(2,some (.row 1 ((ptL n (zz q)).map (D.int .i64)))),(3,some (.box [.d (.int .i64 (zer (zac n q):Int)),.own 4,.own 5])),(4,some (.row 1 (m.val.map fun s=>D.u64 (zak (zz q) s n)))),(5,some (.row 1 zs))]) 6 (fun ((k,zs):Nat×List D)=>k≤m.rel.length∧zs=(m.rel.take k).map fun r=>dU ((List.range (zo n q)).map (zbp q n r n))) (fun ((k,zs):Nat×List D)=>m.rel.length - k) ((0,[])) [(1,1),(2,2),(3,3),(4,4)]   [5] (⟨by simp,by simp⟩) (by (refine ⟨rfl,rfl,rfl,?_,?_⟩;repeat' first|exact trivial|exact rfl|exact ⟨_,rfl⟩|refine And.intro ?_ ?_|refine ⟨_,rfl,?_⟩|decide)) ?_
    rintro ⟨k,zs⟩ ⟨hk,hz⟩
    have hzl:zs.length≤4:=by rw [hz];simp;omega
    by_cases hkl:k < m.rel.length
    ·obtain ⟨r,hr⟩ : ∃ r,m.rel[k]? = some r:=⟨_,List.getElem?_eq_getElem hkl⟩
     have hrl:r.length=n:=by have:=hg0.len r (List.mem_of_getElem? hr);omega
     (repeat' ((conv=>whnf);first|refine vA ?_|(refine vF ?_ ?_<;>intro hc<;>try simp only [vL] at hc)|refine vJ fun hg=>?_|refine vT ?_|refine vN ‹_› ?_|(refine vP ?_ ?_;·(simp only [vM] at *;omega))|fail));all_goals try conv=>whnf
     ·refine zf (fun ((w,ys):Nat×List D)=>[(4,.ptr 1 0),(11,.d (dN (zac n q))),(12,.own 2),(15,.ptr 3 0),(20,.own 6),(96,.d (dUU m.rel)),(97,.d (.int .i64 ((m.rel.map dU).length:Int))),(98,.d (.int .i64 ((k:Int)))),(105,.d (dU r)),(106,.d (.int .i64 ((r.map D.u64).length:Int))),(107,.d (.int .i64 ((w:Int))))]) (fun ((w,ys):Nat×List D)=>[(1,some (.box [.d (.int .i64 0),.nils 1,.nils 1])),(2,some (.row 1 ((ptL n (zz q)).map (D.int .i64)))),(3,some (.box [.d (.int .i64 (zer (zac n q):Int)),.own 4,.own 5])),(4,some (.row 1 (m.val.map fun s=>D.u64 (zak (zz q) s n)))),(5,some (.row 1 zs)),(6,some (.row 1 ys))]) 7 (fun ((w,ys):Nat×List D)=>w≤n∧ys=(List.range (zo n q)).map fun i=>D.u64 (zbp q n r w i)) (fun ((w,ys):Nat×List D)=>n - w) ((0,List.replicate ((zer (zac n q):Int)).toNat (D.u64 0))) [(1,1),(2,2),(3,3),(4,4),(5,5),(6,6)] [] (⟨by omega,by rw [hrl',Int.toNat_natCast];exact z2 _ _⟩) (by (refine ⟨rfl,rfl,rfl,?_,?_⟩;repeat' first|exact trivial|exact rfl|refine And.intro ?_ ?_|refine ⟨_,rfl,?_⟩|decide)) ?_
      rintro ⟨w,ys⟩ ⟨hw,hy⟩
      have hrl2:(List.range (zo n q)).length=zo n q:=List.length_range
      subst hy
      by_cases hwl:w < n
      ·obtain ⟨s,hs⟩ : ∃ s,r[w]? = some s:=⟨_,List.getElem?_eq_getElem (by omega)⟩
       have e1:=zG (q:=zz q) hwl
       have hnl:=zdU hq hwl
       have e2:(List.range (zo n q))[zz q w]? = some (zz q w):=List.getElem?_range hnl
       (repeat' ((conv=>whnf);first|refine vA ?_|(refine vF ?_ ?_<;>intro hc<;>try simp only [vL] at hc)|refine vT ?_|refine vN ‹_› ?_|((first|refine vO ?_ ?_|refine vP ?_ ?_);·first|omega|(simp only [vM] at *;omega))|(refine vU ?_ ?_;·kernel_rfl)|refine yD (zqk s h64) ⟨⟨rfl,rfl⟩,⟨rfl,rfl⟩,rfl⟩ rfl ?_));all_goals try conv=>whnf
       ·refine ⟨(w+1,_),[(1,1),(2,2),(3,3),(4,4),(5,5),(6,6)],[],?_,?_,by (refine ⟨rfl,rfl,rfl,?_,?_⟩;repeat' first|exact trivial|exact rfl|refine And.intro ?_ ?_|refine ⟨_,rfl,?_⟩|decide)⟩
        ·refine ⟨by (omega),?_⟩
         refine (zbL _).trans (zC fun u hu=>?_)
         rw [zrK,zhK hs,Int.toNat_natCast]
         by_cases e:u=zz q w
         ·subst e;rw [if_pos rfl,if_pos rfl]
         ·rw [if_neg e,if_neg (fun h=>e h.symm)]
        ·((simp only [vM] at *;omega))
       all_goals omega
      ·rw [show ((List.range (zo n q)).map fun i=>D.u64 (zbp q n r w i))=((List.range (zo n q)).map (zbp q n r n)).map D.u64 by rw [show w=n by omega,List.map_map];rfl]
       (repeat' ((conv=>whnf);first|refine vA ?_|(refine vF ?_ ?_<;>intro hc<;>try simp only [vL] at hc)|refine vT ?_|(refine vQ ?_ fun x hx=>?_;·omega)|((first|refine vO ?_ ?_|refine vP ?_ ?_);·first|omega|(simp only [vM] at *;omega))|fail));all_goals try conv=>whnf
       ·omega
       ·refine ⟨(k+1,_),[(1,1),(2,2),(3,3),(4,4),(5,8)],[],?_,?_,by (refine ⟨rfl,rfl,rfl,?_,?_⟩;repeat' first|exact trivial|exact rfl|refine And.intro ?_ ?_|refine ⟨_,rfl,?_⟩|decide)⟩
        ·refine ⟨by omega,?_⟩
         rw [List.take_add_one,hr,hz];simp
        ·((simp only [vM] at *;omega))
       all_goals omega
     all_goals omega
    ·have hzz:zs=m.rel.map fun r=>dU ((List.range (zo n q)).map (zbp q n r n)):=by rw [hz,List.take_of_length_le (by omega)]
     subst hzz
     (repeat' ((conv=>whnf);first|refine vA ?_|(refine vF ?_ ?_<;>intro hc<;>try simp only [vL] at hc)|refine vJ fun hg=>?_|refine vT ?_|(refine vQ ?_ fun x hx=>?_;·omega)|(refine vP ?_ ?_;·omega)|fail));all_goals try conv=>whnf
     ·omega
     ·rw [e0]
      refine congrArg some (show D.tup [D.agg [.int .i64 (zer (zac n q):Int),.arr 1 (m.val.map fun s=>D.u64 (zak (zz q) s n)),.arr 1 (m.rel.map fun r=>dU ((List.range (zo n q)).map (zbp q n r n)))],dI (ptL n (zz q)),.int .i64 0]=D.tup [dKM (zaN m q),dI (ptL n (zz q)),.int .i64 0] from ?_)
      have f1:(m.val.map fun s=>zak (zz q) s n)=(zaN m q).val:=by
       rw [hn] at hq ⊢
       exact List.map_congr_left fun s hs=>zB5 hq (by omega) hfa hs
      have f2:(m.rel.map fun r=>(List.range (zo n q)).map (zbp q n r n))=(zaN m q).rel:=by
       rw [hn] at hq ⊢
       exact List.map_congr_left fun r _=>List.map_congr_left fun i _=>zv6 hq (by omega) r i
      rw [hrl',show (m.val.map fun s=>D.u64 (zak (zz q) s n))=(zaN m q).val.map D.u64 by rw [← f1,List.map_map];rfl,show (m.rel.map fun r=>dU ((List.range (zo n q)).map (zbp q n r n)))=(zaN m q).rel.map dU by rw [← f2,List.map_map];rfl,hn]
      rfl
theorem zC6 (m:KM) (p:List Int) (h12:za m=0→m.W≤12):Fn Tryz.prog T zdQ [.d (dKM m),.d (dI p)] [] (.d (zo6 (byL m p))) []:=by
 by_cases hall:za m=0∧zas p=0∧(p.length:Int)=m.W
 ·obtain ⟨hk0,hp0,hlen⟩:=hall
  obtain ⟨hp64,hq,hpe⟩:=zoJ hp0
  have hpn:p.length=m.W.toNat:=by omega
  rw [hpn] at hq hpe
  have:=zxZ (T:=T) hk0 (h12 hk0) hq
  rw [← hpe] at this
  rw [show byL m p=byR m (byQ p) by rw [byL,if_neg (by omega),if_neg (by omega),if_neg (by omega)];rfl]
  exact this
 refine zb zm zl0 (by show 2≤134;decide) ?_
 by_cases hk0:za m=0
 ·by_cases hp0:zas p=0
  ·by_cases hlen:(p.length:Int)=m.W
   ·exact absurd ⟨hk0,hp0,hlen⟩ hall
   ·(repeat' ((conv=>whnf);first|refine vA ?_|(refine vD ?_ ?_<;>intro hc<;>try simp only [vL] at hc)|refine vJ fun hg=>?_|refine vT ?_|refine yD (zaY m) ⟨⟨rfl,rfl⟩,rfl⟩ rfl ?_|refine yD (zhz p) ⟨⟨rfl,rfl⟩,rfl⟩ rfl ?_));all_goals try conv=>whnf
    ·exact absurd hk0 ‹_›
    ·exact absurd hp0 ‹_›
    ·rw [byL,if_neg (by omega),if_neg (by omega),if_pos hlen];rfl
    ·exact absurd ‹(p.length:Int)=m.W› hlen
  ·(repeat' ((conv=>whnf);first|refine vA ?_|(refine vD ?_ ?_<;>intro hc<;>try simp only [vL] at hc)|refine vJ fun hg=>?_|refine vT ?_|refine yD (zaY m) ⟨⟨rfl,rfl⟩,rfl⟩ rfl ?_|refine yD (zhz p) ⟨⟨rfl,rfl⟩,rfl⟩ rfl ?_));all_goals try conv=>whnf
   ·exact absurd hk0 ‹_›
   ·rw [byL,if_neg (by omega),if_pos hp0];rfl
   all_goals exact absurd ‹zas p=0› hp0
 ·(repeat' ((conv=>whnf);first|refine vA ?_|(refine vD ?_ ?_<;>intro hc)|refine vT ?_|refine yD (zaY m) ⟨⟨rfl,rfl⟩,rfl⟩ rfl ?_));all_goals try conv=>whnf
  ·rw [byL,if_pos hk0];rfl
  all_goals exact absurd ‹za m=0› hk0
end Go.Ab
namespace Go.Ab
open Go Go.Proofs
set_option maxRecDepth 10000
set_option maxHeartbeats 4000000
variable {T:Nat→Obj→Prop}
theorem zCx (m:KM):byR m (cq m)=(zaN m (cq m),ptL m.W.toNat (zz (cq m)),0):=if_pos (zoV fun w hw=>by unfold byF;rw [decide_eq_true_eq];exact ztw m w hw)
def zjz (m:KM):KM×List Int×Int:=if za m≠0 then (zaF,[],za m) else (zaN m (cq m),ptL m.W.toNat (zz (cq m)),0)
theorem zu9 (hT:zbV T) (hX:zfj T) (m:KM) (h12:za m=0→m.W≤12):Fn Tryz.prog T zgk [.d (dKM m)] [] (.d (zo6 (zjz m))) []:=by
 have cco:=zif (T:=T) hT hX m
 refine zb zm zmc (by show 1≤22;decide) ?_
 by_cases hk0:za m=0
 ·rw [show zbg m=(ptL m.W.toNat (cq m),0) by rw [zbg,if_neg (by omega)]] at cco
  have cb:=zxZ (T:=T) hk0 (h12 hk0) (zee m)
  rw [zCx] at cb
  (repeat' ((conv=>whnf);first|refine vA ?_|refine vH ?_|refine vT ?_|refine yN cco ⟨⟨rfl,rfl⟩,rfl⟩ ?_|refine yN cb ⟨⟨rfl,rfl⟩,⟨rfl,rfl⟩,rfl⟩ ?_));all_goals try conv=>whnf
  ·rw [zjz,if_neg (by omega)];rfl
 ·rw [show zbg m=([],za m) by rw [zbg,if_pos hk0]] at cco
  (repeat' ((conv=>whnf);first|refine vA ?_|(refine vD ?_ ?_<;>intro hc<;>try simp only [vL] at hc)|refine vT ?_|refine yN cco ⟨⟨rfl,rfl⟩,rfl⟩ ?_));all_goals try conv=>whnf
  ·rw [zjz,if_pos hk0];rfl
  all_goals exact absurd ‹za m=0› hk0
def zpp (m:KM):Bool:=decide (za m=0∧zo m.W.toNat (cq m)=m.W.toNat)
theorem zC7 (hT:zbV T) (hX:zfj T) (m:KM) (h12:za m=0→m.W≤12):Fn Tryz.prog T zg1 [.d (dKM m)] [] (.d (.bool (zpp m))) []:=by
 have cco:=zif (T:=T) hT hX m
 refine zb zm zna (by show 1≤20;decide) ?_
 by_cases hk0:za m=0
 ·rw [show zbg m=(ptL m.W.toNat (cq m),0) by rw [zbg,if_neg (by omega)]] at cco
  have w1:=(zn hk0).w1
  have clo:=zr4 (T:=T) (zee m) (by omega) (by have:=h12 hk0;omega)
  have hl:=zhL (zac m.W.toNat (cq m))
  have hl2:=zwa (n:=m.W.toNat) (q:=cq m)
  (repeat' ((conv=>whnf);first|refine vA ?_|refine vG ?_|refine vJ fun hg=>?_|refine vT ?_|(refine vU ?_ ?_;·kernel_rfl)|refine vZ ?_|refine yN cco ⟨⟨rfl,rfl⟩,rfl⟩ ?_|refine yN clo ⟨⟨rfl,rfl⟩,rfl⟩ ?_));all_goals try conv=>whnf
  ·unfold zpp
   rw [decide_eq_decide]
   simp only [List.length_map,zwa]
   omega
 ·rw [show zbg m=([],za m) by rw [zbg,if_pos hk0]] at cco
  (repeat' ((conv=>whnf);first|refine vA ?_|(refine vF ?_ ?_<;>intro hc<;>try simp only [vL] at hc)|refine vT ?_|(refine vU ?_ ?_;·kernel_rfl)|refine vZ ?_|refine yN cco ⟨⟨rfl,rfl⟩,rfl⟩ ?_));all_goals try conv=>whnf
  ·exact absurd ‹za m=0› hk0
  ·unfold zpp
   rw [eq_comm,decide_eq_false_iff_not]
   rintro ⟨h,-⟩;exact hk0 h
noncomputable def zV (m:KM) (w:Nat):KM:=zA m (zH m.W.toNat (zd m) w)
noncomputable def zaf (m:KM) (w:Int):KM×Int×Int :=
 if za m≠0 then (zaF,0,za m) else if w < 0∨m.W≤w then (zaF,0,2) else
  (zaN (zV m w.toNat) (cq (zV m w.toNat)),((zz (cq (zV m w.toNat)) ((zH m.W.toNat (zd m) w.toNat).idxOf w.toNat):Nat):Int),0)
theorem zwI (hT:zbV T) (hX:zfj T) (m:KM) (h12:za m=0→m.W≤12) (w:Int):Fn Tryz.prog T zg2 [.d (dKM m),.d (.int .i64 w)] [] (.d (.tup [dKM (zaf m w).1,.int .i64 (zaf m w).2.1,.int .i64 (zaf m w).2.2])) []:=by
 have ccx:=zaY (T:=T) m
 refine zb zm znb (by show 2≤62;decide) ?_
 by_cases hk0:za m=0
 ·have h12:=h12 hk0
  have hg0:=zn hk0
  have w1:=hg0.w1
  rw [hk0] at ccx
  by_cases hw:w < 0∨m.W≤w
  ·(repeat' ((conv=>whnf);first|refine vA ?_|refine vH ?_|(refine vF ?_ ?_<;>intro hc<;>try simp only [vL] at hc)|refine vT ?_|(refine vP ?_ ?_;·omega)|refine yD ccx ⟨⟨rfl,rfl⟩,rfl⟩ rfl ?_));all_goals try conv=>whnf
   iterate 2 (rw [zaf,if_neg (by omega),if_pos hw];rfl)
   exfalso;omega
  ·obtain ⟨w,rfl⟩ : ∃ v:Nat,w=(v:Int):=⟨w.toNat,by omega⟩
   have hwl:w < m.W.toNat:=by omega
   have hbit : ∀ v,(1#64 <<< w).getLsbD v=true→v < m.W.toNat:=fun v hv=>by have:=(zhN (by omega)).1 hv;omega
   have hl:=zlh hk0 hwl
   have hroot:=zdE (R:=zd m) hwl
   have hlen:=zhJ (n:=m.W.toNat) (R:=zd m) (w:=w)
   have cg:=zlV hT hk0 hbit
   have cr:=zmW hT hk0 (s:=zeo m (1#64 <<< w)) (fun e=>by
    rw [e,zcP] at hl;rw [← hl] at hroot;cases hroot) (fun v hv=>((zfL hk0).1 hv).lt)
   rw [hl] at cr
   generalize zeo m (1#64 <<< w)=gs at cg cr
   have hres:zaf m (w:Int)=(zaN (zV m w) (cq (zV m w)),((zz (cq (zV m w)) ((zH m.W.toNat (zd m) w).idxOf w):Nat):Int),0):=by
    rw [zaf,if_neg (by omega),if_neg hw,Int.toNat_natCast]
   rw [hres]
   clear hl
   have hll:1≤(zH m.W.toNat (zd m) w).length:=List.length_pos_of_mem hroot
   have hp0:za (zV m w)=0:=zpQ hk0 hll (by omega)
   have hpW:(zV m w).W.toNat=(zH m.W.toNat (zd m) w).length:=Int.toNat_natCast _
   have hpI:(zV m w).W=((zH m.W.toNat (zd m) w).length:Int):=rfl
   change Fn _ _ _ _ _ (.d (.tup [dKM (zV m w),_,_])) _ at cr
   have cm:=zu9 (T:=T) hT hX (zV m w) (fun _=>by rw [hpI];omega)
   rw [show zjz (zV m w)=(zaN (zV m w) (cq (zV m w)),ptL (zV m w).W.toNat (zz (cq (zV m w))),0) by rw [zjz,if_neg (by omega)]] at cm
   have ci:=zie (T:=T) ((zH m.W.toNat (zd m) w).map fun (x:Nat)=>(x:Int)) (w:Int)
   rw [zr0 hroot] at ci
   have hix:=List.idxOf_lt_length_of_mem hroot
   generalize zV m w=g at cr cm hpW hp0
   generalize zH m.W.toNat (zd m) w=l at cr cm ci hpW hix
   have e1:=zG (n:=g.W.toNat) (q:=zz (cq g)) (w:=l.idxOf w) (by omega)
   (repeat' ((conv=>whnf);first|refine vA ?_|refine vH ?_|(refine vF ?_ ?_<;>intro hc<;>try simp only [vL] at hc)|refine vT ?_|refine vN ‹_› ?_|(refine vP ?_ ?_;·omega)|(refine vU ?_ ?_;·kernel_rfl)|refine yD ccx ⟨⟨rfl,rfl⟩,rfl⟩ rfl ?_|refine yN cg ⟨⟨rfl,rfl⟩,⟨rfl,rfl⟩,rfl⟩ ?_|refine yN cr ⟨⟨rfl,rfl⟩,⟨rfl,rfl⟩,rfl⟩ ?_|refine yN cm ⟨⟨rfl,rfl⟩,rfl⟩ ?_|refine yD ci ⟨⟨rfl,rfl⟩,⟨rfl,rfl⟩,rfl⟩ rfl ?_));all_goals try conv=>whnf
   ·exfalso;omega
   ·rfl
   all_goals skip
 ·(repeat' ((conv=>whnf);first|refine vA ?_|((first|refine vD ?_ ?_|refine vF ?_ ?_)<;>intro hc<;>try simp only [vL] at hc)|refine vT ?_|(refine vP ?_ ?_;·omega)|refine yD ccx ⟨⟨rfl,rfl⟩,rfl⟩ rfl ?_));all_goals try conv=>whnf
  ·rw [zaf,if_pos hk0];rfl
  all_goals exact absurd ‹za m=0› hk0
noncomputable def cnL (m:KM) (w:Int):KM×Int:=if (zaf m w).2.2≠0 then (zaF,(zaf m w).2.2) else ((zcl (zaf m w).1 (zaf m w).2.1).1,(zcl (zaf m w).1 (zaf m w).2.1).2.2)
theorem zqM {m:KM} {w:Int} (hk0:za m=0) (hw : ¬(w < 0∨m.W≤w)):zaf m w=(zaN (zV m w.toNat) (cq (zV m w.toNat)),((zz (cq (zV m w.toNat)) ((zH m.W.toNat (zd m) w.toNat).idxOf w.toNat):Nat):Int),0):=by
 rw [zaf,if_neg (by omega),if_neg hw]
theorem zrs {m:KM} {w:Nat} (hk0:za m=0) (hw:w < m.W.toNat):za (zV m w)=0∧(zV m w).W.toNat=(zH m.W.toNat (zd m) w).length∧(zV m w).W≤m.W∧1≤(zV m w).W:=by
 have hg:=zn hk0
 have w1:=hg.w1
 have w2:=hg.w2
 have hroot:=zdE (R:=zd m) hw
 have hlen:=zhJ (n:=m.W.toNat) (R:=zd m) (w:=w)
 have hpos:=List.length_pos_of_mem hroot
 have hpI:(zV m w).W=((zH m.W.toNat (zd m) w).length:Int):=rfl
 exact ⟨zpQ hk0 hpos (by omega),Int.toNat_natCast _,by omega,by omega⟩
theorem zyI {m:KM} {w:Int} (h12:za m=0→m.W≤12) (h:(zaf m w).2.2=0):za m=0∧0≤w∧w < m.W∧za (zaf m w).1=0∧(zaf m w).1.W≤12:=by
 by_cases hk0:za m=0
 ·by_cases hw:w < 0∨m.W≤w
  ·rw [zaf,if_neg (by omega),if_pos hw] at h;cases h
  ·have h12:=h12 hk0
   obtain ⟨h1,h2,h3,-⟩:=zrs hk0 (w:=w.toNat) (by omega)
   rw [zqM hk0 hw]
   refine ⟨hk0,by omega,by omega,zyM h1 (zee _),?_⟩
   have:=zbS (zV m w.toNat).W.toNat (cq (zV m w.toNat))
   show ((zo (zV m w.toNat).W.toNat (cq (zV m w.toNat)):Nat):Int)≤12
   omega
 ·rw [zaf,if_pos hk0] at h;exact absurd h hk0
theorem zlW (hT:zbV T) (hX:zfj T) (m:KM) (h12:za m=0→m.W≤12) (w:Int):Fn Tryz.prog T zf1 [.d (dKM m),.d (.int .i64 w)] [] (.d (dKI (cnL m w))) []:=by
 have cp:=zwI (T:=T) hT hX m h12 w
 have hs:=zyI (m:=m) (w:=w) h12
 refine zb zm zlr (by show 2≤31;decide) ?_
 obtain ⟨x,hx⟩ : ∃ x,x=zaf m w:=⟨_,rfl⟩
 have hcn:cnL m w=if x.2.2≠0 then (zaF,x.2.2) else ((zcl x.1 x.2.1).1,(zcl x.1 x.2.1).2.2):=by rw [hx];rfl
 rw [← hx] at cp hs
 obtain ⟨g,v,e⟩:=x
 rw [hcn]
 by_cases he:e=0
 ·have h1:=hs he
  have c2:=ztN (T:=T) hT g (fun _=>h1.2.2.2.2) v
  rw [if_neg (not_not_intro he)]
  (repeat' ((conv=>whnf);first|refine vA ?_|(refine vD ?_ ?_<;>intro hc<;>try simp only [vL] at hc)|refine vT ?_|refine yN cp ⟨⟨rfl,rfl⟩,⟨rfl,rfl⟩,rfl⟩ ?_|refine yN c2 ⟨⟨rfl,rfl⟩,⟨rfl,rfl⟩,rfl⟩ ?_));all_goals try conv=>whnf
  ·exact absurd he ‹_›
  ·rfl
 ·rw [if_pos he]
  (repeat' ((conv=>whnf);first|refine vA ?_|(refine vD ?_ ?_<;>intro hc<;>try simp only [vL] at hc)|refine vT ?_|refine yN cp ⟨⟨rfl,rfl⟩,⟨rfl,rfl⟩,rfl⟩ ?_));all_goals try conv=>whnf
  ·rfl
  ·exact absurd ‹e=0› he
noncomputable def zqX (a:KM) (v:Int) (b:KM) (w:Int):Bool×Int :=
 if za a≠0 then (false,za a) else if za b≠0 then (false,za b) else if a.rel.length≠b.rel.length∨a.val.length≠b.val.length then (false,1) else
  if (cnL a v).2≠0 then (false,(cnL a v).2) else if (cnL b w).2≠0 then (false,(cnL b w).2) else (decide ((cnL a v).1=(cnL b w).1),0)
theorem zDn (hT:zbV T) (hX:zfj T) (a b:KM) (ha:za a=0→a.W≤12) (hb:za b=0→b.W≤12) (v w:Int):Fn Tryz.prog T zi1 [.d (dKM a),.d (.int .i64 v),.d (dKM b),.d (.int .i64 w)] [] (.d (.tup [.bool (zqX a v b w).1,.int .i64 (zqX a v b w).2])) []:=by
 have c1:=zlW (T:=T) hT hX a ha v
 have c2:=zlW (T:=T) hT hX b hb w
 refine zb zm zqG (by show 4≤62;decide) ?_
 obtain ⟨x,hx⟩ : ∃ x,x=cnL a v:=⟨_,rfl⟩
 obtain ⟨y,hy⟩ : ∃ y,y=cnL b w:=⟨_,rfl⟩
 have hs:zqX a v b w=if za a≠0 then (false,za a) else if za b≠0 then (false,za b) else if a.rel.length≠b.rel.length∨a.val.length≠b.val.length then (false,1) else
  if x.2≠0 then (false,x.2) else if y.2≠0 then (false,y.2) else (decide (x.1=y.1),0):=by rw [hx,hy];rfl
 rw [← hx] at c1
 rw [← hy] at c2
 rw [hs]
 clear hs hx hy
 obtain ⟨x,e⟩:=x
 obtain ⟨y,e'⟩:=y
 dsimp only
 (repeat' ((conv=>whnf);first|refine vA ?_|(refine vD ?_ ?_<;>intro hc<;>try simp only [vL] at hc)|refine vJ fun hg=>?_|refine vT ?_|refine yD (zaY _) ⟨⟨rfl,rfl⟩,rfl⟩ rfl ?_|refine yN c1 ⟨⟨rfl,rfl⟩,⟨rfl,rfl⟩,rfl⟩ ?_|refine yN c2 ⟨⟨rfl,rfl⟩,⟨rfl,rfl⟩,rfl⟩ ?_|refine yD (zz4 _ _) ⟨⟨rfl,rfl⟩,⟨rfl,rfl⟩,rfl⟩ rfl ?_));all_goals try conv=>whnf
 ·rw [if_pos (by omega)];rfl
 ·rw [if_neg (by omega),if_pos (by omega)];rfl
 iterate 2 (rw [if_neg (by omega),if_neg (by omega),if_pos (by omega)];rfl)
 ·rw [if_neg (by omega),if_neg (by omega),if_neg (by omega),if_pos (by omega)];rfl
 ·rw [if_neg (by omega),if_neg (by omega),if_neg (by omega),if_neg (by omega),if_pos (by omega)];rfl
 ·rw [if_neg (by omega),if_neg (by omega),if_neg (by omega),if_neg (by omega),if_neg (by omega)];rfl
end Go.Ab
namespace Go.Ab
open Go Go.Proofs
set_option maxRecDepth 10000
set_option maxHeartbeats 4000000
variable {T:Nat→Obj→Prop}
theorem zAk {m:KM} {l:List Nat} (hn:l.Nodup) {w:Nat} (hw:w∈l) : ∀ i,i < l.length→mkW (zA m l) l (w:Int) i=mkT (zA m l) (l.idxOf w:Int) i:=fun i hi=>by
 have h1:=zfu hw
 unfold mkW mkT
 by_cases e:i=l.idxOf w
 ·have h2:l.getD i 0=w:=by rw [e];exact h1.2
  rw [if_pos (by rw [h2]),if_pos (by omega)]
 ·rw [if_neg (fun e'=>e (zij hn hi h1.1 (by rw [h1.2];omega))),if_neg (by omega)]
theorem zyC {m:KM} {l:List Nat} (hn:l.Nodup) {w:Nat} (hw:w∈l):ptL l.length (zbZ l.length (zd (zA m l)) (mkW (zA m l) l (w:Int))).1=ptL l.length (zcU (zA m l) (l.idxOf w:Int)).1:=by
 have hid:Ren l.length fun w=>w:=⟨fun _ h=>h,fun _ _ _ _ h=>h⟩
 have hR:zhU l.length (fun w=>w) (zd (zA m l)) (zd (zA m l)):=⟨rfl,fun i r r' h1 h2 v w _ _=>by rw [h1] at h2;rw [Option.some.inj h2]⟩
 have:=zrD hid hR (first:=mkW (zA m l) l (w:Int)) (first':=mkT (zA m l) (l.idxOf w:Int)) fun i hi=>(zAk hn hw i hi).symm
 unfold zcU
 rw [show (zA m l).W.toNat=l.length from Int.toNat_natCast _]
 exact zb2 fun w hw=>(this.2.2.1 w hw).symm
set_option maxHeartbeats 8000000 in
theorem zsS (hT:zbV T) (m:KM) (w:Int):Fn Tryz.prog T zel [.d (dKM m),.d (.int .i64 w)] [] (.d (.tup [dKM (zcl m w).1,dI (zcl m w).2.1,.int .i64 (zcl m w).2.2])) []:=by
 have cc:=za8 (T:=T) m
 by_cases hk0:za m=0
 ·have hg0:=zn hk0
  have w1:=hg0.w1
  have w2:=hg0.w2
  rw [hk0] at cc
  by_cases hw:w < 0∨m.W≤w
  ·refine zb zm zcc (by show 2≤82;decide) ?_
   (repeat' ((conv=>whnf);first|refine vA ?_|refine vB fun b hb=>?_|refine vC (fun hl=>?_) fun i kv vv hi=>?_|refine vE ?_|refine vG ?_|refine vH ?_|((first|refine vD ?_ ?_|refine vF ?_ ?_|refine vI ?_ ?_)<;>intro hc<;>try simp only [vL] at hc)|refine vJ fun hg=>?_|refine vK fun hg=>?_|refine vT ?_|refine vN ‹_› ?_|(refine vQ ?_ fun x hx=>?_;·first|omega|(simp only [vM] at *;omega))|((first|refine vO ?_ ?_|refine vR ?_ ‹_› ?_|refine vS ?_ fun x hx=>?_|refine vP ?_ ?_);·first|omega|(simp only [vM] at *;omega))|refine vW ⟨by omega,by omega⟩ ?_|(refine vU ?_ ?_;·kernel_rfl)|refine vX ?_|refine vY ?_|refine vZ ?_|refine yD cc ⟨⟨rfl,rfl⟩,rfl⟩ rfl ?_|refine zc1.mk _ ‹_› ?_|refine vP (show (_:BitVec 64)≠_ by decide) ?_));all_goals try conv=>whnf
   iterate 2 (rw [zcl,if_neg (by omega),if_pos hw];rfl)
   exfalso;omega
  ·obtain ⟨w,rfl⟩ : ∃ v:Nat,w=(v:Int):=⟨w.toNat,by omega⟩
   have hwl:w < m.W.toNat:=by omega
   have hbit : ∀ v,(1#64 <<< w).getLsbD v=true→v < m.W.toNat:=fun v hv=>by have:=(zhN (by omega)).1 hv;omega
   have hl:=zlh hk0 hwl
   have hroot:=zdE (R:=zd m) hwl
   have hlen:=zhJ (n:=m.W.toNat) (R:=zd m) (w:=w)
   have hlt : ∀ x∈zH m.W.toNat (zd m) w,x < m.W.toNat:=fun x hx=>(zeD.1 hx).lt
   have hnd:=zfM m.W.toNat (zd m) w
   have hcan:zcl m (w:Int)=if zfv (zA m (zH m.W.toNat (zd m) w))=false then (zaF,[],16) else (zA m (zcz m w),(zcz m w).map fun (x:Nat)=>(x:Int),0):=by
    rw [zcl,if_neg (by omega),if_neg hw,Int.toNat_natCast]
   have hcc:=zts hk0 hwl
   have cg:=zlX (T:=T) hk0 hbit
   have cr:=zj4 (T:=T) hk0 (s:=zeo m (1#64 <<< w)) (fun e=>by
    rw [e,zcP] at hl;rw [← hl] at hroot;cases hroot) (fun v hv=>((zfL hk0).1 hv).lt)
   rw [hl] at cr
   generalize zeo m (1#64 <<< w)=gs at cg cr
   clear hl
   generalize hL:zH m.W.toNat (zd m) w=l at hroot hlen hlt hnd hcan hcc cr
   have hll:1≤l.length:=List.length_pos_of_mem hroot
   have hp0:=zpQ hk0 hll (by omega)
   have hpW:(zA m l).W.toNat=l.length:=Int.toNat_natCast _
   have hpI:(zA m l).W=(l.length:Int):=rfl
   have cm1:=zvj (T:=T) hp0
   have cn2:=zwW (T:=T) hp0 l hpW.symm (w:Int)
   rw [hpW,zyC hnd hroot] at cn2
   refine zb zm zcc (by show 2≤82;decide) ?_
   cases hmin:zfv (zA m l) with
   | false =>
    rw [hmin] at cm1
    rw [hcan,hmin,if_pos rfl]
    (repeat' ((conv=>whnf);first|refine vA ?_|refine vB fun b hb=>?_|refine vC (fun hl=>?_) fun i kv vv hi=>?_|refine vE ?_|refine vG ?_|refine vH ?_|((first|refine vD ?_ ?_|refine vF ?_ ?_|refine vI ?_ ?_)<;>intro hc<;>try simp only [vL] at hc)|refine vJ fun hg=>?_|refine vK fun hg=>?_|refine vT ?_|refine vN ‹_› ?_|(refine vQ ?_ fun x hx=>?_;·first|omega|(simp only [vM] at *;omega))|((first|refine vO ?_ ?_|refine vR ?_ ‹_› ?_|refine vS ?_ fun x hx=>?_|refine vP ?_ ?_);·first|omega|(simp only [vM] at *;omega))|refine vW ⟨by omega,by omega⟩ ?_|(refine vU ?_ ?_;·kernel_rfl)|refine vX ?_|refine vY ?_|refine vZ ?_|refine yD cc ⟨⟨rfl,rfl⟩,rfl⟩ rfl ?_|refine yN cg ⟨⟨rfl,rfl⟩,⟨rfl,rfl⟩,rfl⟩ ?_|refine yN cr ⟨⟨rfl,rfl⟩,⟨rfl,rfl⟩,rfl⟩ ?_|refine yD cm1 ⟨⟨rfl,rfl⟩,rfl⟩ rfl ?_|refine zc1.mk _ ‹_› ?_|refine vP (show (_:BitVec 64)≠_ by decide) ?_));all_goals try conv=>whnf
    ·exfalso;omega
    ·rfl
   | true =>
    rw [hmin] at cm1
    rw [hcan,hmin,if_neg (by decide)]
    obtain ⟨hq,ha,hw2⟩:=hcc hmin
    have cq3:=zwR (T:=T) (zA m l) (ptL l.length (zcU (zA m l) (l.idxOf w:Int)).1)
    rw [zhl,if_neg (by omega),if_pos (by rw [hpW];exact znT hq),hpW,ha] at cq3
    generalize (zcU (zA m l) (l.idxOf w:Int)).1=q at cn2 cq3 hq hw2
    have hln:(ptL l.length q).length=l.length:=z1
    (repeat' ((conv=>whnf);first|refine vA ?_|refine vB fun b hb=>?_|refine vC (fun hl=>?_) fun i kv vv hi=>?_|refine vE ?_|refine vG ?_|refine vH ?_|((first|refine vD ?_ ?_|refine vF ?_ ?_|refine vI ?_ ?_)<;>intro hc<;>try simp only [vL] at hc)|refine vJ fun hg=>?_|refine vK fun hg=>?_|refine vT ?_|refine vN ‹_› ?_|(refine vQ ?_ fun x hx=>?_;·first|omega|(simp only [vM] at *;omega))|((first|refine vO ?_ ?_|refine vR ?_ ‹_› ?_|refine vS ?_ fun x hx=>?_|refine vP ?_ ?_);·first|omega|(simp only [vM] at *;omega))|refine vW ⟨by omega,by omega⟩ ?_|(refine vU ?_ ?_;·kernel_rfl)|refine vX ?_|refine vY ?_|refine vZ ?_|refine yD cc ⟨⟨rfl,rfl⟩,rfl⟩ rfl ?_|refine yN cg ⟨⟨rfl,rfl⟩,⟨rfl,rfl⟩,rfl⟩ ?_|refine yN cr ⟨⟨rfl,rfl⟩,⟨rfl,rfl⟩,rfl⟩ ?_|refine yD cm1 ⟨⟨rfl,rfl⟩,rfl⟩ rfl ?_|refine yN cn2 ⟨⟨rfl,rfl⟩,⟨rfl,rfl⟩,⟨rfl,rfl⟩,rfl⟩ ?_|refine yN cq3 ⟨⟨rfl,rfl⟩,⟨rfl,rfl⟩,rfl⟩ ?_|refine zc1.mk _ ‹_› ?_|refine vP (show (_:BitVec 64)≠_ by decide) ?_));all_goals try conv=>whnf
    ·exfalso;omega
    refine zf (fun ((k,zs):Nat×List D)=>[(4,.ptr 0 0),(13,.d (dI (ptL l.length q))),(14,.ptr 1 0),(16,.own 2),(65,.d (dN l)),(66,.d (.int .i64 (((l.map fun (x:Nat)=>(x:Int)).map (D.int .i64)).length:Int))),(67,.d (.int .i64 ((k:Int))))]) (fun ((k,zs):Nat×List D)=>[(0,some (.box [.d (.int .i64 0),.nils 1,.nils 1])),(1,some (zR (zA m (zcz m w)))),(2,some (.row 1 zs))]) 3 (fun ((k,zs):Nat×List D)=>k≤l.length∧zs=(List.range l.length).map fun i=>D.int .i64 (if zcm l.length q i < k then (l.getD (zcm l.length q i) 0:Int) else 0)) (fun ((k,zs):Nat×List D)=>l.length - k) ((0,List.replicate ((((l.map fun (x:Nat)=>(x:Int)).map (D.int .i64)).length:Int)).toNat (D.int .i64 0))) [(0,1),(1,3),(2,4)] [] (⟨by omega,by simp only [Nat.not_lt_zero,if_false];rw [List.length_map,List.length_map,Int.toNat_natCast];exact z2 _ _⟩) (by (refine ⟨rfl,rfl,rfl,?_,?_⟩;repeat' first|exact trivial|exact rfl|exact ⟨_,rfl⟩|exact .inl rfl|exact .inr (.inl ⟨rfl,rfl⟩)|exact .inr (.inr ⟨rfl,rfl⟩)|refine And.intro ?_ ?_|refine ⟨_,rfl,?_⟩|decide|exact of_decide_eq_true rfl)) ?_
    rintro ⟨k,zs⟩ ⟨hk,hz⟩
    subst hz
    by_cases hkl:k < l.length
    ·have e1:=zG (q:=q) hkl
     have e2:=zeJ hkl
     have er:(List.range l.length)[q k]? = some (q k):=List.getElem?_range (hq.lt k hkl)
     have hqk:=hq.lt k hkl
     (repeat' ((conv=>whnf);first|refine vA ?_|refine vB fun b hb=>?_|refine vC (fun hl=>?_) fun i kv vv hi=>?_|refine vE ?_|refine vG ?_|refine vH ?_|((first|refine vD ?_ ?_|refine vF ?_ ?_|refine vI ?_ ?_)<;>intro hc<;>try simp only [vL] at hc)|refine vJ fun hg=>?_|refine vK fun hg=>?_|refine vT ?_|refine vN ‹_› ?_|(refine vQ ?_ fun x hx=>?_;·first|omega|(simp only [vM] at *;omega))|((first|refine vO ?_ ?_|refine vR ?_ ‹_› ?_|refine vS ?_ fun x hx=>?_|refine vP ?_ ?_);·first|omega|(simp only [vM] at *;omega))|refine vW ⟨by omega,by omega⟩ ?_|(refine vU ?_ ?_;·kernel_rfl)|refine vX ?_|refine vY ?_|refine vZ ?_|refine zc1.mk _ ‹_› ?_|refine vP (show (_:BitVec 64)≠_ by decide) ?_));all_goals try conv=>whnf
     ·refine ⟨(k+1,_),[(0,0),(1,1),(2,2)],[],?_,?_,by (refine ⟨rfl,rfl,rfl,?_,?_⟩;repeat' first|exact trivial|exact rfl|exact ⟨_,rfl⟩|exact .inl rfl|exact .inr (.inl ⟨rfl,rfl⟩)|exact .inr (.inr ⟨rfl,rfl⟩)|refine And.intro ?_ ?_|refine ⟨_,rfl,?_⟩|decide|exact of_decide_eq_true rfl)⟩
      ·refine ⟨by omega,(zbL _).trans (zC fun u hu=>?_)⟩
       show (if u=q k then _ else _)=_
       by_cases e:u=q k
       ·subst e
        rw [if_pos rfl,znN hq hkl,if_pos (by omega)]
       ·rw [if_neg e]
        have hne:zcm l.length q u≠k:=fun e'=>e (by rw [← e'];exact (zeA hq hu).2.symm)
        by_cases e2:zcm l.length q u < k
        ·rw [if_pos e2,if_pos (by omega)]
        ·rw [if_neg e2,if_neg (by omega)]
      ·(first|omega|(simp only [vM] at *;omega))
     all_goals (exfalso;omega)
    ·(repeat' ((conv=>whnf);first|refine vA ?_|refine vB fun b hb=>?_|refine vC (fun hl=>?_) fun i kv vv hi=>?_|refine vE ?_|refine vG ?_|refine vH ?_|((first|refine vD ?_ ?_|refine vF ?_ ?_|refine vI ?_ ?_)<;>intro hc<;>try simp only [vL] at hc)|refine vJ fun hg=>?_|refine vK fun hg=>?_|refine vT ?_|refine vN ‹_› ?_|(refine vQ ?_ fun x hx=>?_;·first|omega|(simp only [vM] at *;omega))|((first|refine vO ?_ ?_|refine vR ?_ ‹_› ?_|refine vS ?_ fun x hx=>?_|refine vP ?_ ?_);·first|omega|(simp only [vM] at *;omega))|refine vW ⟨by omega,by omega⟩ ?_|(refine vU ?_ ?_;·kernel_rfl)|refine vX ?_|refine vY ?_|refine vZ ?_|refine zc1.mk _ ‹_› ?_|refine vP (show (_:BitVec 64)≠_ by decide) ?_));all_goals try conv=>whnf
     all_goals try (exfalso;omega)
     have e0:k=l.length:=by omega
     refine congrArg (fun x=>some (D.tup [dKM (zA m (zcz m w)),D.arr 1 x,D.int .i64 0])) ?_
     rw [hw2,List.map_map,List.map_map]
     exact zC fun u hu=>by rw [if_pos (by rw [e0];exact (zeA hq hu).1)];rfl
 ·refine zb zm zcc (by show 2≤82;decide) ?_
  (repeat' ((conv=>whnf);first|refine vA ?_|refine vB fun b hb=>?_|refine vC (fun hl=>?_) fun i kv vv hi=>?_|refine vE ?_|refine vG ?_|refine vH ?_|((first|refine vD ?_ ?_|refine vF ?_ ?_|refine vI ?_ ?_)<;>intro hc<;>try simp only [vL] at hc)|refine vJ fun hg=>?_|refine vK fun hg=>?_|refine vT ?_|refine vN ‹_› ?_|(refine vQ ?_ fun x hx=>?_;·first|omega|(simp only [vM] at *;omega))|((first|refine vO ?_ ?_|refine vR ?_ ‹_› ?_|refine vS ?_ fun x hx=>?_|refine vP ?_ ?_);·first|omega|(simp only [vM] at *;omega))|refine vW ⟨by omega,by omega⟩ ?_|(refine vU ?_ ?_;·kernel_rfl)|refine vX ?_|refine vY ?_|refine vZ ?_|refine yD cc ⟨⟨rfl,rfl⟩,rfl⟩ rfl ?_|refine zc1.mk _ ‹_› ?_|refine vP (show (_:BitVec 64)≠_ by decide) ?_));all_goals try conv=>whnf
  ·rw [zcl,if_pos hk0];rfl
  all_goals exact absurd ‹za m=0› hk0
end Go.Ab
namespace Go.Ab
open Go Go.Proofs
set_option maxRecDepth 10000
set_option maxHeartbeats 4000000
variable {T:Nat→Obj→Prop}
theorem zsu (k:Nat) (q:Nat→Nat):zac (k+1) q=if q k=k then zac k q++[k] else zac k q:=by
 unfold zac
 rw [List.range_succ,List.filter_append]
 by_cases h:q k=k
 ·rw [if_pos h];simp [h]
 ·rw [if_neg h];simp [h]
def zmo (q:Nat→Nat) (n:Nat) (r:List (BitVec 64)) (w v i:Nat):BitVec 64:=if zz q w=i then zbp q n r w i|||zak (zz q) (r.getD w 0#64) v else zbp q n r w i
theorem zxB (q:Nat→Nat) (n:Nat) (r:List (BitVec 64)) (w i:Nat):zmo q n r w 0 i=zbp q n r w i:=by
 unfold zmo
 split
 ·show _|||0#64=_;simp
 ·rfl
theorem zCt (q:Nat→Nat) (n:Nat) (r:List (BitVec 64)) (w i:Nat):zmo q n r w n i=zbp q n r (w+1) i:=by
 rw [zrK];rfl
theorem zrJ {q:Nat→Nat} {n:Nat} {r:List (BitVec 64)} {w v i:Nat} : zmo q n r w (v+1) i=if zz q w=i∧(r.getD w 0#64).getLsbD v=true then zmo q n r w v i|||1#64 <<< zz q v else zmo q n r w v i:=by
 unfold zmo
 by_cases h:zz q w=i
 ·rw [if_pos h,if_pos h,zcx]
  by_cases h2:(r.getD w 0#64).getLsbD v=true
  ·rw [if_pos h2,if_pos ⟨h,h2⟩,BitVec.or_assoc]
  ·rw [if_neg h2,if_neg (fun e=>h2 e.2)]
 ·rw [if_neg h,if_neg h,if_neg (fun e=>h e.1)]
theorem zmY {m:KM} (hk0:za m=0) {q:Nat→Nat} (hq:zad m.W.toNat q):Fn Tryz.prog T zeU [.d (dKM m),.d (dI (ptL m.W.toNat q))] [] (.d (.tup [dKM (zaN m q),dI (ptL m.W.toNat (zz q))])) []:=by
 have hg0:=zn hk0
 have w1:=hg0.w1
 have w2:=hg0.w2
 have n4:=hg0.n4
 have v8:=hg0.v8
 refine zb zm ziT (by show 2≤140;decide) ?_
 obtain ⟨n,hn⟩ : ∃ n,n=m.W.toNat:=⟨_,rfl⟩
 have hnW:m.W=(n:Int):=by omega
 rw [← hn] at hq ⊢
 have hpl:(ptL n q).length=n:=z1
 have hcn:=zbS n q
 have h64 : ∀ w,w < n→zz q w < 64:=fun w hw=>by have:=zdU hq hw;omega
 (repeat' ((conv=>whnf);first|refine vA ?_|refine vT ?_));all_goals try conv=>whnf
 refine zf (fun ((w,zs,ys):Nat×List D×List D)=>[(1,.d (dI (ptL n q))),(2,.ptr 0 0),(4,.ptr 1 0),(6,.own 2),(7,.own 3),(8,.d (.int .i64 ((w:Int))))]) (fun ((w,zs,ys):Nat×List D×List D)=>[(0,some (zR m)),(1,some (.box [.d (.int .i64 0),.nils 1,.nils 1])),(2,some (.row 1 zs)),(3,some (.row 1 ys))]) 4 (fun ((w,zs,ys):Nat×List D×List D)=>w≤n∧zs=(zac w q).map (fun (x:Nat)=>D.int .i64 (x:Int))∧ys=(List.range w).map fun u=>D.int .i64 (zz q u:Int)) (fun ((w,zs,ys):Nat×List D×List D)=>n - w) ((0,[],[])) [(0,0),(1,1)]   [2,3] (⟨by omega,rfl,rfl⟩) (by (refine ⟨rfl,rfl,rfl,?_,?_⟩;repeat' first|exact trivial|exact rfl|exact ⟨_,rfl⟩|refine And.intro ?_ ?_|refine ⟨_,rfl,?_⟩|decide)) ?_
 rintro ⟨w,zs,ys⟩ ⟨hw,hz,hy⟩
 have hzl:zs.length=zo w q:=by rw [hz,List.length_map];rfl
 have hcw:=zbS w q
 have hyl:ys.length=w:=by rw [hy];simp
 by_cases hwl:w < n
 ·have e1:=zG (q:=q) hwl
  have hqw:=hq.le w hwl
  have hqq:=hq.idem w hwl
  by_cases hqe:q w=w
  ·(repeat' ((conv=>whnf);first|refine vA ?_|(refine vF ?_ ?_<;>intro hc<;>try simp only [vL] at hc)|refine vK fun hg=>?_|refine vT ?_|refine vN ‹_› ?_|((first|refine vO ?_ ?_|refine vP ?_ ?_);·first|omega|(simp only [vM] at *;omega))|fail));all_goals try conv=>whnf
   ·refine ⟨(w+1,_,_),[(0,0),(1,1),(2,7),(3,5)],[],?_,?_,by (refine ⟨rfl,rfl,rfl,?_,?_⟩;repeat' first|exact trivial|exact rfl|refine And.intro ?_ ?_|refine ⟨_,rfl,?_⟩|decide)⟩
    ·refine ⟨by (omega),by rw [zsu,if_pos hqe,List.map_append,hz];rfl,?_⟩
     rw [List.range_succ,List.map_append,← hy,hzl]
     show _=ys++[D.int .i64 (zo (q w) q:Int)]
     rw [hqe];rfl
    ·((simp only [vM] at *;omega))
   all_goals omega
  ·have hlt:q w < w:=by omega
   subst hy
   have e3:(List.range w)[q w]? = some (q w):=List.getElem?_range hlt
   have hrl:(List.range w).length=w:=List.length_range
   (repeat' ((conv=>whnf);first|refine vA ?_|(refine vF ?_ ?_<;>intro hc<;>try simp only [vL] at hc)|refine vK fun hg=>?_|refine vT ?_|refine vN ‹_› ?_|((first|refine vO ?_ ?_|refine vP ?_ ?_);·first|omega|(simp only [vM] at *;omega))|fail));all_goals try conv=>whnf
   all_goals try (exfalso;omega)
   ·refine ⟨(w+1,zs,_),[(0,0),(1,1),(2,2),(3,5)],[],?_,?_,by (refine ⟨rfl,rfl,rfl,?_,?_⟩;repeat' first|exact trivial|exact rfl|refine And.intro ?_ ?_|refine ⟨_,rfl,?_⟩|decide)⟩
    ·refine ⟨by (omega),by rw [zsu,if_neg hqe,hz],?_⟩
     rw [List.range_succ,List.map_append]
     show _=_++[D.int .i64 (zo (q w) q:Int)]
     rw [show (zo (q w) q)=zo (q (q w)) q by rw [hqq]];rfl
    ·((simp only [vM] at *;omega))
   all_goals omega
 ·have ew:w=n:=by omega
  subst ew
  have hzl2:(zac w q).length=zo w q:=rfl
  obtain ⟨c,hc0⟩ : ∃ c,c=zo w q:=⟨_,rfl⟩
  subst hz
  obtain rfl:ys=(ptL w (zz q)).map (D.int .i64):=by rw [hy];unfold ptL;rw [List.map_map];rfl
  clear hy
  have hml:(ptL w (zz q)).length=w:=z1
  obtain ⟨low,hlow⟩ : ∃ low,low=(zac w q).map (fun (x:Nat)=>D.int .i64 (x:Int)):=⟨_,rfl⟩
  have hll:low.length=zo w q:=by rw [hlow,List.length_map];rfl
  rw [← hlow]
  (repeat' ((conv=>whnf);first|refine vA ?_|(refine vF ?_ ?_<;>intro hc<;>try simp only [vL] at hc)|refine vK fun hg=>?_|refine vT ?_|refine vN ‹_› ?_|(refine vQ ?_ fun x hx=>?_;·omega)|((first|refine vO ?_ ?_|refine vP ?_ ?_);·omega)|fail));all_goals try conv=>whnf
  all_goals try (exfalso;omega)
  refine zf (fun ((k,zs):Nat×List D)=>[(2,.ptr 0 0),(4,.ptr 1 0),(6,.own 2),(7,.own 3),(9,.ptr 4 0),(10,.d (.int .i64 ((k:Int))))]) (fun ((k,zs):Nat×List D)=>[(0,some (zR m)),(1,some (.box [.d (.int .i64 0),.nils 1,.nils 1])),(2,some (.row 1 low)),(3,some (.row 1 ((ptL w (zz q)).map (D.int .i64)))),(4,some (.box [.d (.int .i64 (low.length:Int)),.own 5,.nils 1])),(5,some (.row 1 zs))]) 6 (fun ((k,zs):Nat×List D)=>k≤m.val.length∧zs=(m.val.take k).map fun s=>D.u64 (zau (fun k=>s.getLsbD ((zac w q).getD k 0)) (zo w q))) (fun ((k,zs):Nat×List D)=>m.val.length - k) ((0,[])) [(0,0),(1,1),(2,2),(3,3),(4,4)]   [5] (⟨by simp,by simp⟩) (by (refine ⟨rfl,rfl,rfl,?_,?_⟩;repeat' first|exact trivial|exact rfl|exact ⟨_,rfl⟩|refine And.intro ?_ ?_|refine ⟨_,rfl,?_⟩|decide)) ?_
  rintro ⟨k,zs⟩ ⟨hk,hz⟩
  have hzl:zs.length≤8:=by rw [hz];simp;omega
  by_cases hkl:k < m.val.length
  ·obtain ⟨s,hs⟩ : ∃ s,m.val[k]? = some s:=⟨_,List.getElem?_eq_getElem hkl⟩
   (repeat' ((conv=>whnf);first|refine vA ?_|(refine vF ?_ ?_<;>intro hc<;>try simp only [vL] at hc)|refine vJ fun hg=>?_|refine vT ?_));all_goals try conv=>whnf
   ·refine zf (fun ((j,o):Nat×BitVec 64)=>[(2,.ptr 0 0),(4,.ptr 1 0),(6,.own 2),(7,.own 3),(9,.ptr 4 0),(10,.d (.int .i64 ((k:Int)))),(11,.d (.u64 (o))),(12,.d (.int .i64 ((j:Int))))]) (fun ((j,o):Nat×BitVec 64)=>[(0,some (zR m)),(1,some (.box [.d (.int .i64 0),.nils 1,.nils 1])),(2,some (.row 1 low)),(3,some (.row 1 ((ptL w (zz q)).map (D.int .i64)))),(4,some (.box [.d (.int .i64 (low.length:Int)),.own 5,.nils 1])),(5,some (.row 1 zs))]) 6 (fun ((j,o):Nat×BitVec 64)=>j≤zo w q∧o=zau (fun k=>s.getLsbD ((zac w q).getD k 0)) j) (fun ((j,o):Nat×BitVec 64)=>zo w q - j) ((0,0#64)) [(0,0),(1,1),(2,2),(3,3),(4,4),(5,5)] [] (⟨by simp,rfl⟩) (by (refine ⟨rfl,rfl,rfl,?_,?_⟩;repeat' first|exact trivial|exact rfl|refine And.intro ?_ ?_|refine ⟨_,rfl,?_⟩|decide)) ?_
    rintro ⟨j,o⟩ ⟨hj,ho⟩
    by_cases hjl:j < zo w q
    ·obtain ⟨u,hu,hu1,-,-⟩:=ziu hq hjl
     have hug:(zac w q).getD j 0=u:=by rw [List.getD,hu];rfl
     subst hlow
     have cin:=zBc (T:=T) s (u:Int) (by omega) (by omega)
     rw [ztl,Int.toNat_natCast] at cin
     (repeat' ((conv=>whnf);first|refine vA ?_|refine vE ?_|(refine vF ?_ ?_<;>intro hc<;>try simp only [vL] at hc)|refine vJ fun hg=>?_|refine vT ?_|refine vN ‹_› ?_|((first|refine vO ?_ ?_|refine vP ?_ ?_);·omega)|(refine vU ?_ ?_;·kernel_rfl)|refine yD cin ⟨⟨rfl,rfl⟩,⟨rfl,rfl⟩,rfl⟩ rfl ?_));all_goals try conv=>whnf
     ·refine ⟨(j+1,o),[(0,0),(1,1),(2,2),(3,3),(4,4),(5,5)],[],?_,?_,by (refine ⟨rfl,rfl,rfl,?_,?_⟩;repeat' first|exact trivial|exact rfl|refine And.intro ?_ ?_|refine ⟨_,rfl,?_⟩|decide)⟩
      ·exact ⟨by (omega),by rw [zau,hug,if_neg (by rw [zkR ‹_›];decide),ho]⟩
      ·((simp only [vM] at *;omega))
     ·refine ⟨(j+1,_),[(0,0),(1,1),(2,2),(3,3),(4,4),(5,5)],[],?_,?_,by (refine ⟨rfl,rfl,rfl,?_,?_⟩;repeat' first|exact trivial|exact rfl|refine And.intro ?_ ?_|refine ⟨_,rfl,?_⟩|decide)⟩
      ·exact ⟨by (omega),by rw [zau,hug,if_pos (zje ‹_›),zja (by omega),ho];rfl⟩
      ·((simp only [vM] at *;omega))
     all_goals (exfalso;omega)
    ·have ej:j=zo w q:=by omega
     subst ej
     (repeat' ((conv=>whnf);first|refine vA ?_|(refine vF ?_ ?_<;>intro hc<;>try simp only [vL] at hc)|refine vK fun hg=>?_|refine vT ?_|refine vN ‹_› ?_|((first|refine vO ?_ ?_|refine vP ?_ ?_);·first|omega|(simp only [vM] at *;omega))|fail));all_goals try conv=>whnf
     all_goals try (exfalso;omega)
     refine ⟨(k+1,_),[(0,0),(1,1),(2,2),(3,3),(4,4),(5,7)],[],?_,?_,by (refine ⟨rfl,rfl,rfl,?_,?_⟩;repeat' first|exact trivial|exact rfl|refine And.intro ?_ ?_|refine ⟨_,rfl,?_⟩|decide)⟩
     ·exact ⟨by (omega),by rw [List.take_add_one,hs,hz,ho];simp⟩
     ·((simp only [vM] at *;omega))
   all_goals (exfalso;omega)
  ·have hzz:zs=m.val.map fun s=>D.u64 (zau (fun k=>s.getLsbD ((zac w q).getD k 0)) (zo w q)):=by rw [hz,List.take_of_length_le (by omega)]
   clear hz
   obtain ⟨vs,hvs⟩ : ∃ vs,vs=m.val.map fun s=>D.u64 (zau (fun k=>s.getLsbD ((zac w q).getD k 0)) (zo w q)):=⟨_,rfl⟩
   rw [← hvs] at hzz
   rw [hzz]
   (repeat' ((conv=>whnf);first|refine vA ?_|(refine vF ?_ ?_<;>intro hc<;>try simp only [vL] at hc)|refine vJ fun hg=>?_|refine vT ?_));all_goals try conv=>whnf
   all_goals try (exfalso;omega)
   refine zf (fun ((k,zs):Nat×List D)=>[(2,.ptr 0 0),(4,.ptr 1 0),(6,.own 2),(7,.own 3),(9,.ptr 4 0),(13,.d (.int .i64 ((k:Int))))]) (fun ((k,zs):Nat×List D)=>[(0,some (zR m)),(1,some (.box [.d (.int .i64 0),.nils 1,.nils 1])),(2,some (.row 1 low)),(3,some (.row 1 ((ptL w (zz q)).map (D.int .i64)))),(4,some (.box [.d (.int .i64 (low.length:Int)),.own 5,.own 6])),(5,some (.row 1 vs)),(6,some (.row 1 zs))]) 7 (fun ((k,zs):Nat×List D)=>k≤m.rel.length∧zs=(m.rel.take k).map fun r=>dU ((List.range (zo w q)).map (zbp q w r w))) (fun ((k,zs):Nat×List D)=>m.rel.length - k) ((0,[])) [(0,0),(1,1),(2,2),(3,3),(4,4),(5,5)]   [6] (⟨by simp,by simp⟩) (by (refine ⟨rfl,rfl,rfl,?_,?_⟩;repeat' first|exact trivial|exact rfl|exact ⟨_,rfl⟩|refine And.intro ?_ ?_|refine ⟨_,rfl,?_⟩|decide)) ?_
   rintro ⟨k,zs⟩ ⟨hk,hz⟩
   have hzl:zs.length≤4:=by rw [hz];simp;omega
   by_cases hkl:k < m.rel.length
   ·obtain ⟨r,hr⟩ : ∃ r,m.rel[k]? = some r:=⟨_,List.getElem?_eq_getElem hkl⟩
    have hrl:r.length=w:=by have:=hg0.len r (List.mem_of_getElem? hr);omega
    (repeat' ((conv=>whnf);first|refine vA ?_|(refine vF ?_ ?_<;>intro hc<;>try simp only [vL] at hc)|refine vJ fun hg=>?_|refine vK fun hg=>?_|refine vT ?_|(refine vP ?_ ?_;·omega)|fail));all_goals try conv=>whnf
    all_goals try (exfalso;omega)
    refine zf (fun ((a,ys):Nat×List D)=>[(2,.ptr 0 0),(4,.ptr 1 0),(6,.own 2),(7,.own 3),(9,.ptr 4 0),(13,.d (.int .i64 ((k:Int)))),(14,.own 7),(15,.d (.int .i64 ((a:Int))))]) (fun ((a,ys):Nat×List D)=>[(0,some (zR m)),(1,some (.box [.d (.int .i64 0),.nils 1,.nils 1])),(2,some (.row 1 low)),(3,some (.row 1 ((ptL w (zz q)).map (D.int .i64)))),(4,some (.box [.d (.int .i64 (low.length:Int)),.own 5,.own 6])),(5,some (.row 1 vs)),(6,some (.row 1 zs)),(7,some (.row 1 ys))]) 8 (fun ((a,ys):Nat×List D)=>a≤w∧ys=(List.range (zo w q)).map fun i=>D.u64 (zbp q w r a i)) (fun ((a,ys):Nat×List D)=>w - a) ((0,List.replicate ((low.length:Int)).toNat (D.u64 0))) [(0,0),(1,1),(2,2),(3,3),(4,4),(5,5),(6,6),(7,7)] [] (⟨by omega,by rw [hll,Int.toNat_natCast];exact z2 _ _⟩) (by (refine ⟨rfl,rfl,rfl,?_,?_⟩;repeat' first|exact trivial|exact rfl|refine And.intro ?_ ?_|refine ⟨_,rfl,?_⟩|decide)) ?_
    rintro ⟨a,ys⟩ ⟨ha,hy⟩
    by_cases hal:a < w
    ·have hna:=zdU hq hal
     (repeat' ((conv=>whnf);first|refine vA ?_|(refine vF ?_ ?_<;>intro hc<;>try simp only [vL] at hc)|refine vT ?_|((first|refine vO ?_ ?_|refine vP ?_ ?_);·omega)|fail));all_goals try conv=>whnf
     all_goals try (exfalso;omega)
     refine zf (fun ((b,ys):Nat×List D)=>[(2,.ptr 0 0),(4,.ptr 1 0),(6,.own 2),(7,.own 3),(9,.ptr 4 0),(13,.d (.int .i64 ((k:Int)))),(14,.own 7),(15,.d (.int .i64 ((a:Int)))),(16,.d (.int .i64 ((b:Int))))]) (fun ((b,ys):Nat×List D)=>[(0,some (zR m)),(1,some (.box [.d (.int .i64 0),.nils 1,.nils 1])),(2,some (.row 1 low)),(3,some (.row 1 ((ptL w (zz q)).map (D.int .i64)))),(4,some (.box [.d (.int .i64 (low.length:Int)),.own 5,.own 6])),(5,some (.row 1 vs)),(6,some (.row 1 zs)),(7,some (.row 1 ys))]) 8 (fun ((b,ys):Nat×List D)=>b≤w∧ys=(List.range (zo w q)).map fun i=>D.u64 (zmo q w r a b i)) (fun ((b,ys):Nat×List D)=>w - b) ((0,ys)) [(0,0),(1,1),(2,2),(3,3),(4,4),(5,5),(6,6),(7,7)] [] (⟨by omega,by rw [hy];exact List.map_congr_left fun i _=>by rw [zxB]⟩) (by (refine ⟨rfl,rfl,rfl,?_,?_⟩;repeat' first|exact trivial|exact rfl|refine And.intro ?_ ?_|refine ⟨_,rfl,?_⟩|decide)) ?_
     rintro ⟨b,ys⟩ ⟨hb',hy⟩
     by_cases hbl:b < w
     ·have hnb:=zdU hq hbl
      obtain ⟨s,hs⟩ : ∃ s,r[a]? = some s:=⟨_,List.getElem?_eq_getElem (by omega)⟩
      have e1:=zG (q:=zz q) hal
      have e2:=zG (q:=zz q) hbl
      have e3:(List.range (zo w q))[zz q a]? = some (zz q a):=List.getElem?_range hna
      have hrl2:(List.range (zo w q)).length=zo w q:=List.length_range
      have cin:=zBc (T:=T) s (b:Int) (by omega) (by omega)
      rw [ztl,Int.toNat_natCast] at cin
      have hnb64:=h64 b hbl
      subst hy
      (repeat' ((conv=>whnf);first|refine vA ?_|refine vE ?_|(refine vF ?_ ?_<;>intro hc<;>try simp only [vL] at hc)|refine vT ?_|refine vN ‹_› ?_|((first|refine vO ?_ ?_|refine vP ?_ ?_);·first|omega|(simp only [vM] at *;omega))|(refine vU ?_ ?_;·kernel_rfl)|refine yD cin ⟨⟨rfl,rfl⟩,⟨rfl,rfl⟩,rfl⟩ rfl ?_));all_goals try conv=>whnf
      all_goals try (exfalso;omega)
      ·refine ⟨(b+1,_),[(0,0),(1,1),(2,2),(3,3),(4,4),(5,5),(6,6),(7,7)],[],?_,?_,by (refine ⟨rfl,rfl,rfl,?_,?_⟩;repeat' first|exact trivial|exact rfl|refine And.intro ?_ ?_|refine ⟨_,rfl,?_⟩|decide)⟩
       ·refine ⟨by (omega),zC fun u hu=>?_⟩
        rw [zrJ,zhK hs,if_neg (fun e=>by rw [zkR ‹_›] at e;exact absurd e.2 (by decide))]
       ·((simp only [vM] at *;omega))
      ·refine ⟨(b+1,_),[(0,0),(1,1),(2,2),(3,3),(4,4),(5,5),(6,6),(7,7)],[],?_,?_,by (refine ⟨rfl,rfl,rfl,?_,?_⟩;repeat' first|exact trivial|exact rfl|refine And.intro ?_ ?_|refine ⟨_,rfl,?_⟩|decide)⟩
       ·refine ⟨by (omega),(zbL _).trans (zC fun u hu=>?_)⟩
        rw [zrJ,zhK hs,Int.toNat_natCast,zja (by omega)]
        by_cases e:u=zz q a
        ·subst e;rw [if_pos rfl,if_pos ⟨rfl,zje ‹_›⟩];rfl
        ·rw [if_neg e,if_neg (fun h=>e h.1.symm)]
       ·((simp only [vM] at *;omega))
      all_goals skip
     ·have eb:b=w:=by omega
      subst eb
      (repeat' ((conv=>whnf);first|refine vA ?_|(refine vF ?_ ?_<;>intro hc<;>try simp only [vL] at hc)|refine vT ?_|refine vN ‹_› ?_|(refine vQ ?_ fun x hx=>?_;·omega)|(refine vO ?_ ?_;·omega)|fail));all_goals try conv=>whnf
      all_goals try (exfalso;omega)
      refine ⟨(a+1,_),[(0,0),(1,1),(2,2),(3,3),(4,4),(5,5),(6,6),(7,7)],[],?_,?_,by (refine ⟨rfl,rfl,rfl,?_,?_⟩;repeat' first|exact trivial|exact rfl|refine And.intro ?_ ?_|refine ⟨_,rfl,?_⟩|decide)⟩
      ·exact ⟨by (omega),by rw [hy];exact List.map_congr_left fun i _=>by rw [zCt]⟩
      ·((simp only [vM] at *;omega))
    ·have ea:a=w:=by omega
     subst ea
     obtain rfl:ys=((List.range (zo a q)).map (zbp q a r a)).map D.u64:=by rw [hy,List.map_map];rfl
     (repeat' ((conv=>whnf);first|refine vA ?_|(refine vF ?_ ?_<;>intro hc<;>try simp only [vL] at hc)|refine vT ?_|((first|refine vO ?_ ?_|refine vP ?_ ?_);·first|omega|(simp only [vM] at *;omega))|fail));all_goals try conv=>whnf
     all_goals try (exfalso;omega)
     refine ⟨(k+1,_),[(0,0),(1,1),(2,2),(3,3),(4,4),(5,5),(6,9)],[],?_,?_,by (refine ⟨rfl,rfl,rfl,?_,?_⟩;repeat' first|exact trivial|exact rfl|refine And.intro ?_ ?_|refine ⟨_,rfl,?_⟩|decide)⟩
     ·exact ⟨by (omega),by rw [List.take_add_one,hr,hz];simp⟩
     ·((simp only [vM] at *;omega))
   ·have hzz:zs=m.rel.map fun r=>dU ((List.range (zo w q)).map (zbp q w r w)):=by rw [hz,List.take_of_length_le (by omega)]
    subst hzz
    (repeat' ((conv=>whnf);first|refine vA ?_|(refine vF ?_ ?_<;>intro hc<;>try simp only [vL] at hc)|refine vJ fun hg=>?_|refine vK fun hg=>?_|refine vT ?_|(refine vP ?_ ?_;·omega)|fail));all_goals try conv=>whnf
    all_goals try (exfalso;omega)
    refine congrArg some (show D.tup [D.agg [.int .i64 (low.length:Int),.arr 1 vs,.arr 1 (m.rel.map fun r=>dU ((List.range (zo w q)).map (zbp q w r w)))],dI (ptL w (zz q))]=D.tup [dKM (zaN m q),dI (ptL w (zz q))] from ?_)
    have f2:(m.rel.map fun r=>(List.range (zo w q)).map (zbp q w r w))=(zaN m q).rel:=by
     rw [hn] at hq ⊢
     exact List.map_congr_left fun r _=>List.map_congr_left fun i _=>zv6 hq (by omega) r i
    rw [hll,hvs,show (m.rel.map fun r=>dU ((List.range (zo w q)).map (zbp q w r w)))=(zaN m q).rel.map dU by rw [← f2,List.map_map];rfl,hn]
    show D.tup [D.agg [_,D.arr 1 _,_],_]=D.tup [D.agg [_,D.arr 1 (List.map D.u64 (List.map _ m.val)),_],_]
    rw [List.map_map];rfl
end Go.Ab
namespace Go.Ab
open Go Go.Proofs
set_option maxRecDepth 10000
set_option maxHeartbeats 4000000
variable {T:Nat→Obj→Prop}
theorem zBL {m:KM} (hk0:za m=0) {q:Nat→Nat} (hq:zad m.W.toNat q):Fn Tryz.prog T ze2 [.d (dKM m),.d (dI (ptL m.W.toNat q))] [] (.d (zo6 (byR m q))) []:=by
 have hg0:=zn hk0
 have w1:=hg0.w1
 have w2:=hg0.w2
 have hp0:zas (ptL m.W.toNat q)=0:=zjn hq (by omega)
 have cqq:=zmY (T:=T) hk0 hq
 refine zb zm zhu (by show 2≤55;decide) ?_
 have hlen:((ptL m.W.toNat q).length:Int)=m.W:=by rw [z1];omega
 have e0:byR m q=if (List.range m.W.toNat).all (byF m q)=true then (zaN m q,ptL m.W.toNat (zz q),0) else (zaF,[],1):=rfl
 have cpc:=zii (T:=T) (ptL m.W.toNat q)
 have ckc:=za8 (T:=T) m
 rw [hp0] at cpc
 rw [hk0] at ckc
 obtain ⟨n,hn⟩ : ∃ n,n=m.W.toNat:=⟨_,rfl⟩
 rw [← hn] at hq hp0 hlen e0 cqq cpc ⊢
 (repeat' ((conv=>whnf);first|refine vA ?_|refine vH ?_|(refine vD ?_ ?_<;>intro hc<;>try simp only [vL] at hc)|refine vJ fun hg=>?_|refine vT ?_|refine yD ckc ⟨⟨rfl,rfl⟩,rfl⟩ rfl ?_|refine yD cpc ⟨⟨rfl,rfl⟩,rfl⟩ rfl ?_));all_goals try conv=>whnf
 ·exfalso;omega
 refine zf (fun (w:Nat)=>[(1,.d (dI (ptL n q))),(2,.ptr 0 0),(4,.ptr 1 0),(9,.d (.int .i64 ((w:Int))))]) (fun (w:Nat)=>[(0,some (zR m)),(1,some (.box [.d (.int .i64 0),.nils 1,.nils 1]))]) 2 (fun (w:Nat)=>w≤n ∧ ∀ u,u < w→byF m q u=true) (fun (w:Nat)=>n - w) (0) [(0,0),(1,1)] [] (⟨by omega,fun u hu=>by omega⟩) (by (refine ⟨rfl,rfl,rfl,?_,?_⟩;repeat' first|exact trivial|exact rfl|refine And.intro ?_ ?_|refine ⟨_,rfl,?_⟩|decide)) ?_
 rintro w ⟨hw,hI⟩
 by_cases hwl:w < n
 ·have e1:=zG (q:=q) hwl
  have hqw:=hq.le w hwl
  have cf1:=zf9 (T:=T) m (w:Int)
  have cf2:=zf9 (T:=T) m ((q w:Nat):Int)
  rw [zgx hk0 (by omega)] at cf1 cf2
  (repeat' ((conv=>whnf);first|refine vA ?_|((first|refine vD ?_ ?_|refine vF ?_ ?_)<;>intro hc<;>try simp only [vL] at hc)|refine vT ?_|refine vN ‹_› ?_|(refine vO ?_ ?_;·omega)|(refine vU ?_ ?_;·kernel_rfl)|refine yD cf1 ⟨⟨rfl,rfl⟩,⟨rfl,rfl⟩,rfl⟩ rfl ?_|refine yD cf2 ⟨⟨rfl,rfl⟩,⟨rfl,rfl⟩,rfl⟩ rfl ?_));all_goals try conv=>whnf
  ·rw [e0,if_neg (zvA hwl (by unfold byF;rw [decide_eq_false_iff_not];assumption))];rfl
  ·exact ⟨w+1,[(0,0),(1,1)],[],⟨by (omega),fun u hu=>by
    by_cases e:u=w
    ·subst e;unfold byF;rw [decide_eq_true_eq];assumption
    ·exact hI u (by omega)⟩,by (omega),by (refine ⟨rfl,rfl,rfl,?_,?_⟩;repeat' first|exact trivial|exact rfl|refine And.intro ?_ ?_|refine ⟨_,rfl,?_⟩|decide)⟩
  all_goals (exfalso;omega)
 ·have e0:byR m q=(zaN m q,ptL n (zz q),0):=by rw [e0,if_pos (zoV fun u hu=>hI u (by omega))]
  rw [e0]
  (repeat' ((conv=>whnf);first|refine vA ?_|(refine vF ?_ ?_<;>intro hc<;>try simp only [vL] at hc)|refine vT ?_|refine yN cqq ⟨⟨rfl,rfl⟩,⟨rfl,rfl⟩,rfl⟩ ?_));all_goals try conv=>whnf
  all_goals try (exfalso;omega)
  rfl
theorem zDu (m:KM) (p:List Int):Fn Tryz.prog T ze2 [.d (dKM m),.d (dI p)] [] (.d (zo6 (byL m p))) []:=by
 by_cases hall:za m=0∧zas p=0∧(p.length:Int)=m.W
 ·obtain ⟨hk0,hp0,hlen⟩:=hall
  obtain ⟨hp64,hq,hpe⟩:=zoJ hp0
  have hpn:p.length=m.W.toNat:=by omega
  rw [hpn] at hq hpe
  have:=zBL (T:=T) hk0 hq
  rw [← hpe] at this
  rw [show byL m p=byR m (byQ p) by rw [byL,if_neg (by omega),if_neg (by omega),if_neg (by omega)];rfl]
  exact this
 refine zb zm zhu (by show 2≤55;decide) ?_
 by_cases hk0:za m=0
 ·by_cases hp0:zas p=0
  ·by_cases hlen:(p.length:Int)=m.W
   ·exact absurd ⟨hk0,hp0,hlen⟩ hall
   ·(repeat' ((conv=>whnf);first|refine vA ?_|(refine vD ?_ ?_<;>intro hc<;>try simp only [vL] at hc)|refine vJ fun hg=>?_|refine vT ?_|refine yD (za8 m) ⟨⟨rfl,rfl⟩,rfl⟩ rfl ?_|refine yD (zii p) ⟨⟨rfl,rfl⟩,rfl⟩ rfl ?_));all_goals try conv=>whnf
    ·exact absurd hk0 ‹_›
    ·exact absurd hp0 ‹_›
    ·rw [byL,if_neg (by omega),if_neg (by omega),if_pos hlen];rfl
    ·exact absurd ‹(p.length:Int)=m.W› hlen
  ·(repeat' ((conv=>whnf);first|refine vA ?_|(refine vD ?_ ?_<;>intro hc<;>try simp only [vL] at hc)|refine vJ fun hg=>?_|refine vT ?_|refine yD (za8 m) ⟨⟨rfl,rfl⟩,rfl⟩ rfl ?_|refine yD (zii p) ⟨⟨rfl,rfl⟩,rfl⟩ rfl ?_));all_goals try conv=>whnf
   ·exact absurd hk0 ‹_›
   ·rw [byL,if_neg (by omega),if_pos hp0];rfl
   all_goals exact absurd ‹zas p=0› hp0
 ·(repeat' ((conv=>whnf);first|refine vA ?_|(refine vD ?_ ?_<;>intro hc)|refine vT ?_|refine yD (za8 m) ⟨⟨rfl,rfl⟩,rfl⟩ rfl ?_));all_goals try conv=>whnf
  ·rw [byL,if_pos hk0];rfl
  all_goals exact absurd ‹za m=0› hk0
theorem ztW (m:KM):Fn Tryz.prog T zeT [.d (dKM m)] [] (.d (zo6 (zjz m))) []:=by
 have cco:=zmX (T:=T) m
 refine zb zm ziS (by show 1≤26;decide) ?_
 by_cases hk0:za m=0
 ·rw [show zbg m=(ptL m.W.toNat (cq m),0) by rw [zbg,if_neg (by omega)]] at cco
  have cqq:=zmY (T:=T) hk0 (zee m)
  (repeat' ((conv=>whnf);first|refine vA ?_|refine vH ?_|refine vT ?_|refine yN cco ⟨⟨rfl,rfl⟩,rfl⟩ ?_|refine yN cqq ⟨⟨rfl,rfl⟩,⟨rfl,rfl⟩,rfl⟩ ?_));all_goals try conv=>whnf
  ·rw [zjz,if_neg (by omega)];rfl
 ·rw [show zbg m=([],za m) by rw [zbg,if_pos hk0]] at cco
  (repeat' ((conv=>whnf);first|refine vA ?_|(refine vD ?_ ?_<;>intro hc<;>try simp only [vL] at hc)|refine vT ?_|refine yN cco ⟨⟨rfl,rfl⟩,rfl⟩ ?_));all_goals try conv=>whnf
  ·rw [zjz,if_pos hk0];rfl
  all_goals exact absurd ‹za m=0› hk0
theorem zo5 {n:Nat} {q:Nat→Nat} : zo n q=n ↔ ∀ w,w < n→q w=w:=by
 unfold zo
 have h:=List.length_filter_eq_length_iff (p:=fun w=>decide (q w=w)) (l:=List.range n)
 rw [List.length_range] at h
 rw [h]
 exact ⟨fun k w hw=>of_decide_eq_true (k w (List.mem_range.2 hw)),fun k w hw=>decide_eq_true (k w (List.mem_range.1 hw))⟩
theorem zCU (m:KM):Fn Tryz.prog T zfd [.d (dKM m)] [] (.d (.bool (zpp m))) []:=by
 have cco:=zmX (T:=T) m
 refine zb zm zjx (by show 1≤25;decide) ?_
 by_cases hk0:za m=0
 ·rw [show zbg m=(ptL m.W.toNat (cq m),0) by rw [zbg,if_neg (by omega)]] at cco
  obtain ⟨n,hn⟩ : ∃ n,n=m.W.toNat:=⟨_,rfl⟩
  have e0:zpp m=decide (zo n (cq m)=n):=by
   unfold zpp;rw [decide_eq_decide,hn];exact ⟨fun h=>h.2,fun h=>⟨hk0,h⟩⟩
  rw [← hn] at cco
  have hpl:(ptL n (cq m)).length=n:=z1
  (repeat' ((conv=>whnf);first|refine vA ?_|refine vH ?_|refine vT ?_|refine yN cco ⟨⟨rfl,rfl⟩,rfl⟩ ?_));all_goals try conv=>whnf
  refine zM (fun (w:Nat)=>[(3,.d (dI (ptL n (cq m)))),(5,.d (.int .i64 ((w:Int))))]) (fun (w:Nat)=>w≤n ∧ ∀ u,u < w→cq m u=u) (fun (w:Nat)=>n - w) (0) (⟨by omega,fun u hu=>by omega⟩) (by (repeat' first|exact trivial|exact rfl|refine And.intro ?_ ?_)) ?_
  rintro w ⟨hw,hI⟩
  by_cases hwl:w < n
  ·have e1:=zG (q:=cq m) hwl
   (repeat' ((conv=>whnf);first|refine vA ?_|((first|refine vD ?_ ?_|refine vF ?_ ?_)<;>intro hc<;>try simp only [vL] at hc)|refine vJ fun hg=>?_|refine vT ?_|refine vN ‹_› ?_|(refine vO ?_ ?_;·omega)|refine vZ ?_));all_goals try conv=>whnf
   ·rw [e0,eq_comm,decide_eq_false_iff_not,zo5]
    intro h
    have:=h w hwl
    omega
   ·exact ⟨w+1,[],[],⟨by (omega),fun u hu=>by
     by_cases e:u=w
     ·subst e;omega
     ·exact hI u (by omega)⟩,by (omega),by (refine ⟨rfl,rfl,rfl,?_,?_⟩;repeat' first|exact trivial|exact rfl|refine And.intro ?_ ?_)⟩
   ·exfalso;omega
  ·(repeat' ((conv=>whnf);first|refine vA ?_|((first|refine vD ?_ ?_|refine vF ?_ ?_)<;>intro hc<;>try simp only [vL] at hc)|refine vJ fun hg=>?_|refine vT ?_|(refine vQ ?_ fun x hx=>?_;·omega)|(refine vO ?_ ?_;·omega)|refine vZ ?_));all_goals try conv=>whnf
   all_goals try (exfalso;omega)
   rw [e0,eq_comm,decide_eq_true_eq,zo5]
   exact fun u hu=>hI u (by omega)
 ·rw [show zbg m=([],za m) by rw [zbg,if_pos hk0]] at cco
  (repeat' ((conv=>whnf);first|refine vA ?_|(refine vD ?_ ?_<;>intro hc<;>try simp only [vL] at hc)|refine vT ?_|refine vZ ?_|refine yN cco ⟨⟨rfl,rfl⟩,rfl⟩ ?_));all_goals try conv=>whnf
  ·unfold zpp
   rw [eq_comm,decide_eq_false_iff_not]
   rintro ⟨h,-⟩;exact hk0 h
  ·exact absurd ‹za m=0› hk0
theorem zvi (m:KM) (w:Int):Fn Tryz.prog T zfe [.d (dKM m),.d (.int .i64 w)] [] (.d (.tup [dKM (zaf m w).1,.int .i64 (zaf m w).2.1,.int .i64 (zaf m w).2.2])) []:=by
 have ccx:=za8 (T:=T) m
 refine zb zm zjy (by show 2≤71;decide) ?_
 by_cases hk0:za m=0
 ·have hg0:=zn hk0
  have w1:=hg0.w1
  have w2:=hg0.w2
  rw [hk0] at ccx
  by_cases hw:w < 0∨m.W≤w
  ·(repeat' ((conv=>whnf);first|refine vA ?_|refine vH ?_|(refine vF ?_ ?_<;>intro hc<;>try simp only [vL] at hc)|refine vT ?_|refine yD ccx ⟨⟨rfl,rfl⟩,rfl⟩ rfl ?_));all_goals try conv=>whnf
   iterate 2 (rw [zaf,if_neg (by omega),if_pos hw];rfl)
   exfalso;omega
  ·obtain ⟨w,rfl⟩ : ∃ v:Nat,w=(v:Int):=⟨w.toNat,by omega⟩
   have hwl:w < m.W.toNat:=by omega
   have hbit : ∀ v,(1#64 <<< w).getLsbD v=true→v < m.W.toNat:=fun v hv=>by have:=(zhN (by omega)).1 hv;omega
   have hl:=zlh hk0 hwl
   have hroot:=zdE (R:=zd m) hwl
   have cg:=zlX (T:=T) hk0 hbit
   have cr:=zj4 (T:=T) hk0 (s:=zeo m (1#64 <<< w)) (fun e=>by
    rw [e,zcP] at hl;rw [← hl] at hroot;cases hroot) (fun v hv=>((zfL hk0).1 hv).lt)
   rw [hl] at cr
   have hof:=zja (k:=w) (by omega)
   obtain ⟨hp0,hpW,-,-⟩:=zrs hk0 hwl
   rw [zqM hk0 hw,Int.toNat_natCast]
   clear hl
   change Fn _ _ _ _ _ (.d (.tup [dKM (zV m w),_,_])) _ at cr
   have cm:=ztW (T:=T) (zV m w)
   rw [show zjz (zV m w)=(zaN (zV m w) (cq (zV m w)),ptL (zV m w).W.toNat (zz (cq (zV m w))),0) by rw [zjz,if_neg (by omega)]] at cm
   have hnd:=zfM m.W.toNat (zd m) w
   have h1:(1:BitVec 64) <<< (BitVec.ofInt 64 (w:Int)).toNat=1#64 <<< w:=by rw [hof];rfl
   generalize zeo m (1#64 <<< w)=gs at cr cg
   rw [← h1] at cg
   generalize zV m w=g at cr cm hpW hp0
   generalize zH m.W.toNat (zd m) w=l at cr cm hpW hroot hnd
   obtain ⟨Q,hQ⟩ : ∃ Q,Q=zaN g (cq g):=⟨_,rfl⟩
   rw [← hQ] at cm ⊢
   (repeat' ((conv=>whnf);first|refine vA ?_|refine vH ?_|(refine vF ?_ ?_<;>intro hc<;>try simp only [vL] at hc)|refine vT ?_|refine yD ccx ⟨⟨rfl,rfl⟩,rfl⟩ rfl ?_|refine yN cg ⟨⟨rfl,rfl⟩,⟨rfl,rfl⟩,rfl⟩ ?_|refine yN cr ⟨⟨rfl,rfl⟩,⟨rfl,rfl⟩,rfl⟩ ?_|refine yN cm ⟨⟨rfl,rfl⟩,rfl⟩ ?_));all_goals try conv=>whnf
   all_goals try (exfalso;omega)
   refine zf (fun (i:Nat)=>[(1,.d (.int .i64 ((w:Int)))),(4,.ptr 0 0),(11,.d (dN l)),(13,.ptr 1 0),(14,.d (dI (ptL g.W.toNat (zz (cq g))))),(16,.d (.int .i64 ((i:Int))))]) (fun (i:Nat)=>[(0,some (.box [.d (.int .i64 0),.nils 1,.nils 1])),(1,some (zR Q))]) 2 (fun (i:Nat)=>i≤l.length ∧ ∀ u,u < i→l.getD u 0≠w) (fun (i:Nat)=>l.length - i) (0) [(0,1),(1,3)] [] (⟨by omega,fun u hu=>by omega⟩) (by (refine ⟨rfl,rfl,rfl,?_,?_⟩;repeat' first|exact trivial|exact rfl|refine And.intro ?_ ?_|refine ⟨_,rfl,?_⟩|decide)) ?_
   rintro i ⟨hi,hI⟩
   have hlD:=zhL l
   by_cases hil:i < l.length
   ·have e1:=zeJ hil
    have e2:=zG (n:=g.W.toNat) (q:=zz (cq g)) (w:=i) (by omega)
    (repeat' ((conv=>whnf);first|refine vA ?_|(refine vF ?_ ?_<;>intro hc<;>try simp only [vL] at hc)|refine vJ fun hg=>?_|refine vT ?_|refine vN ‹_› ?_|(refine vO ?_ ?_;·(simp only [vM] at *;omega))|(refine vU ?_ ?_;·kernel_rfl)|fail));all_goals try conv=>whnf
    ·have h1:=zfu hroot
     have hiw:i=l.idxOf w:=zij hnd hil h1.1 (by rw [h1.2];omega)
     rw [← hiw];rfl
    ·exact ⟨i+1,[(0,0),(1,1)],[],⟨by (omega),fun u hu=>by
      by_cases e:u=i
      ·subst e;omega
      ·exact hI u (by omega)⟩,by (omega),by (refine ⟨rfl,rfl,rfl,?_,?_⟩;repeat' first|exact trivial|exact rfl|refine And.intro ?_ ?_|refine ⟨_,rfl,?_⟩|decide)⟩
    ·exfalso;omega
   ·exfalso
    have h1:=zfu hroot
    exact hI _ (by omega) h1.2
 ·(repeat' ((conv=>whnf);first|refine vA ?_|((first|refine vD ?_ ?_|refine vF ?_ ?_)<;>intro hc<;>try simp only [vL] at hc)|refine vT ?_|refine yD ccx ⟨⟨rfl,rfl⟩,rfl⟩ rfl ?_));all_goals try conv=>whnf
  ·rw [zaf,if_pos hk0];rfl
  all_goals exact absurd ‹za m=0› hk0
theorem zi4 (hT:zbV T) (m:KM) (w:Int):Fn Tryz.prog T zem [.d (dKM m),.d (.int .i64 w)] [] (.d (dKI (cnL m w))) []:=by
 have cp:=zvi (T:=T) m w
 refine zb zm zis (by show 2≤31;decide) ?_
 obtain ⟨x,hx⟩ : ∃ x,x=zaf m w:=⟨_,rfl⟩
 have hcn:cnL m w=if x.2.2≠0 then (zaF,x.2.2) else ((zcl x.1 x.2.1).1,(zcl x.1 x.2.1).2.2):=by rw [hx];rfl
 rw [← hx] at cp
 obtain ⟨g,v,e⟩:=x
 rw [hcn]
 by_cases he:e=0
 ·have c2:=zsS (T:=T) hT g v
  rw [if_neg (not_not_intro he)]
  (repeat' ((conv=>whnf);first|refine vA ?_|(refine vD ?_ ?_<;>intro hc<;>try simp only [vL] at hc)|refine vT ?_|refine yN cp ⟨⟨rfl,rfl⟩,⟨rfl,rfl⟩,rfl⟩ ?_|refine yN c2 ⟨⟨rfl,rfl⟩,⟨rfl,rfl⟩,rfl⟩ ?_));all_goals try conv=>whnf
  ·exact absurd he ‹_›
  ·rfl
 ·rw [if_pos he]
  (repeat' ((conv=>whnf);first|refine vA ?_|(refine vD ?_ ?_<;>intro hc<;>try simp only [vL] at hc)|refine vT ?_|refine yN cp ⟨⟨rfl,rfl⟩,⟨rfl,rfl⟩,rfl⟩ ?_));all_goals try conv=>whnf
  ·rfl
  ·exact absurd ‹e=0› he
noncomputable def znv (a:KM) (v:Int) (b:KM) (w:Int):Bool×Int :=
 if za a≠0 then (false,za a) else if za b≠0 then (false,za b) else if a.rel.length≠b.rel.length∨a.val.length≠b.val.length then (false,1) else
  if v < 0∨a.W≤v∨w < 0∨b.W≤w then (false,2) else (decide ((cnL a v).1=(cnL b w).1),0)
theorem zC9 (hT:zbV T) (a b:KM) (v w:Int):Fn Tryz.prog T zgp [.d (dKM a),.d (.int .i64 v),.d (dKM b),.d (.int .i64 w)] [] (.d (.tup [.bool (znv a v b w).1,.int .i64 (znv a v b w).2])) []:=by
 have c1:=zi4 (T:=T) hT a v
 have c2:=zi4 (T:=T) hT b w
 refine zb zm zmh (by show 4≤75;decide) ?_
 obtain ⟨x,hx⟩ : ∃ x,x=cnL a v:=⟨_,rfl⟩
 obtain ⟨y,hy⟩ : ∃ y,y=cnL b w:=⟨_,rfl⟩
 have hs:znv a v b w=if za a≠0 then (false,za a) else if za b≠0 then (false,za b) else if a.rel.length≠b.rel.length∨a.val.length≠b.val.length then (false,1) else
  if v < 0∨a.W≤v∨w < 0∨b.W≤w then (false,2) else (decide (x.1=y.1),0):=by rw [hx,hy];rfl
 rw [← hx] at c1
 rw [← hy] at c2
 rw [hs]
 clear hs hx hy
 obtain ⟨x,e⟩:=x
 obtain ⟨y,e'⟩:=y
 dsimp only
 (repeat' ((conv=>whnf);first|refine vA ?_|((first|refine vD ?_ ?_|refine vF ?_ ?_)<;>intro hc<;>try simp only [vL] at hc)|refine vJ fun hg=>?_|refine vT ?_|refine yD (za8 _) ⟨⟨rfl,rfl⟩,rfl⟩ rfl ?_|refine yN c1 ⟨⟨rfl,rfl⟩,⟨rfl,rfl⟩,rfl⟩ ?_|refine yN c2 ⟨⟨rfl,rfl⟩,⟨rfl,rfl⟩,rfl⟩ ?_|refine yD (zwT _ _) ⟨⟨rfl,rfl⟩,⟨rfl,rfl⟩,rfl⟩ rfl ?_));all_goals try conv=>whnf
 ·rw [if_pos (by omega)];rfl
 ·rw [if_neg (by omega),if_pos (by omega)];rfl
 iterate 2 (rw [if_neg (by omega),if_neg (by omega),if_pos (by omega)];rfl)
 iterate 4 (rw [if_neg (by omega),if_neg (by omega),if_neg (by omega),if_pos (by omega)];rfl)
 ·rw [if_neg (by omega),if_neg (by omega),if_neg (by omega),if_neg (by omega)];rfl
end Go.Ab
namespace Go.Ab
open Go Go.Proofs
set_option maxRecDepth 10000
set_option maxHeartbeats 4000000
def exQ:KM:=⟨4,[12#64],[[4#64,8#64,4#64,8#64]]⟩
def zAv:KM:=⟨1,[1#64],[[1#64]]⟩
def zA2:KM:=⟨2,[2#64],[[2#64,2#64]]⟩
def zzU:KM:=⟨2,[],[[2#64,1#64]]⟩
theorem znH {m:KM} {l:List Int} (hk0:za m=0) (h:ptL m.W.toNat (z7 m 1)=ptL m.W.toNat (z7 m 0)) (h0:ptL m.W.toNat (z7 m 0)=l):zbg m=(l,0):=by
 have w1:=(zn hk0).w1
 rw [zbg,if_neg (by omega),← zrk (m:=m) (k:=0) (by omega) h,h0]
theorem zCA:zbg exQ=([0,0,2,2],0):=znH (by decide) (by decide) (by decide)
theorem zBB:zbg zAv=([0],0):=znH (by decide) (by decide) (by decide)
theorem zBC:zbg zA2=([0,1],0):=znH (by decide) (by decide) (by decide)
theorem zBA:zbg zzU=([0,0],0):=znH (by decide) (by decide) (by decide)
def zzQ (m:KM):Option (List Int):=cond (decide (m=exQ)) (some [0,0,2,2]) (cond (decide (m=zAv)) (some [0]) (cond (decide (m=zA2)) (some [0,1]) (cond (decide (m=zzU)) (some [0,0]) none)))
theorem zBz {m:KM} {l:List Int} (h:zzQ m=some l):zbg m=(l,0):=by
 unfold zzQ at h
 cases h1:decide (m=exQ) with
 | true=>rw [h1] at h;cases h;rw [of_decide_eq_true h1];exact zCA
 | false =>
  rw [h1] at h
  cases h2:decide (m=zAv) with
  | true=>rw [h2] at h;cases h;rw [of_decide_eq_true h2];exact zBB
  | false =>
   rw [h2] at h
   cases h3:decide (m=zA2) with
   | true=>rw [h3] at h;cases h;rw [of_decide_eq_true h3];exact zBC
   | false =>
    rw [h3] at h
    cases h4:decide (m=zzU) with
    | true=>rw [h4] at h;cases h;rw [of_decide_eq_true h4];exact zBA
    | false=>rw [h4] at h;cases h
def zt7:Fs:=fun f vs obs =>
 cond (Nat.beq f zdQ) (match vs,obs with
  | [.d d,.d (.arr 1 a)],[]=>match zrA d,zlm a with
   | some m,some p=>cond (decide (m.W≤12)) (some (.d (zo6 (byL m p)),[])) none
   | _,_=>none
  | _,_=>none)
 (  cond (Nat.beq f zdx) (match vs,obs with
  | [.d d],[]=>match zrA d with
   | some m=>match zzQ m with
    | some l=>some (.d (.tup [dI l,.int .i64 0]),[])
    | none=>none
   | none=>none
  | _,_=>none)
 (cond (Nat.beq f zS) (match vs,obs with
  | [.d (.arr 1 a),.d (.arr 1 b)],[]=>match zkm a,zkm b with
   | some a,some b=>cond (zxn a) (some (.d (.int .i64 (zaq a b)),[])) none
   | _,_=>none
  | _,_=>none)
 (cond (Nat.beq f zaW) (match vs,obs with
  | [.d (.u64 w)],[]=>some (.d (.int .i64 (Lib.ctz 64 w.toNat)),[])
  | _,_=>none)
 (cond (Nat.beq f zd4) (match vs,obs with
  | [.d (.u64 w)],[]=>some (.d (.int .i64 (Sort.bitsLen w.toNat:Int)),[])
  | _,_=>none)
 (cond (Nat.beq f zfl) (match vs,obs with
  | [.d d],[]=>match zrA d with
   | some m=>some (.d (.int .i64 (za m)),[])
   | none=>none
  | _,_=>none)
 (cond (Nat.beq f zfm) (match vs,obs with
  | [.d d,.d (.int .i64 w)],[]=>match zrA d with
   | some m=>some (.d (.int .i64 (zgw m w)),[])
   | none=>none
  | _,_=>none) none))))))
def zDo (f:Nat):Bool:=Nat.beq f zae||(Nat.beq f zE||(Nat.beq f ze0||(Nat.beq f za2||Nat.beq f zb9)))
noncomputable def zCz:Cfg:=⟨zc Tryz.prog,zt7,fun _ _ _=>none,zDo,fun f=>Nat.beq f zdA||(Nat.beq f zjo||Nat.beq f zj1),150⟩
variable {T:Nat→Obj→Prop}
theorem zyr (hT:zbV T) (hX:zfj T):zwl Tryz.prog T zt7:=by
 intro f vs obs v obs' h
 unfold zt7 at h
 cases hb0:Nat.beq f zdQ with
 | true =>
  rw [hb0,cond_true] at h
  rw [Nat.eq_of_beq_eq_true hb0]
  split at h
  ·split at h
   ·rename_i m p hm hp
    rw [znQ hm,zpf hp]
    cases hc:decide (m.W≤12) with
    | true=>rw [hc] at h;cases h;exact zC6 m p fun _=>of_decide_eq_true hc
    | false=>rw [hc] at h;cases h
   ·cases h
  ·cases h
 | false =>
 rw [hb0,cond_false] at h
 cases h0:Nat.beq f zdx with
 | true =>
  rw [h0,cond_true] at h
  rw [Nat.eq_of_beq_eq_true h0]
  split at h
  ·split at h
   ·rename_i m hm
    split at h
    ·rename_i hl
     cases h
     rw [znQ hm]
     have:=zif (T:=T) hT hX m
     rw [zBz hl] at this
     exact this
    ·cases h
   ·cases h
  ·cases h
 | false =>
 rw [h0,cond_false] at h
 cases h1:Nat.beq f zS with
 | true =>
  rw [h1,cond_true] at h
  rw [Nat.eq_of_beq_eq_true h1]
  split at h
  ·split at h
   ·rename_i a b ha hb
    rw [znf ha,znf hb]
    cases hc:zxn a with
    | true=>rw [hc] at h;cases h;exact zih _ _ (zCd hc)
    | false=>rw [hc] at h;cases h
   ·cases h
  ·cases h
 | false =>
  rw [h1,cond_false] at h
  cases h2:Nat.beq f zaW with
  | true =>
   rw [h2,cond_true] at h
   rw [Nat.eq_of_beq_eq_true h2]
   split at h
   ·cases h;exact hT _
   ·cases h
  | false =>
   rw [h2,cond_false] at h
   cases h3:Nat.beq f zd4 with
   | true =>
    rw [h3,cond_true] at h
    rw [Nat.eq_of_beq_eq_true h3]
    split at h
    ·cases h;exact ztQ _
    ·cases h
   | false =>
    rw [h3,cond_false] at h
    cases h4:Nat.beq f zfl with
    | true =>
     rw [h4,cond_true] at h
     rw [Nat.eq_of_beq_eq_true h4]
     split at h
     ·split at h
      ·rename_i hm;cases h;rw [znQ hm];exact zaY _
      ·cases h
     ·cases h
    | false =>
     rw [h4,cond_false] at h
     cases h5:Nat.beq f zfm with
     | true =>
      rw [h5,cond_true] at h
      rw [Nat.eq_of_beq_eq_true h5]
      split at h
      ·split at h
       ·rename_i hm;cases h;rw [znQ hm];exact zg8 _ _
       ·cases h
      ·cases h
     | false=>rw [h5] at h;cases h
theorem zBv (hT:zbV T) (hX:zfj T):zwj Tryz.prog T zCz:=⟨fun f c h=>h,zyr hT hX,fun g vs obs xs h=>by cases h⟩
end Go.Ab
namespace Go.Ab
open Go Go.Proofs
set_option maxRecDepth 10000
set_option maxHeartbeats 4000000
variable {T:Nat→Obj→Prop}
theorem zyu {m:KM} {l:List Nat} (h2:l.length≤64):(zcU (zA m l) (-1)).2=(zbZ l.length (zai l (zd m)) (fun i=>[[1],[zaI l (zF m) i]])).2:=by
 have hid:Ren l.length fun w=>w:=⟨fun _ h=>h,fun _ _ _ _ h=>h⟩
 have:=zrD hid (zth h2 (m:=m)) (first:=fun i=>[[1],[zaI l (zF m) i]]) (first':=mkT (zA m l) (-1)) fun i hi=>by
  unfold mkT
  rw [if_neg (by omega),zra h2 hi]
 unfold zcU
 rw [show (zA m l).W.toNat=l.length from Int.toNat_natCast _]
 exact this.2.2.2
theorem zBu {m:KM} (hk0:za m=0) {w:Nat} (hw:w < m.W.toNat):zcl m (w:Int)=if zfv (zA m (zH m.W.toNat (zd m) w))=false then (zaF,[],16) else (zA m (zcz m w),(zcz m w).map fun (x:Nat)=>(x:Int),0):=by
 rw [zcl,if_neg (by omega),if_neg (by omega),Int.toNat_natCast]
end Go.Ab
namespace Go.Ab
open Go
theorem zeV.refl' {n:Nat} {fa fb:Nat→Int} {R R':zI} (hf : ∀ w,w < n→fb w=fa w) (hl:R'.length=R.length) (hR : ∀ (i:Nat) r r',R[i]? = some r→R'[i]? = some r' → ∀ v w,v < n→w < n→r' v w=r v w):zeV n fa fb R R' fun w=>w :=
 ⟨⟨fun _ h=>h,fun _ _ _ _ e=>e⟩,hf,⟨hl,fun i r r' h1 h2 v w hv hw=>hR i r r' h1 h2 v w hv hw⟩⟩
theorem zzR {n:Nat} {R R':zI} {fa fb:Nat→Int} (h:zeV n fa fb R R' fun w=>w) {w:Nat} (hw:w < n):coa n R' fb w=coa n R fa w:=by
 have S:=zdt n R fa
 have S':=zdt n R' fb
 have B:=h.bis
 rw [← zh8 S'.canon hw,← zh8 S.canon hw]
 refine zet fun v hv=>?_
 unfold zaz
 rw [Bool.eq_iff_iff,decide_eq_true_eq,decide_eq_true_eq]
 constructor
 ·intro e
  exact zjS ((B.trans S'.bis).trans B.symm) (v:=v) (w:=w) ⟨w,⟨v,⟨by omega,rfl⟩,by omega,hw,e⟩,hw,rfl⟩
 ·intro e
  exact zjS ((B.symm.trans S.bis).trans B) (v:=v) (w:=w) ⟨w,⟨v,⟨by omega,rfl⟩,by omega,hw,e⟩,hw,rfl⟩
theorem zzW {n:Nat} {R:zI} {fa:Nat→Int} : zmi n R fa ↔ ∀ Z,zdp n n R R fa fa Z → ∀ v w,Z v w→v=w:=by
 constructor
 ·intro h Z B v w hz;exact h.eq B hz
 ·intro h i hi
  have S:=zdt n R fa
  have:=S.canon.le i hi
  exact h _ S.bis _ _ ⟨by omega,hi,S.canon.idem i hi⟩
theorem zvQ {n:Nat} {R R':zI} {fa fb:Nat→Int} {f:Nat→Nat} (h:zeV n fa fb R R' f) (hd:zmi n R fa):zmi n R' fb:=by
 rw [zzW] at hd ⊢
 intro Z B v w hz
 have hvw:=B.lt hz
 obtain ⟨v',hv',rfl⟩:=h.ren.surj hvw.1
 obtain ⟨w',hw',rfl⟩:=h.ren.surj hvw.2
 have:=hd _ ((h.bis.trans B).trans h.bis.symm) v' w' ⟨_,⟨_,⟨hv',rfl⟩,hz⟩,hw',rfl⟩
 rw [this]
section
variable {n:Nat} {q q':Nat→Nat} (h : ∀ w,w < n→q w=q' w)
include h
theorem zrS {k:Nat} (hk:k≤n):zo k q=zo k q':=by
 unfold zo
 congr 1
 exact List.filter_congr fun w hw=>by rw [h w (by have:=List.mem_range.1 hw;omega)]
theorem zyP:zac n q=zac n q':=by
 unfold zac
 exact List.filter_congr fun w hw=>by rw [h w (List.mem_range.1 hw)]
theorem zhc (hq:zad n q) {w:Nat} (hw:w < n):zz q w=zz q' w:=by
 unfold zz
 have:=hq.le w hw
 rw [zrS h (by omega),h w hw]
theorem zyK (hq:zad n q) {r r':Nat→Nat→Bool} (hr : ∀ v w,v < n→w < n→r v w=r' v w) (i j:Nat):zdh n q r i j=zdh n q' r' i j:=by
 rw [Bool.eq_iff_iff,zix,zix]
 constructor
 ·rintro ⟨v,w,a,b,c,d,e⟩
  exact ⟨v,w,a,b,by rw [← zhc h hq a];exact c,by rw [← zhc h hq b];exact d,by rw [← hr v w a b];exact e⟩
 ·rintro ⟨v,w,a,b,c,d,e⟩
  exact ⟨v,w,a,b,by rw [zhc h hq a];exact c,by rw [zhc h hq b];exact d,by rw [hr v w a b];exact e⟩
end
def ptM (m:KM) (w:Nat):Ptd:=⟨m.W.toNat,zd m,zF m,w⟩
section
variable {m:KM} (hk0:za m=0) {w:Nat} (hw:w < m.W.toNat)
include hk0 hw
theorem znU:let Q:=(zaf m (w:Int)).1;Q.W.toNat=(ptM m w).min.n∧za Q=0∧(zaf m (w:Int)).2.1=(((ptM m w).min.root:Nat):Int)∧zeV (ptM m w).min.n (ptM m w).min.fa (zF Q) (ptM m w).min.R (zd Q) fun x=>x:=by
 intro Q
 have hg0:=zn hk0
 have w2:=hg0.w2
 have hW : ¬((w:Int) < 0∨m.W≤(w:Int)):=by omega
 have hQ:zaf m (w:Int)=_:=zqM hk0 hW
 rw [Int.toNat_natCast] at hQ
 obtain ⟨hp0,hpW,hpI,hp1⟩:=zrs hk0 hw
 have hQ1:Q=zaN (zV m w) (cq (zV m w)):=congrArg Prod.fst hQ
 have hlen:=zhJ (n:=m.W.toNat) (R:=zd m) (w:=w)
 have hid:zeV (zH m.W.toNat (zd m) w).length (zaI (zH m.W.toNat (zd m) w) (zF m)) (zF (zV m w)) (zai (zH m.W.toNat (zd m) w) (zd m)) (zd (zV m w)) fun x=>x :=
  zeV.refl' (fun x hx=>zra (by omega) hx) (by simp [zai,zd,zV,zA]) fun i r r' h1 h2 v u hv hu=>zvE (by omega) h2 h1 hv hu
 have hcq : ∀ x,x < (zH m.W.toNat (zd m) w).length→cq (zV m w) x=coa (zH m.W.toNat (zd m) w).length (zai (zH m.W.toNat (zd m) w) (zd m)) (zaI (zH m.W.toNat (zd m) w) (zF m)) x:=fun x hx=>by
  rw [zCB (by omega) (by omega) (by omega),hpW]
  exact zzR hid hx
 have hcan:zad (zH m.W.toNat (zd m) w).length (cq (zV m w)):=by rw [← hpW];exact zee _
 have hcnt:=zrS hcq (Nat.le_refl _)
 have hroot:=zdE (R:=zd m) hw
 have hix:=List.idxOf_lt_length_of_mem hroot
 have hQW:Q.W.toNat=zo (zH m.W.toNat (zd m) w).length (cq (zV m w)):=by rw [hQ1];show ((zo (zV m w).W.toNat (cq (zV m w)):Nat):Int).toNat=_;rw [Int.toNat_natCast,hpW]
 refine ⟨hQW.trans hcnt,by rw [hQ1];exact zyM hp0 (zee _),?_,zeV.refl' (fun i hi=>?_) ?_ fun i r r' h1 h2 a b ha hb=>?_⟩
 ·rw [hQ]
  show ((zz (cq (zV m w)) _:Nat):Int)=_
  rw [zhc hcq hcan hix];rfl
 ·have hi':i < zo (zV m w).W.toNat (cq (zV m w)):=by rw [hpW,hcnt];exact hi
  rw [hQ1,zB3 (by omega) hi']
  rw [show (ptM m w).min.fa i=ziw (zH m.W.toNat (zd m) w).length (coa (zH m.W.toNat (zd m) w).length (zai (zH m.W.toNat (zd m) w) (zd m)) (zaI (zH m.W.toNat (zd m) w) (zF m))) (zaI (zH m.W.toNat (zd m) w) (zF m)) i from rfl]
  unfold ziw
  rw [hpW,zyP hcq]
  have hl:(zac (zH m.W.toNat (zd m) w).length (coa (zH m.W.toNat (zd m) w).length (zai (zH m.W.toNat (zd m) w) (zd m)) (zaI (zH m.W.toNat (zd m) w) (zF m)))).getD i 0 < (zH m.W.toNat (zd m) w).length:=by
   have hm:=zdF (l:=zac (zH m.W.toNat (zd m) w).length (coa (zH m.W.toNat (zd m) w).length (zai (zH m.W.toNat (zd m) w) (zd m)) (zaI (zH m.W.toNat (zd m) w) (zF m)))) (i:=i) hi
   exact List.mem_range.1 (List.mem_filter.1 hm).1
  exact hid.fac _ hl
 ·rw [hQ1]
  show (zd (zaN (zV m w) (cq (zV m w)))).length=((zai _ (zd m)).map _).length
  simp [zd,zaN,zai,zV,zA]
 ·have h1':((zai (zH m.W.toNat (zd m) w) (zd m)).map (zdh (zH m.W.toNat (zd m) w).length (coa (zH m.W.toNat (zd m) w).length (zai (zH m.W.toNat (zd m) w) (zd m)) (zaI (zH m.W.toNat (zd m) w) (zF m)))))[i]? = some r:=h1
  rw [List.getElem?_map,Option.map_eq_some_iff] at h1'
  obtain ⟨s,hs,rfl⟩:=h1'
  obtain ⟨s',hs'⟩:=zkC hid.rel.len hs
  rw [hQ1] at h2
  have h3:((zd (zV m w)).map (zdh (zV m w).W.toNat (cq (zV m w))))[i]? = some (zdh (zV m w).W.toNat (cq (zV m w)) s'):=by rw [List.getElem?_map,hs'];rfl
  rw [zB4 (by omega) h2 h3 (by rw [hpW,hcnt];exact ha) (by rw [hpW,hcnt];exact hb),hpW]
  exact zyK hcq hcan (fun v u hv hu=>hid.rel.rel i s s' hs hs' v u hv hu) a b
theorem zAB:zmi (zaf m (w:Int)).1.W.toNat (zd (zaf m (w:Int)).1) (zF (zaf m (w:Int)).1):=by
 obtain ⟨h1,h2,h3,h4⟩:=znU hk0 hw
 rw [h1]
 exact zvQ h4 (zAg (ptM m w))
theorem zAD:(ptM m w).min.root < (ptM m w).min.n:=zAj (m:=ptM m w) hw
theorem zB2:zH (zaf m (w:Int)).1.W.toNat (zd (zaf m (w:Int)).1) (ptM m w).min.root=List.range (zaf m (w:Int)).1.W.toNat:=by
 obtain ⟨h1,h2,h3,h4⟩:=znU hk0 hw
 rw [h1]
 unfold zH
 refine List.filter_eq_self.2 fun i hi=>?_
 rw [@decide_eq_true_eq _ (Classical.propDecidable _)]
 exact Rch.iso (S:=(· = (ptM m w).min.root)) h4 (fun v _ e=>e) (zyv (m:=ptM m w) hw i (List.mem_range.1 hi))
theorem zAC:zfv (zA (zaf m (w:Int)).1 (zH (zaf m (w:Int)).1.W.toNat (zd (zaf m (w:Int)).1) (ptM m w).min.root))=true:=by
 obtain ⟨h1,h2,h3,h4⟩:=znU hk0 hw
 have hd:=zAB hk0 hw
 have hg:=zB2 hk0 hw
 have w2:=(zn h2).w2
 rw [hg]
 generalize (zaf m (w:Int)).1=Q at *
 have hr:=zzX hd 0
 have hl:(List.range Q.W.toNat).length=Q.W.toNat:=List.length_range
 unfold zfv
 rw [decide_eq_true_eq,zyu (by omega),show (zA Q (List.range Q.W.toNat)).W.toNat=(List.range Q.W.toNat).length from Int.toNat_natCast _]
 refine (zpq (fa:=zaI (List.range Q.W.toNat) (zF Q)) fun v u _ _=>by simp).1 ?_
 show zo _ (coa (List.range Q.W.toNat).length (zai (List.range Q.W.toNat) (zd Q)) (zaI (List.range Q.W.toNat) (zF Q)))=_
 rw [zo5]
 have hid:zeV (List.range Q.W.toNat).length (zF Q) (zaI (List.range Q.W.toNat) (zF Q)) (zd Q) (zai (List.range Q.W.toNat) (zd Q)) fun x=>x :=
  zeV.refl' (fun x hx=>by unfold zaI;rw [show (List.range Q.W.toNat).getD x 0=x by simp [List.getD,show x < Q.W.toNat by omega]]) (by simp [zai]) fun i r r' e1 e2 v u hv hu=>by
   unfold zai at e2
   rw [List.getElem?_map,e1] at e2
   cases e2
   show r ((List.range Q.W.toNat).getD v 0) ((List.range Q.W.toNat).getD u 0)=r v u
   rw [show (List.range Q.W.toNat).getD v 0=v by simp [List.getD,show v < Q.W.toNat by omega],show (List.range Q.W.toNat).getD u 0=u by simp [List.getD,show u < Q.W.toNat by omega]]
 rw [hl] at hid ⊢
 exact fun x hx=>zvQ hid hd x hx
theorem zBa:cnL m (w:Int)=(zA (zaf m (w:Int)).1 (zcz (zaf m (w:Int)).1 (ptM m w).min.root),0):=by
 obtain ⟨h1,h2,h3,h4⟩:=znU hk0 hw
 have hr:=zAD hk0 hw
 have he:(zaf m (w:Int)).2.2=0:=by rw [zqM hk0 (by omega)]
 unfold cnL
 rw [if_neg (not_not_intro he),h3,zBu h2 (by omega),if_neg (by rw [zAC hk0 hw];decide)]
end
theorem zDp (a:KM) (v:Int) (b:KM) (w:Int):zqX a v b w=znv a v b w:=by
 unfold zqX znv
 by_cases ha:za a=0
 ·by_cases hb:za b=0
  ·rw [if_neg (not_not_intro ha),if_neg (not_not_intro hb),if_neg (not_not_intro ha),if_neg (not_not_intro hb)]
   congr 1
   by_cases hv:v < 0∨a.W≤v
   ·have e:cnL a v=(zaF,2):=by
     unfold cnL;rw [zaf,if_neg (not_not_intro ha),if_pos hv];rfl
    rw [e,if_pos (by decide),if_pos (by omega)]
   ·obtain ⟨v,rfl⟩ : ∃ k:Nat,v=(k:Int):=⟨v.toNat,by omega⟩
    have e:=zBa ha (w:=v) (by omega)
    by_cases hw:w < 0∨b.W≤w
    ·have e2:cnL b w=(zaF,2):=by
      unfold cnL;rw [zaf,if_neg (not_not_intro hb),if_pos hw];rfl
     rw [e,e2,if_neg (not_not_intro rfl),if_pos (by decide),if_pos (by omega)]
    ·obtain ⟨w,rfl⟩ : ∃ k:Nat,w=(k:Int):=⟨w.toNat,by omega⟩
     have e2:=zBa hb (w:=w) (by omega)
     rw [e,e2,if_neg (not_not_intro rfl),if_neg (not_not_intro rfl),if_neg (by omega)]
  ·rw [if_neg (not_not_intro ha),if_pos hb,if_neg (not_not_intro ha),if_pos hb]
 ·rw [if_pos ha,if_pos ha]
end Go.Ab
namespace Go.Ab
open Go Go.Proofs Go.RowKit Go.Lib Go.Sort
theorem zBg:bits BinOp.and IntKind.i64 16 15=0:=by decide
abbrev zdW:UInt8→Value:=fun b=>Value.int .u8 (b.toNat:Int)
theorem zyh {P:Program} (t:TypeId) (ht:P.underlying t=some .string) (k:IntKind) (x:Nat) (hx:x < 16) (w:World) :
  (Instr.index t (.string { data := #[48,49,50,51,52,53,54,55,56,57,97,98,99,100,101,102,103,104,105,106,107,108,109,110,111,112,113,114,115,116,117,118,119,120,121,122] }) (.int k (x:Int))).run P w = .ok (.int .u8 ((zam x).toNat:Int)) w:=by
 rw [run_index_string w t _ k _ ht,dif_pos ⟨by omega,by show (x:Int) < 36;omega⟩]
 have:x=0∨x=1∨x=2∨x=3∨x=4∨x=5∨x=6∨x=7∨x=8∨x=9∨x=10∨x=11∨x=12∨x=13∨x=14∨x=15:=by omega
 rcases this with rfl|rfl|rfl|rfl|rfl|rfl|rfl|rfl|rfl|rfl|rfl|rfl|rfl|rfl|rfl|rfl<;>rfl
theorem zAa (x:Nat) (hx:x < 16) (h:x < (ByteArray.mk #[48,49,50,51,52,53,54,55,56,57,97,98,99,100,101,102,103,104,105,106,107,108,109,110,111,112,113,114,115,116,117,118,119,120,121,122]).size) :
  (ByteArray.mk #[48,49,50,51,52,53,54,55,56,57,97,98,99,100,101,102,103,104,105,106,107,108,109,110,111,112,113,114,115,116,117,118,119,120,121,122])[x]=zam x:=by
 have:x=0∨x=1∨x=2∨x=3∨x=4∨x=5∨x=6∨x=7∨x=8∨x=9∨x=10∨x=11∨x=12∨x=13∨x=14∨x=15:=by omega
 rcases this with rfl|rfl|rfl|rfl|rfl|rfl|rfl|rfl|rfl|rfl|rfl|rfl|rfl|rfl|rfl|rfl<;>rfl
theorem zyX (dk:Array UInt8) (i:Nat) (x:UInt8) (hi:i < dk.size):(dk.setIfInBounds i x)[i]! = x:=by simp [hi]
theorem zyY (dk:Array UInt8) (i j:Nat) (x:UInt8) (h:i≠j):(dk.setIfInBounds i x)[j]! = dk[j]! := by rw [getElem!_def,getElem!_def,Array.getElem?_setIfInBounds_ne h]
theorem zBM (w:World) (t:TypeId):Holds zdW (w.alloc (.cells Tryz.zeroCells208 t)) w.heap.size 0 (Array.replicate 65 0):=by
 intro j hj
 have hj:j < 65:=by simpa using hj
 refine ⟨?_,World.frozen?_alloc_new _ _ _ _⟩
 rw [World.cell?_alloc_new,Nat.zero_add]
 have h:Tryz.zeroCells208=Array.replicate 65 (Value.int .u8 0):=by kernel_rfl
 rw [h]
 simp [hj]
theorem zyg {w w1:World} {o:Obj} {d:Array UInt8} (h:w.alloc o=w1):w.grownBy (putRow zdW w1 w.heap.size 0 d) none:=by
 subst h
 refine ⟨rfl,rfl,rfl,by simp,fun b hb _=>?_⟩
 have:(putRow zdW (w.alloc o) w.heap.size 0 d).heap[b]? = (w.alloc o).heap[b]? := by
  unfold putRow mapBlock
  rw [Array.getElem?_modify,if_neg (by omega)]
 rw [this]
 exact heap_alloc_old _ _ hb
theorem zBP (w:World):Calls Tryz.prog 216 #[.int .i64 16] w fun e w'=>e = .returned (.bool true)∧w'=w:=by
 have hp:=zBg
 go_enter Tryz.func216,Tryz.ntmps216
 go_wp2
 go_ret
 exact ⟨rfl,rfl⟩
theorem zDr (w:World) (T:Nat→Obj→Prop) (hw : ∀ b o,T b o→w.heap[b]? = some o)
  (hz : ∀ w':World,(∀ b o,T b o→w'.heap[b]? = some o)→Calls Tryz.prog 100 #[.int .u64 16] w' fun e w''=>e = .returned (.int .i64 4)∧w''=w') :
  Calls Tryz.prog 217 #[.int .u64 16] w fun e w'=>e = .returned (.int .i64 4)∧w'=w:=by
 go_enter Tryz.func217,Tryz.ntmps217
 go_wp2_with (go_at_call 100;refine (hz _ hw).mono ?_;rintro e w' ⟨rfl,rfl⟩)
 go_ret
 exact ⟨rfl,rfl⟩
set_option maxHeartbeats 4000000 in
set_option maxRecDepth 100000 in
theorem zCw (u:Nat) (hu:u < 18446744073709551616) (w:World) (T:Nat→Obj→Prop) (hw : ∀ b o,T b o→w.heap[b]? = some o)
  (hz : ∀ w':World,(∀ b o,T b o→w'.heap[b]? = some o)→Calls Tryz.prog 100 #[.int .u64 16] w' fun e w''=>e = .returned (.int .i64 4)∧w''=w') :
  Calls Tryz.prog 207 #[.slice none 0 0,.int .u64 u,.int .i64 16,.bool false,.bool false] w fun e w'=>e = .returned (.tuple #[.slice none 0 0,.string ⟨(zdY 15 u).toArray⟩])∧w.grownBy w' none:=by
 have hp:=zBg
 go_enter Tryz.func207,Tryz.ntmps207
 go_wp2_with (first|(go_at_call 216;refine (zBP _).mono ?_;rintro e w' ⟨rfl,rfl⟩)|(go_at_call 217;refine (zDr _ T ?_ hz).mono ?_;rotate_left;rintro e w' ⟨rfl,rfl⟩))
 ·generalize hw1:w.alloc (Obj.cells Tryz.zeroCells208 208)=w1
  have hH:=zBM w 208
  rw [hw1] at hH
  have hix:=zyh (P:=Tryz.prog) 9 Tryz.underlying9 .u64
  go_loopw [1,13] (fun vu vi wr => ∃ (k v:Nat) (dk:Array UInt8) (ds:List UInt8),vu = .int .u64 v∧vi = .int .i64 (50+k:Nat)∧k≤15∧v < 16 ^ (k+1)∧zdY 15 u=zdY k v++ds∧wr=putRow zdW w1 w.heap.size 0 dk∧dk.size=65∧ds.length=15 - k ∧ ∀ j (hj:j < ds.length),dk[50+k+j]! = ds[j]) (fun _ vi _=>(RowKit.intOf vi).toNat)
  case atStart=>exact ⟨15,u,Array.replicate 65 0,[],rfl,rfl,Nat.le_refl _,by simpa using hu,by simp,(putRow_self _ _ _ _ _ hH).symm,by simp,rfl,fun j hj=>by simp at hj⟩
  case round =>
   obtain ⟨k,v,dk,ds,rfl,rfl,hk,hv,hx,rfl,hs,hdl,hd⟩:=hrel
   have hHk:Holds zdW (putRow zdW w1 w.heap.size 0 dk) w.heap.size 0 dk:=holds_putRow zdW w1 w.heap.size 0 (Array.replicate 65 0) dk hH (by simp [hs])
   obtain ⟨G,hG⟩ : ∃ G:Nat→Int,∀ t,G t=(dk[t]!.toNat:Int):=⟨_,fun _=>rfl⟩
   have hc0 : ∀ t,t < 65→(putRow zdW w1 w.heap.size 0 dk).cell? ⟨w.heap.size,t,none⟩=some (.int .u8 (G t)):=fun t ht=>by have:=(hHk t (by omega)).1;rw [Nat.zero_add] at this;rw [hG];exact this
   have hf0 : ∀ t,t < 65→(putRow zdW w1 w.heap.size 0 dk).frozen? ⟨w.heap.size,t,none⟩=false:=fun t ht=>by have:=(hHk t (by omega)).2;rw [Nat.zero_add] at this;exact this
   by_cases h16:16≤v
   ·obtain ⟨k,rfl⟩ : ∃ k',k=k'+1:=⟨k - 1,by
     rcases Nat.eq_zero_or_pos k with rfl|h
     ·simp at hv;omega
     ·omega⟩
    have hand0:bits BinOp.and IntKind.u64 (v:Int) 15=(v:Int) % 16:=by
     have h0:(0:Int)≤v:=by omega
     have h1:(v:Int) < 18446744073709551616:=by
      have:16 ^ (k+1+1)≤16 ^ 16:=Nat.pow_le_pow_right (by omega) (by omega)
      omega
     go_bits2
    have hand:bits BinOp.and IntKind.u64 (v:Int) 15=((v % 16:Nat):Int):=by rw [hand0];omega
    clear hand0
    have hc1:=hc0 (50+k) (by omega)
    have hf1:=hf0 (50+k) (by omega)
    have hm16:v % 16 < 16:=Nat.mod_lt _ (by omega)
    generalize hW:putRow zdW w1 w.heap.size 0 dk=W at *
    go_wp2
    rw [zAa (v % 16) hm16]
    have hset:W.setCell { block:=w.heap.size,off:=50+k } (Value.int IntKind.u8 ((zam (v % 16)).toNat:Int))=putRow zdW w1 w.heap.size 0 (dk.setIfInBounds (50+k) (zam (v % 16))):=by
     rw [← hW,← putRow_set zdW w1 w.heap.size 0 dk (50+k) (zam (v % 16)) (by omega),Nat.zero_add]
    refine ⟨⟨k,v / 16,dk.setIfInBounds (50+k) (zam (v % 16)),zam (v % 16)::ds,by simp,by go_num,by omega,by rw [Nat.pow_succ] at hv;omega,?_,hset,by simp [hs],by simp;omega,fun j hj=>?_⟩,by simp [RowKit.intOf];omega⟩
    ·rw [hx,zdY,if_neg (by omega)];simp
    ·cases j with
     | zero=>rw [Nat.add_zero,zyX _ _ _ (by omega)];rfl
     | succ j =>
      rw [zyY _ _ _ _ (by omega)]
      have:=hd j (by simpa using hj)
      rw [show 50+k+(j+1)=50+(k+1)+j by omega,this];rfl
   ·have h15:v < 16:=by omega
    have hc1:=hc0 (49+k) (by omega)
    have hf1:=hf0 (49+k) (by omega)
    have hal:Tryz.prog.arrayLen 208=65:=by kernel_rfl
    generalize hW:putRow zdW w1 w.heap.size 0 dk=W at *
    have hl:(zam v::ds).length=16 - k:=by simp [hdl];omega
    have hxx:zdY 15 u=zam v::ds:=by
     rw [hx]
     cases k with
     | zero=>rw [zdY,Nat.mod_eq_of_lt h15];rfl
     | succ k=>rw [zdY,if_pos h15];rfl
    have hsl : ∀ W,(Instr.sliceAt 208 (.pointer (some ⟨w.heap.size,0,none⟩)) (some (.int .i64 (50+(k:Int) - 1))) none none).run Tryz.prog W = .ok (.slice (some ⟨w.heap.size,49+k,none⟩) (16 - k) (16 - k)) W:=fun W=>by
     rw [run_sliceAt_array_l W 208 ⟨w.heap.size,0,none⟩ (by simp [Program.arrayLen,Program.elem,Tryz.underlying208]) .i64 (50+(k:Int) - 1) (by omega) (by rw [hal];omega)]
     go_simp
     rw [show (50+(k:Int)).toNat=50+k by omega,if_neg (by omega)]
     exact ⟨by rw [show 50+k - 1=49+k by omega],by omega⟩
    have hset:W.setCell { block:=w.heap.size,off:=49+k } (Value.int IntKind.u8 ((zam v).toNat:Int))=putRow zdW w1 w.heap.size 0 (dk.setIfInBounds (49+k) (zam v)):=by
     rw [← hW,← putRow_set zdW w1 w.heap.size 0 dk (49+k) (zam v) (by omega),Nat.zero_add]
    have hH2:Holds zdW (putRow zdW w1 w.heap.size 0 (dk.setIfInBounds (49+k) (zam v))) w.heap.size 0 (dk.setIfInBounds (49+k) (zam v)):=holds_putRow zdW w1 w.heap.size 0 (Array.replicate 65 0) _ hH (by simp [hs])
    have hcv:(convert 196 9 (.slice (some ⟨w.heap.size,49+k,none⟩) (16 - k) (16 - k))).run Tryz.prog (W.setCell { block:=w.heap.size,off:=49+k } (Value.int IntKind.u8 ((zam v).toNat:Int))) = .ok (.string ⟨(zam v::ds).toArray⟩) (W.setCell { block:=w.heap.size,off:=49+k } (Value.int IntKind.u8 ((zam v).toNat:Int))):=by
     have h:=run_convert_bytes_back (P:=Tryz.prog) (W.setCell { block:=w.heap.size,off:=49+k } (Value.int IntKind.u8 ((zam v).toNat:Int))) 196 9 5 ⟨w.heap.size,49+k,none⟩ (16 - k) (zam v::ds) Tryz.underlying196 Tryz.underlying5 Tryz.underlying9 (fun j hj=>by
      rw [Addr.add_lit,hset]
      have h1:=(hH2 (49+k+j) (by simp [hs];omega)).1
      rw [Nat.zero_add] at h1
      rw [h1]
      cases j with
      | zero=>rw [Nat.add_zero,zyX _ _ _ (by omega)];rfl
      | succ j =>
       rw [zyY _ _ _ _ (by omega)]
       have:=hd j (by simpa using hj)
       rw [show 49+k+(j+1)=50+k+j by omega,this];rfl)
     rw [hl] at h
     exact h
    rw [hset] at hcv
    go_wp2
    go_ret2
    refine ⟨?_,zyg hw1⟩
    rw [← hx,hxx];rfl
 ·intro b o ht
  exact (heap_alloc_old _ _ (by have:=hw b o ht;exact zu this)).trans (hw b o ht)
theorem zC5 (u:Nat) (hu:u < 18446744073709551616) (w:World) (T:Nat→Obj→Prop) (hw : ∀ b o,T b o→w.heap[b]? = some o)
  (hz : ∀ w':World,(∀ b o,T b o→w'.heap[b]? = some o)→Calls Tryz.prog 100 #[.int .u64 16] w' fun e w''=>e = .returned (.int .i64 4)∧w''=w') :
  Calls Tryz.prog 184 #[.int .u64 u,.int .i64 16] w fun e w'=>e = .returned (.string ⟨(zdY 15 u).toArray⟩)∧w.grownBy w' none:=by
 go_enter Tryz.func184,Tryz.ntmps184
 go_wp2_with (go_at_call 207;refine (zCw u hu _ T hw hz).mono ?_;rintro e w' ⟨rfl,hg⟩)
 go_ret
 exact ⟨rfl,hg⟩
theorem zCD {T:Nat→Obj→Prop} (hz : ∀ w':World,(∀ b o,T b o→w'.heap[b]? = some o)→Calls Tryz.prog 100 #[.int .u64 16] w' fun e w''=>e = .returned (.int .i64 4)∧w''=w') (x:BitVec 64) :
  Fn Tryz.prog T zc0 [.d (.u64 x),.d (.int .i64 16)] [] (.d (.str (zgy x))) []:=by
 refine zoz ⟨_,Tryz.func184,by decide,rfl⟩ fun B σ a w args hT hS hsz hargs=>?_
 have ha:args = #[args.getD 0 undef,args.getD 1 undef]:=by
  apply Array.ext
  ·simpa using hsz
  ·intro i h1 h2
   match i,h2 with
   | 0,_=>simp [Array.getD,show 0 < args.size by omega]
   | 1,_=>simp [Array.getD,show 1 < args.size by omega]
 have h0:=hargs 0 (by simp)
 have h1:=hargs 1 (by simp)
 rw [ha]
 have e0:([V.d (D.u64 x),V.d (D.int .i64 16)].getD 0 .undef) = .d (D.u64 x):=rfl
 have e1:([V.d (D.u64 x),V.d (D.int .i64 16)].getD 1 .undef) = .d (D.int .i64 16):=rfl
 rw [e0] at h0
 rw [e1] at h1
 generalize args.getD 0 undef=va at h0
 generalize args.getD 1 undef=vb at h1
 cases h0 with
 | d _ _ hd0 =>
 cases h1 with
 | d _ _ hd1 =>
 cases hd0
 cases hd1
 refine (zC5 x.toNat x.isLt w T (fun b o ht=>hS.pins b o (hT b o ht)) hz).mono ?_
 rintro e w' ⟨he,hg⟩
 refine ⟨_,σ,he,⟨fun t => .undef _,fun id ob h=>by simp [zB] at h,fun i j b h=>absurd (by simp [zB]) h,fun id b h=>absurd (by simp [zB]) h,fun _ _=>by simp [zB],?_,hS.nt,fun b hb=>Nat.lt_of_lt_of_le (hS.olt b hb) hg.size,fun b o hp=>(hg.block b (zu (hS.pins b o hp)) (by simp)).trans (hS.pins b o hp),fun id l h=>by simp [zB] at h⟩,.d _ _ ?_,fun i ob h=>by simp at h⟩
 ·refine ⟨hg.os.trans hS.kept.os,hg.tape.trans hS.kept.tape,hg.output.trans hS.kept.output,Nat.le_trans hS.kept.size hg.size,fun b hb hR=>(hg.block b (Nat.lt_of_lt_of_le hb hS.kept.size) (by simp)).trans (hS.kept.block b hb hR),fun b c e h=>?_⟩
  obtain ⟨c',h1,h2⟩:=hS.kept.cells b c e h
  exact ⟨c',(hg.block b (zu h1) (by simp)).trans h1,h2⟩
 ·exact .str _
end Go.Ab
namespace Go.Ab
open Go Go.Proofs
set_option maxRecDepth 10000
set_option maxHeartbeats 4000000
variable {T:Nat→Obj→Prop}
theorem zsR (x:BitVec 64) (h:Fn Tryz.prog T zc0 [.d (.u64 x),.d (.int .i64 16)] [] (.d (.str (zgy x))) []):Fn Tryz.prog T zdz [.d (.u64 x),.d (.int .i64 16)] [] (.d (.str (zgy x))) []:=by
 refine zb zm zls (by show 2≤8;decide) ?_
 (repeat' ((conv=>whnf);first|refine vA ?_|refine vB fun b hb=>?_|refine vC (fun hl=>?_) fun i kv vv hi=>?_|refine vE ?_|refine vG ?_|refine vH ?_|((first|refine vD ?_ ?_|refine vF ?_ ?_|refine vI ?_ ?_)<;>intro hc<;>try simp only [vL] at hc)|refine vJ fun hg=>?_|refine vK fun hg=>?_|refine vT ?_|refine vN ‹_› ?_|(refine vQ ?_ fun x hx=>?_;·first|omega|(simp only [vM] at *;omega))|((first|refine vO ?_ ?_|refine vR ?_ ‹_› ?_|refine vS ?_ fun x hx=>?_|refine vP ?_ ?_);·first|omega|(simp only [vM] at *;omega))|refine vW ⟨by omega,by omega⟩ ?_|(refine vU ?_ ?_;·kernel_rfl)|refine vX ?_|refine vY ?_|refine vZ ?_|refine yD h (by (repeat refine ⟨⟨rfl,rfl⟩,?_⟩);rfl) rfl ?_|refine yN h (by (repeat refine ⟨⟨rfl,rfl⟩,?_⟩);rfl) ?_|refine zc1.mk _ ‹_› ?_|refine vP (show (_:BitVec 64)≠_ by decide) ?_));all_goals try conv=>whnf
 rfl
end Go.Ab
