/- A part of the proofs of this seat: functions and their contracts. -/
import Derived.Test.YtkmhdnlmghaooaaGreatDoorMD
import Derived.Shelf.Strconv.Itoa0
import Derived.Laws.IdiomStrings
import Derived.WalkKit
import Derived.CellFam
import Derived.Sort.Row
set_option linter.unusedVariables false
set_option linter.unusedSimpArgs false
set_option linter.unusedSectionVars false
namespace Go.Ab
open Go Go.Proofs
set_option maxRecDepth 10000
set_option maxHeartbeats 4000000
variable {T:Nat→Obj→Prop}
theorem zu3 (m:KM) (R:List (List (BitVec 64))):Fn Tryz.prog T zix [.d (dKM m),.d (dUU R)] [] (.fn zdf [.ptr 0 0,.ptr 1 0]) [some (zcJ m),some (.box [.d (dUU R)])]:=by
 refine z6 zu zpU (by show 2≤6;decide) _ (fun e env mem n h=>h) ?_
 (repeat' ((conv=>whnf);refine vT ?_));all_goals try conv=>whnf
 exact ⟨trivial,_,[(0,0),(1,1)],[],rfl,.inl (by (repeat' first|exact rfl|refine And.intro ?_ ?_|refine ⟨_,rfl,?_⟩)),⟨rfl,rfl,rfl,trivial,by (repeat' first|exact trivial|exact rfl|refine And.intro ?_ ?_|refine ⟨_,rfl,?_⟩|exact of_decide_eq_true rfl)⟩,trivial⟩
def zfP (m:KM) (j:Nat):Prop:=ptL m.W.toNat (zai m (j+1))=ptL m.W.toNat (zai m j)
instance (m:KM) (j:Nat):Decidable (zfP m j):=inferInstanceAs (Decidable (_=_))
def zrA (m:KM):Nat:=z2 (fun v _=>decide (zfP m v)) 65
theorem zzd {m:KM} {j:Nat} (hj:j < 65) (h:zfP m j) (hn : ∀ i,i < j → ¬zfP m i):zrA m=j:=by
 have h1:=ziX (fun v _=>decide (zfP m v)) 65
 rcases Nat.lt_trichotomy (zrA m) j with hl|hl|hl
 ·exfalso
  rcases h1.1 with ⟨h2,h3⟩|h2
  ·exact hn _ hl (of_decide_eq_true h3)
  ·unfold zrA at hl;omega
 ·exact hl
 ·have:=h1.2 j hl
  simp [h] at this
def zBy (m:KM):Nat→V
 | 0 => .nils 1
 | k+1 => .d (dI (ptL m.W.toNat (zai m k)))
theorem zAi {m:KM} {N i:Nat} {x:List D} (h:(zd5 m N 0)[i]? = some x):x=[dI (ptL m.W.toNat (zai m i))]∧i≤N:=by
 unfold zd5 at h
 rw [List.drop_zero,List.getElem?_map,Option.map_eq_some_iff] at h
 obtain ⟨j,hj,rfl⟩:=h
 have hi:=(List.getElem?_eq_some_iff.1 hj).1
 rw [List.length_range] at hi
 rw [List.getElem?_range hi] at hj
 cases hj
 exact ⟨rfl,by omega⟩
theorem zyW (m:KM) (N:Nat):(zd5 m N 0).length=N+1:=by simp [zd5]
theorem zu4 (hT:ze5 T) (hX:zgD T) {m:KM} (hk0:zg m=0):Fn Tryz.prog T ziy [.d (dKM m),.d (dUU m.rel)] [] (.d (.tup [dI (ptL m.W.toNat (cq m)),.int .i64 (zrA m:Int)])) []:=by
 have hg0:=zz hk0
 have w1:=hg0.w1
 have w2:=hg0.w2
 refine zf zu zpV (by show 2≤21;decide) ?_
 (repeat' ((conv=>whnf);first|refine vA ?_|refine vT ?_));all_goals try conv=>whnf
 refine zS.res (zu3 m m.rel) (by (repeat refine ⟨⟨rfl,rfl⟩,?_⟩);rfl) ?_
 (repeat' ((conv=>whnf);refine vT ?_));all_goals try conv=>whnf
 refine zvt (zwB hT hX hk0 (m.W.toNat+1)) [3,4] [] (by first|((repeat refine ⟨⟨rfl,rfl⟩,?_⟩);rfl)|(repeat' first|exact rfl|refine And.intro ?_ ?_|refine ⟨_,rfl,?_⟩)) (by (repeat' first|exact rfl|refine And.intro ?_ ?_|refine ⟨_,rfl,?_⟩)) (by rfl) (by rfl) [(6,.ptr 0 0),(7,.ptr 1 0)] (fun ((a,c):Nat×Int)=>[(0,some (.box [zBy m a])),(1,some (.box [.d (.int .i64 c)]))]) 2 (fun i ((a,c):Nat×Int)=>a=i∧c=(i:Int) - 1 ∧ ∀ j,j+1 < i → ¬zfP m j) ((0,-1)) [(0,1),(1,2)] [] (⟨rfl,rfl,fun j hj=>by omega⟩) (by (refine ⟨rfl,rfl,rfl,?_,?_⟩;repeat' first|exact trivial|exact rfl|refine And.intro ?_ ?_|refine ⟨_,rfl,?_⟩|decide)) ?_ ?_
 ·rintro i x ⟨a,c⟩ hx ⟨rfl,hcc,hJ⟩
  obtain ⟨rfl,hi⟩:=zAi hx
  refine ⟨rfl,?_⟩
  cases a with
  | zero =>
   have ce:=zkZ (T:=T) (ptL m.W.toNat (zai m 0)) []
   rw [show (ptL m.W.toNat (zai m 0)==[])=false by
    rw [beq_eq_false_iff_ne];intro e;have:=congrArg List.length e;rw [zdu] at this;simp at this;omega] at ce
   (repeat' ((conv=>whnf);first|refine vA ?_|refine vH ?_|refine vT ?_|(refine vO ?_ ?_;·omega)|refine yD ce ⟨⟨rfl,rfl⟩,⟨rfl,rfl⟩,rfl⟩ rfl ?_));all_goals try conv=>whnf
   ·exact ⟨(0+1,c+1),[(0,0),(1,1)],[],⟨rfl,by omega,fun j hj=>by omega⟩,by (refine ⟨rfl,rfl,rfl,?_,?_⟩;repeat' first|exact trivial|exact rfl|refine And.intro ?_ ?_|refine ⟨_,rfl,?_⟩|decide)⟩
   all_goals omega
  | succ k =>
   (repeat' ((conv=>whnf);first|refine vA ?_|(refine vI ?_ ?_<;>intro hc)|refine vT ?_|(refine vO ?_ ?_;·omega)|(refine vU ?_ ?_;·kernel_rfl)|refine yD (zkZ _ _) ⟨⟨rfl,rfl⟩,⟨rfl,rfl⟩,rfl⟩ rfl ?_));all_goals try conv=>whnf
   ·show some (D.tup [dI (ptL m.W.toNat (zai m k)),.int .i64 c])=_
    have hs:zfP m k:=by simpa [zfP] using hc
    have hk:=zzd (m:=m) (j:=k) (by omega) hs (fun i hi=>hJ i (by omega))
    rw [ztZ (m:=m) (k:=k) (by omega) hs,hk,show c=(k:Int) by omega]
   ·have hs : ¬zfP m k:=by simpa [zfP] using hc
    exact ⟨(k+1+1,c+1),[(0,0),(1,1)],[],⟨rfl,by omega,fun j hj=>by
     by_cases e:j=k
     ·subst e;exact hs
     ·exact hJ j (by omega)⟩,by (refine ⟨rfl,rfl,rfl,?_,?_⟩;repeat' first|exact trivial|exact rfl|refine And.intro ?_ ?_|refine ⟨_,rfl,?_⟩|decide)⟩
   all_goals omega
 ·rintro ⟨a,c⟩ ⟨rfl,hcc,hJ⟩
  rw [zyW] at hJ
  have:=zzP (m:=m) (k:=m.W.toNat+1) fun j hj=>hJ j (by omega)
  omega
def ze8 (m:KM):List Int×Int:=if zg m≠0 then ([],zg m) else (ptL m.W.toNat (cq m),0)
abbrev dLI (x:List Int×Int):D := .tup [dI x.1,.int .i64 x.2]
theorem zk1 (hT:ze5 T) (hX:zgD T) (m:KM):Fn Tryz.prog T zde [.d (dKM m)] [] (.d (dLI (ze8 m))) []:=by
 refine zf zu zny (by show 1≤20;decide) ?_
 by_cases hk0:zg m=0
 ·have cs:=zu4 (T:=T) hT hX hk0
  (repeat' ((conv=>whnf);first|refine vA ?_|(refine vD ?_ ?_<;>intro hc)|refine vT ?_|refine yD (za1 m) ⟨⟨rfl,rfl⟩,rfl⟩ rfl ?_|refine yN cs ⟨⟨rfl,rfl⟩,⟨rfl,rfl⟩,rfl⟩ ?_));all_goals try conv=>whnf
  ·exact absurd hk0 (by omega)
  ·rw [ze8,if_neg (by omega)];rfl
 ·(repeat' ((conv=>whnf);first|refine vA ?_|(refine vD ?_ ?_<;>intro hc)|refine vT ?_|refine yD (za1 m) ⟨⟨rfl,rfl⟩,rfl⟩ rfl ?_));all_goals try conv=>whnf
  ·rw [ze8,if_pos hk0];rfl
  ·exact absurd ‹zg m=0› hk0
end Go.Ab
namespace Go.Ab
open Go Go.Proofs
set_option maxRecDepth 10000
set_option maxHeartbeats 4000000
variable {T:Nat→Obj→Prop}
theorem zwc (l:List Int) (h:l≠[]) (hl:l.length≤1000):Fn Tryz.prog T zb0 [.d (dI l)] [] (.own 0) [some (.row 1 (l.map (D.int .i64)))]:=by
 refine z6 zu zhl (by show 1≤8;decide) _ (fun e env mem n h=>h) ?_
 (repeat' ((conv=>whnf);first|refine vA ?_|refine vB fun b hb=>?_|refine vE ?_|(refine vF ?_ ?_<;>intro hc)|refine vT ?_|(refine vP ?_ ?_;·(simp only [vM] at *;omega))|fail));all_goals try conv=>whnf
 ·refine ⟨trivial,_,[(0,1)],[],rfl,.inl (by (repeat' exact rfl)),⟨by rfl,by rfl,by rfl,trivial,by (repeat' first|exact trivial|exact rfl|refine And.intro ?_ ?_|refine ⟨_,rfl,?_⟩|exact of_decide_eq_true rfl)⟩,by (repeat' exact trivial)⟩
 ·exact absurd (List.map_eq_nil_iff.1 (hb (by simpa using hc))) h
theorem zzc {n:Nat} {q:Nat→Nat} (hq:zaH n q):zj8 (ptL n q)=(zaT n q).map fun (x:Nat)=>(x:Int):=by
 have hs:((zaT n q).map fun (x:Nat)=>(x:Int)).Pairwise (· < ·):=by
  rw [List.pairwise_map]
  refine List.Pairwise.imp (R:=(· < ·)) (fun h=>by omega) (List.Pairwise.filter _ List.pairwise_lt_range)
 have hn:(zj8 (ptL n q)).Nodup:=(zd8 _).nodup_iff.2 (zli _)
 refine zdt (zeh _) (hs.imp fun h=>Int.le_of_lt h) (zo5 hn (hs.imp fun h e=>by subst e;omega) fun x=>?_)
 rw [zjU]
 unfold ptL zaT
 simp only [List.mem_map,List.mem_filter,List.mem_range,decide_eq_true_eq]
 constructor
 ·rintro ⟨w,hw,rfl⟩
  have:=hq.le w hw
  exact ⟨q w,⟨by omega,hq.idem w hw⟩,rfl⟩
 ·rintro ⟨w,⟨hw,e⟩,rfl⟩
  exact ⟨w,hw,by rw [e]⟩
theorem zwj {n:Nat} {q:Nat→Nat} (hq:zaH n q) (h0:0 < n) (h12:n≤12):Fn Tryz.prog T zgA [.d (dI (ptL n q))] [] (.d (dN (zaT n q))) []:=by
 have hl:(ptL n q).length=n:=zdu
 have c0:=zwc (T:=T) (ptL n q) (fun e=>by rw [e] at hl;simp at hl;omega) (by omega)
 have c1:=ztr (T:=T) (ptL n q).toArray (by simp;omega)
 rw [show zb5 (Sort.sort ltI (ptL n q).toArray) = .row 1 ((zcd (ptL n q)).map (D.int .i64)) by rw [zb5,zvA]] at c1
 have hsl:(zcd (ptL n q)).length=n:=by rw [(zd8 _).length_eq,hl]
 have c2:=zya (T:=T) (zcd (ptL n q)).toArray (by simp;omega)
 rw [zAP,zzc hq] at c2
 refine zf zu zmu (by show 1≤10;decide) ?_
 (repeat' ((conv=>whnf);refine vT ?_));all_goals try conv=>whnf
 refine zS.res (c0) (by (repeat refine ⟨⟨rfl,rfl⟩,?_⟩);rfl) ?_
 (repeat' ((conv=>whnf);refine vT ?_));all_goals try conv=>whnf
 refine zS.objs [0] (c1) (by (repeat' first|exact rfl|refine And.intro ?_ ?_|refine ⟨_,rfl,?_⟩)) (by (repeat' first|exact rfl|refine And.intro ?_ ?_)) (by rfl) (by rfl) (by simp) ?_
 (repeat' ((conv=>whnf);refine vT ?_));all_goals try conv=>whnf
 refine zS.objs [0] (c2) (by (repeat' first|exact rfl|refine And.intro ?_ ?_|refine ⟨_,rfl,?_⟩)) (by (repeat' first|exact rfl|refine And.intro ?_ ?_)) (by rfl) (by rfl) (by simp) ?_
 (repeat' ((conv=>whnf);refine vT ?_));all_goals try conv=>whnf
 rfl
theorem zoC (s:BitVec 64) {n:Nat} {k:Nat→Nat} (hk : ∀ w,w < n→k w < 64):Fn Tryz.prog T zgB [.d (.u64 s),.d (dI (ptL n k))] [] (.d (.u64 (zaE k s n))) []:=by
 have hl:(ptL n k).length=n:=zdu
 refine zf zu zmv (by show 2≤26;decide) ?_
 (repeat' ((conv=>whnf);first|refine vA ?_|refine vJ fun hg=>?_|refine vT ?_));all_goals try conv=>whnf
 refine zaw (fun ((j,o):Nat×BitVec 64)=>[(0,.d (.u64 (s))),(5,.d (.u64 (o))),(8,.d (dI (ptL n k))),(9,.d (.int .i64 (((ptL n k).map (D.int .i64)).length:Int))),(10,.d (.int .i64 ((j:Int))))]) (fun ((j,o):Nat×BitVec 64)=>j≤n∧o=zaE k s j) (fun ((j,o):Nat×BitVec 64)=>n - j) ((0,0#64)) (⟨by simp,rfl⟩) (by (repeat' first|exact trivial|exact rfl|refine And.intro ?_ ?_)) ?_
 rintro ⟨j,o⟩ ⟨hj,ho⟩
 by_cases hjl:j < n
 ·have e1:=zbO (q:=k) hjl
  (repeat' ((conv=>whnf);first|refine vA ?_|(refine vF ?_ ?_<;>intro hc<;>try simp only [vL] at hc)|refine vT ?_|refine vN ‹_› ?_|((first|refine vO ?_ ?_|refine vP ?_ ?_);·omega)|refine vY ?_));all_goals try conv=>whnf
  ·refine ⟨(j+1,_),[],[],?_,?_,by (refine ⟨rfl,rfl,rfl,?_,?_⟩;repeat' first|exact trivial|exact rfl|refine And.intro ?_ ?_)⟩
   ·exact ⟨by (omega),by rw [zf3,if_pos ((zea s j).1 ‹_›),ho];rfl⟩
   ·((simp only [vM] at *;omega))
  ·refine ⟨(j+1,o),[],[],?_,?_,by (refine ⟨rfl,rfl,rfl,?_,?_⟩;repeat' first|exact trivial|exact rfl|refine And.intro ?_ ?_)⟩
   ·refine ⟨by (omega),?_⟩
    rw [zf3,if_neg,ho]
    intro h
    exact absurd ((zea s j).2 h) ‹_›
   ·((simp only [vM] at *;omega))
  all_goals omega
 ·(repeat' ((conv=>whnf);first|refine vA ?_|(refine vF ?_ ?_<;>intro hc<;>try simp only [vL] at hc)|refine vT ?_|(refine vQ ?_ fun x hx=>?_;·omega)|((first|refine vO ?_ ?_|refine vP ?_ ?_);·omega)|refine vY ?_));all_goals try conv=>whnf
  all_goals try omega
  rw [ho,show j=n by omega]
theorem zz1 {n:Nat} {q:Nat→Nat} (hq:zaH n q) {w:Nat} (hw:w < n):zeE (fun y=>((q w:Nat):Int)==y) ((zaT n q).map fun (x:Nat)=>(x:Int))=((zI q w:Nat):Int):=by
 have h1:=zfK hq hw
 refine zgc (by rw [List.getElem?_map,h1];rfl) (by simp) fun i y hi hy=>?_
 rw [List.getElem?_map,Option.map_eq_some_iff] at hy
 obtain ⟨u,hu,rfl⟩:=hy
 have hnd:(zaT n q).Nodup:=List.Nodup.sublist List.filter_sublist List.nodup_range
 rw [beq_eq_false_iff_ne]
 intro e
 have e:q w=u:=by omega
 subst e
 obtain ⟨a1,a2⟩:=List.getElem?_eq_some_iff.1 h1
 obtain ⟨b1,b2⟩:=List.getElem?_eq_some_iff.1 hu
 have:=(List.getElem_inj hnd).1 (a2.trans b2.symm)
 omega
abbrev byQ (p:List Int):Nat→Nat:=fun w=>(at0 p w).toNat
def byF (m:KM) (q:Nat→Nat) (w:Nat):Bool:=decide (zV m w=zV m (q w))
def byL (m:KM) (p:List Int):KM×List Int×Int :=
 if zg m≠0 then (zfu,[],zg m) else if zbI p≠0 then (zfu,[],zbI p) else if (p.length:Int)≠m.W then (zfu,[],3) else
  if (List.range m.W.toNat).all (byF m (byQ p))=true then (zap m (byQ p),ptL m.W.toNat (zI (byQ p)),0) else (zfu,[],1)
abbrev zuU (x:KM×List Int×Int):D := .tup [dKM x.1,dI x.2.1,.int .i64 x.2.2]
theorem zzy {n k:Nat} {f:Nat→Bool} (hk:k < n) (h:f k=false) : ¬(List.range n).all f=true:=fun e=>by
 rw [List.all_eq_true] at e
 rw [e k (List.mem_range.2 hk)] at h;cases h
theorem zrL {n:Nat} {f:Nat→Bool} (h : ∀ i,i < n→f i=true):(List.range n).all f=true:=List.all_eq_true.2 fun i hi=>h i (List.mem_range.1 hi)
theorem zvL {q:Nat→Nat} {n:Nat} {r:List (BitVec 64)} {k i:Nat} : zdN q n r (k+1) i=if zI q k=i then zdN q n r k i|||zaE (zI q) (r.getD k 0#64) n else zdN q n r k i:=rfl
def byR (m:KM) (q:Nat→Nat):KM×List Int×Int:=if (List.range m.W.toNat).all (byF m q)=true then (zap m q,ptL m.W.toNat (zI q),0) else (zfu,[],1)
theorem zwb {m:KM} (hk0:zg m=0) (h12:m.W≤12) {q:Nat→Nat} (hq:zaH m.W.toNat q):Fn Tryz.prog T zdp [.d (dKM m),.d (dI (ptL m.W.toNat q))] [] (.d (zuU (byR m q))) []:=by
 have hg0:=zz hk0
 have w1:=hg0.w1
 have n4:=hg0.n4
 have v8:=hg0.v8
 have hp0:zbI (ptL m.W.toNat q)=0:=zmA hq (by omega)
 refine zf zu zki (by show 2≤134;decide) ?_
 have hlen:((ptL m.W.toNat q).length:Int)=m.W:=by rw [zdu];omega
 have e0:byR m q=if (List.range m.W.toNat).all (byF m q)=true then (zap m q,ptL m.W.toNat (zI q),0) else (zfu,[],1):=rfl
 obtain ⟨n,hn⟩ : ∃ n,n=m.W.toNat:=⟨_,rfl⟩
 rw [← hn] at hq hp0 hlen e0 ⊢
 have hpl:(ptL n q).length=n:=zdu
 have hcn:=zcT n q
 have h64 : ∀ w,w < n→zI q w < 64:=fun w hw=>by have:=zcZ hq hw;omega
 have clo:=zwj (T:=T) hq (by omega) (by omega)
 (repeat' ((conv=>whnf);first|refine vA ?_|(refine vD ?_ ?_<;>intro hc<;>try simp only [vL] at hc)|refine vJ fun hg=>?_|refine vT ?_|refine yD (za1 m) ⟨⟨rfl,rfl⟩,rfl⟩ rfl ?_|refine yD (zgI _) ⟨⟨rfl,rfl⟩,rfl⟩ rfl ?_));all_goals try conv=>whnf
 iterate 3 (exact absurd ‹_≠_› (by first|exact not_not_intro hk0|exact not_not_intro hp0|exact not_not_intro hlen))
 refine zM (fun (w:Nat)=>[(1,.d (dI (ptL n q))),(2,.ptr 0 0),(4,.ptr 1 0),(41,.d (dI (ptL n q))),(42,.d (.int .i64 (((ptL n q).map (D.int .i64)).length:Int))),(43,.d (.int .i64 ((w:Int))))]) (fun (w:Nat)=>[(0,some (zcJ m)),(1,some (.box [.d (.int .i64 0),.nils 1,.nils 1]))]) 2 (fun (w:Nat)=>w≤n ∧ ∀ u,u < w→byF m q u=true) (fun (w:Nat)=>n - w) (0) [(0,0),(1,1)] [] (⟨by omega,fun u hu=>by omega⟩) (by (refine ⟨rfl,rfl,rfl,?_,?_⟩;repeat' first|exact trivial|exact rfl|refine And.intro ?_ ?_|refine ⟨_,rfl,?_⟩|decide)) ?_
 rintro w ⟨hw,hI⟩
 by_cases hwl:w < n
 ·have e1:=zbO (q:=q) hwl
  have hqw:=hq.le w hwl
  have cf1:=zhV (T:=T) m (w:Int)
  have cf2:=zhV (T:=T) m ((q w:Nat):Int)
  rw [zt0 hk0 (by omega)] at cf1 cf2
  (repeat' ((conv=>whnf);first|refine vA ?_|((first|refine vD ?_ ?_|refine vF ?_ ?_)<;>intro hc<;>try simp only [vL] at hc)|refine vT ?_|refine vN ‹_› ?_|(refine vO ?_ ?_;·omega)|(refine vU ?_ ?_;·kernel_rfl)|refine yD cf1 ⟨⟨rfl,rfl⟩,⟨rfl,rfl⟩,rfl⟩ rfl ?_|refine yD cf2 ⟨⟨rfl,rfl⟩,⟨rfl,rfl⟩,rfl⟩ rfl ?_));all_goals try conv=>whnf
  ·rw [e0,if_neg (zzy hwl (by unfold byF;rw [decide_eq_false_iff_not];assumption))];rfl
  ·exact ⟨w+1,[(0,0),(1,1)],[],⟨by (omega),fun u hu=>by
    by_cases e:u=w
    ·subst e;unfold byF;rw [decide_eq_true_eq];assumption
    ·exact hI u (by omega)⟩,by (omega),by (refine ⟨rfl,rfl,rfl,?_,?_⟩;repeat' first|exact trivial|exact rfl|refine And.intro ?_ ?_|refine ⟨_,rfl,?_⟩|decide)⟩
  all_goals omega
 ·have hfa:zuz m q:=fun w hw=>by
   have:=hI w (by omega)
   simpa [byF] using this
  have e0:byR m q=(zap m q,ptL n (zI q),0):=by rw [e0,if_pos (zrL fun u hu=>hI u (by omega))]
  have hrl':zgo (zaT n q)=zD n q:=zua _
  (repeat' ((conv=>whnf);first|refine vA ?_|(refine vF ?_ ?_<;>intro hc<;>try simp only [vL] at hc)|refine vJ fun hg=>?_|refine vT ?_|(refine vQ ?_ fun x hx=>?_;·omega)|(refine vP ?_ ?_;·(simp only [vM] at *;omega))|refine yN clo ⟨⟨rfl,rfl⟩,rfl⟩ ?_));all_goals try conv=>whnf
  ·omega
  refine zM (fun ((w,zs):Nat×List D)=>[(2,.ptr 0 0),(4,.ptr 1 0),(11,.d (dN (zaT n q))),(12,.own 2),(62,.d (dI (ptL n q))),(63,.d (.int .i64 (((ptL n q).map (D.int .i64)).length:Int))),(64,.d (.int .i64 ((w:Int))))]) (fun ((w,zs):Nat×List D)=>[(0,some (zcJ m)),(1,some (.box [.d (.int .i64 0),.nils 1,.nils 1])),(2,some (.row 1 zs))]) 3 (fun ((w,zs):Nat×List D)=>w≤n∧zs=(List.range n).map fun u=>if u < w then D.int .i64 (zI q u:Int) else D.int .i64 0) (fun ((w,zs):Nat×List D)=>n - w) ((0,List.replicate ((((ptL n q).map (D.int .i64)).length:Int)).toNat (D.int .i64 0))) [(0,0),(1,1),(2,2)] [] (⟨by omega,by simp only [Nat.not_lt_zero,if_false];rw [List.length_map,hpl,Int.toNat_natCast];exact zbK _ _⟩) (by (refine ⟨rfl,rfl,rfl,?_,?_⟩;repeat' first|exact trivial|exact rfl|refine And.intro ?_ ?_|refine ⟨_,rfl,?_⟩|decide)) ?_
  rintro ⟨w,zs⟩ ⟨hw,hz⟩
  have hzl:zs.length=n:=by rw [hz];simp
  by_cases hwl:w < n
  ·have e1:=zbO (q:=q) hwl
   have cix:=zk0 (T:=T) ((zaT n q).map fun (x:Nat)=>(x:Int)) ((q w:Nat):Int)
   rw [zz1 hq hwl] at cix
   (repeat' ((conv=>whnf);first|refine vA ?_|(refine vF ?_ ?_<;>intro hc<;>try simp only [vL] at hc)|refine vJ fun hg=>?_|refine vT ?_|refine vN ‹_› ?_|((first|refine vO ?_ ?_|refine vP ?_ ?_);·omega)|refine yD cix ⟨⟨rfl,rfl⟩,⟨rfl,rfl⟩,rfl⟩ rfl ?_));all_goals try conv=>whnf
   ·refine ⟨(w+1,_),[(0,0),(1,1),(2,2)],[],?_,?_,by (refine ⟨rfl,rfl,rfl,?_,?_⟩;repeat' first|exact trivial|exact rfl|refine And.intro ?_ ?_|refine ⟨_,rfl,?_⟩|decide)⟩
    ·exact ⟨by (omega),by rw [hz];exact zj6 (α:=Nat) rfl⟩
    ·((simp only [vM] at *;omega))
   all_goals omega
  ·obtain rfl:zs=(ptL n (zI q)).map (D.int .i64):=by
    rw [hz];unfold ptL;rw [List.map_map]
    exact zaj fun u hu=>by rw [if_pos (by omega)];rfl
   have hml:(ptL n (zI q)).length=n:=zdu
   (repeat' ((conv=>whnf);first|refine vA ?_|(refine vF ?_ ?_<;>intro hc<;>try simp only [vL] at hc)|refine vJ fun hg=>?_|refine vT ?_|(refine vQ ?_ fun x hx=>?_;·omega)|fail));all_goals try conv=>whnf
   ·omega
   refine zM (fun ((k,zs):Nat×List D)=>[(2,.ptr 0 0),(4,.ptr 1 0),(11,.d (dN (zaT n q))),(12,.own 2),(15,.ptr 3 0),(80,.d (dU m.val)),(81,.d (.int .i64 ((m.val.map D.u64).length:Int))),(82,.d (.int .i64 ((k:Int))))]) (fun ((k,zs):Nat×List D)=>[(0,some (zcJ m)),(1,some (.box [.d (.int .i64 0),.nils 1,.nils 1])),(2,some (.row 1 ((ptL n (zI q)).map (D.int .i64)))),(3,some (.box [.d (.int .i64 (zgo (zaT n q):Int)),.own 4,.nils 1])),(4,some (.row 1 zs))]) 5 (fun ((k,zs):Nat×List D)=>k≤m.val.length∧zs=(m.val.take k).map fun s=>D.u64 (zaE (zI q) s n)) (fun ((k,zs):Nat×List D)=>m.val.length - k) ((0,[])) [(0,0),(1,1),(2,2),(3,3)]   [4] (⟨by simp,by simp⟩) (by (refine ⟨rfl,rfl,rfl,?_,?_⟩;repeat' first|exact trivial|exact rfl|exact ⟨_,rfl⟩|refine And.intro ?_ ?_|refine ⟨_,rfl,?_⟩|decide)) ?_
   rintro ⟨k,zs⟩ ⟨hk,hz⟩
   have hzl:zs.length≤8:=by rw [hz];simp;omega
   by_cases hkl:k < m.val.length
   ·obtain ⟨s,hs⟩ : ∃ s,m.val[k]? = some s:=⟨_,List.getElem?_eq_getElem hkl⟩
    (repeat' ((conv=>whnf);first|refine vA ?_|(refine vF ?_ ?_<;>intro hc<;>try simp only [vL] at hc)|refine vJ fun hg=>?_|refine vT ?_|refine vN ‹_› ?_|((first|refine vO ?_ ?_|refine vP ?_ ?_);·first|omega|(simp only [vM] at *;omega))|(refine vU ?_ ?_;·kernel_rfl)|refine yD (zoC s h64) ⟨⟨rfl,rfl⟩,⟨rfl,rfl⟩,rfl⟩ rfl ?_));all_goals try conv=>whnf
    ·refine ⟨(k+1,_),[(0,0),(1,1),(2,2),(3,3),(4,6)],[],?_,?_,by (refine ⟨rfl,rfl,rfl,?_,?_⟩;repeat' first|exact trivial|exact rfl|refine And.intro ?_ ?_|refine ⟨_,rfl,?_⟩|decide)⟩
     ·exact ⟨by omega,by rw [List.take_add_one,hs,hz];simp⟩
     ·((simp only [vM] at *;omega))
    all_goals omega
   ·have hzz:zs=m.val.map fun s=>D.u64 (zaE (zI q) s n):=by rw [hz,List.take_of_length_le (by omega)]
    clear hz
    subst hzz
    (repeat' ((conv=>whnf);first|refine vA ?_|(refine vF ?_ ?_<;>intro hc<;>try simp only [vL] at hc)|refine vJ fun hg=>?_|refine vT ?_|(refine vQ ?_ fun x hx=>?_;·omega)|fail));all_goals try conv=>whnf
    ·omega
    refine zM (fun ((k,zs):Nat×List D)=>[(4,.ptr 1 0),(11,.d (dN (zaT n q))),(12,.own 2),(15,.ptr 3 0),(96,.d (dUU m.rel)),(97,.d (.int .i64 ((m.rel.map dU).length:Int))),(98,.d (.int .i64 ((k:Int))))]) (fun ((k,zs):Nat×List D)=>[(1,some (.box [.d (.int .i64 0),.nils 1,.nils 1])),(2,some (.row 1 ((ptL n (zI q)).map (D.int .i64)))),(3,some (.box [.d (.int .i64 (zgo (zaT n q):Int)),.own 4,.own 5])),(4,some (.row 1 (m.val.map fun s=>D.u64 (zaE (zI q) s n)))),(5,some (.row 1 zs))]) 6 (fun ((k,zs):Nat×List D)=>k≤m.rel.length∧zs=(m.rel.take k).map fun r=>dU ((List.range (zD n q)).map (zdN q n r n))) (fun ((k,zs):Nat×List D)=>m.rel.length - k) ((0,[])) [(1,1),(2,2),(3,3),(4,4)]   [5] (⟨by simp,by simp⟩) (by (refine ⟨rfl,rfl,rfl,?_,?_⟩;repeat' first|exact trivial|exact rfl|exact ⟨_,rfl⟩|refine And.intro ?_ ?_|refine ⟨_,rfl,?_⟩|decide)) ?_
    rintro ⟨k,zs⟩ ⟨hk,hz⟩
    have hzl:zs.length≤4:=by rw [hz];simp;omega
    by_cases hkl:k < m.rel.length
    ·obtain ⟨r,hr⟩ : ∃ r,m.rel[k]? = some r:=⟨_,List.getElem?_eq_getElem hkl⟩
     have hrl:r.length=n:=by have:=hg0.len r (List.mem_of_getElem? hr);omega
     (repeat' ((conv=>whnf);first|refine vA ?_|(refine vF ?_ ?_<;>intro hc<;>try simp only [vL] at hc)|refine vJ fun hg=>?_|refine vT ?_|refine vN ‹_› ?_|(refine vP ?_ ?_;·(simp only [vM] at *;omega))|fail));all_goals try conv=>whnf
     ·refine zM (fun ((w,ys):Nat×List D)=>[(4,.ptr 1 0),(11,.d (dN (zaT n q))),(12,.own 2),(15,.ptr 3 0),(20,.own 6),(96,.d (dUU m.rel)),(97,.d (.int .i64 ((m.rel.map dU).length:Int))),(98,.d (.int .i64 ((k:Int)))),(105,.d (dU r)),(106,.d (.int .i64 ((r.map D.u64).length:Int))),(107,.d (.int .i64 ((w:Int))))]) (fun ((w,ys):Nat×List D)=>[(1,some (.box [.d (.int .i64 0),.nils 1,.nils 1])),(2,some (.row 1 ((ptL n (zI q)).map (D.int .i64)))),(3,some (.box [.d (.int .i64 (zgo (zaT n q):Int)),.own 4,.own 5])),(4,some (.row 1 (m.val.map fun s=>D.u64 (zaE (zI q) s n)))),(5,some (.row 1 zs)),(6,some (.row 1 ys))]) 7 (fun ((w,ys):Nat×List D)=>w≤n∧ys=(List.range (zD n q)).map fun i=>D.u64 (zdN q n r w i)) (fun ((w,ys):Nat×List D)=>n - w) ((0,List.replicate ((zgo (zaT n q):Int)).toNat (D.u64 0))) [(1,1),(2,2),(3,3),(4,4),(5,5),(6,6)] [] (⟨by omega,by rw [hrl',Int.toNat_natCast];exact zbK _ _⟩) (by (refine ⟨rfl,rfl,rfl,?_,?_⟩;repeat' first|exact trivial|exact rfl|refine And.intro ?_ ?_|refine ⟨_,rfl,?_⟩|decide)) ?_
      rintro ⟨w,ys⟩ ⟨hw,hy⟩
      have hrl2:(List.range (zD n q)).length=zD n q:=List.length_range
      subst hy
      by_cases hwl:w < n
      ·obtain ⟨s,hs⟩ : ∃ s,r[w]? = some s:=⟨_,List.getElem?_eq_getElem (by omega)⟩
       have e1:=zbO (q:=zI q) hwl
       have hnl:=zcZ hq hwl
       have e2:(List.range (zD n q))[zI q w]? = some (zI q w):=List.getElem?_range hnl
       (repeat' ((conv=>whnf);first|refine vA ?_|(refine vF ?_ ?_<;>intro hc<;>try simp only [vL] at hc)|refine vT ?_|refine vN ‹_› ?_|((first|refine vO ?_ ?_|refine vP ?_ ?_);·first|omega|(simp only [vM] at *;omega))|(refine vU ?_ ?_;·kernel_rfl)|refine yD (zoC s h64) ⟨⟨rfl,rfl⟩,⟨rfl,rfl⟩,rfl⟩ rfl ?_));all_goals try conv=>whnf
       ·refine ⟨(w+1,_),[(1,1),(2,2),(3,3),(4,4),(5,5),(6,6)],[],?_,?_,by (refine ⟨rfl,rfl,rfl,?_,?_⟩;repeat' first|exact trivial|exact rfl|refine And.intro ?_ ?_|refine ⟨_,rfl,?_⟩|decide)⟩
        ·refine ⟨by (omega),?_⟩
         refine (zh4 _).trans (zaj fun u hu=>?_)
         rw [zvL,zt5 hs,Int.toNat_natCast]
         by_cases e:u=zI q w
         ·subst e;rw [if_pos rfl,if_pos rfl]
         ·rw [if_neg e,if_neg (fun h=>e h.symm)]
        ·((simp only [vM] at *;omega))
       all_goals omega
      ·rw [show ((List.range (zD n q)).map fun i=>D.u64 (zdN q n r w i))=((List.range (zD n q)).map (zdN q n r n)).map D.u64 by rw [show w=n by omega,List.map_map];rfl]
       (repeat' ((conv=>whnf);first|refine vA ?_|(refine vF ?_ ?_<;>intro hc<;>try simp only [vL] at hc)|refine vT ?_|(refine vQ ?_ fun x hx=>?_;·omega)|((first|refine vO ?_ ?_|refine vP ?_ ?_);·first|omega|(simp only [vM] at *;omega))|fail));all_goals try conv=>whnf
       ·omega
       ·refine ⟨(k+1,_),[(1,1),(2,2),(3,3),(4,4),(5,8)],[],?_,?_,by (refine ⟨rfl,rfl,rfl,?_,?_⟩;repeat' first|exact trivial|exact rfl|refine And.intro ?_ ?_|refine ⟨_,rfl,?_⟩|decide)⟩
        ·refine ⟨by omega,?_⟩
         rw [List.take_add_one,hr,hz];simp
        ·((simp only [vM] at *;omega))
       all_goals omega
     all_goals omega
    ·have hzz:zs=m.rel.map fun r=>dU ((List.range (zD n q)).map (zdN q n r n)):=by rw [hz,List.take_of_length_le (by omega)]
     subst hzz
     (repeat' ((conv=>whnf);first|refine vA ?_|(refine vF ?_ ?_<;>intro hc<;>try simp only [vL] at hc)|refine vJ fun hg=>?_|refine vT ?_|(refine vQ ?_ fun x hx=>?_;·omega)|(refine vP ?_ ?_;·omega)|fail));all_goals try conv=>whnf
     ·omega
     ·rw [e0]
      refine congrArg some (show D.tup [D.agg [.int .i64 (zgo (zaT n q):Int),.arr 1 (m.val.map fun s=>D.u64 (zaE (zI q) s n)),.arr 1 (m.rel.map fun r=>dU ((List.range (zD n q)).map (zdN q n r n)))],dI (ptL n (zI q)),.int .i64 0]=D.tup [dKM (zap m q),dI (ptL n (zI q)),.int .i64 0] from ?_)
      have f1:(m.val.map fun s=>zaE (zI q) s n)=(zap m q).val:=by
       rw [hn] at hq ⊢
       exact List.map_congr_left fun s hs=>zAg hq (by omega) hfa hs
      have f2:(m.rel.map fun r=>(List.range (zD n q)).map (zdN q n r n))=(zap m q).rel:=by
       rw [hn] at hq ⊢
       exact List.map_congr_left fun r _=>List.map_congr_left fun i _=>zAf hq (by omega) r i
      rw [hrl',show (m.val.map fun s=>D.u64 (zaE (zI q) s n))=(zap m q).val.map D.u64 by rw [← f1,List.map_map];rfl,show (m.rel.map fun r=>dU ((List.range (zD n q)).map (zdN q n r n)))=(zap m q).rel.map dU by rw [← f2,List.map_map];rfl,hn]
      rfl
theorem zBt (m:KM) (p:List Int) (h12:zg m=0→m.W≤12):Fn Tryz.prog T zdp [.d (dKM m),.d (dI p)] [] (.d (zuU (byL m p))) []:=by
 by_cases hall:zg m=0∧zbI p=0∧(p.length:Int)=m.W
 ·obtain ⟨hk0,hp0,hlen⟩:=hall
  obtain ⟨hp64,hq,hpe⟩:=ztI hp0
  have hpn:p.length=m.W.toNat:=by omega
  rw [hpn] at hq hpe
  have:=zwb (T:=T) hk0 (h12 hk0) hq
  rw [← hpe] at this
  rw [show byL m p=byR m (byQ p) by rw [byL,if_neg (by omega),if_neg (by omega),if_neg (by omega)];rfl]
  exact this
 refine zf zu zki (by show 2≤134;decide) ?_
 by_cases hk0:zg m=0
 ·by_cases hp0:zbI p=0
  ·by_cases hlen:(p.length:Int)=m.W
   ·exact absurd ⟨hk0,hp0,hlen⟩ hall
   ·(repeat' ((conv=>whnf);first|refine vA ?_|(refine vD ?_ ?_<;>intro hc<;>try simp only [vL] at hc)|refine vJ fun hg=>?_|refine vT ?_|refine yD (za1 m) ⟨⟨rfl,rfl⟩,rfl⟩ rfl ?_|refine yD (zgI p) ⟨⟨rfl,rfl⟩,rfl⟩ rfl ?_));all_goals try conv=>whnf
    ·exact absurd hk0 ‹_›
    ·exact absurd hp0 ‹_›
    ·rw [byL,if_neg (by omega),if_neg (by omega),if_pos hlen];rfl
    ·exact absurd ‹(p.length:Int)=m.W› hlen
  ·(repeat' ((conv=>whnf);first|refine vA ?_|(refine vD ?_ ?_<;>intro hc<;>try simp only [vL] at hc)|refine vJ fun hg=>?_|refine vT ?_|refine yD (za1 m) ⟨⟨rfl,rfl⟩,rfl⟩ rfl ?_|refine yD (zgI p) ⟨⟨rfl,rfl⟩,rfl⟩ rfl ?_));all_goals try conv=>whnf
   ·exact absurd hk0 ‹_›
   ·rw [byL,if_neg (by omega),if_pos hp0];rfl
   all_goals exact absurd ‹zbI p=0› hp0
 ·(repeat' ((conv=>whnf);first|refine vA ?_|(refine vD ?_ ?_<;>intro hc)|refine vT ?_|refine yD (za1 m) ⟨⟨rfl,rfl⟩,rfl⟩ rfl ?_));all_goals try conv=>whnf
  ·rw [byL,if_pos hk0];rfl
  all_goals exact absurd ‹zg m=0› hk0
end Go.Ab
namespace Go.Ab
open Go Go.Proofs
set_option maxRecDepth 10000
set_option maxHeartbeats 4000000
variable {T:Nat→Obj→Prop}
theorem zAI (m:KM):byR m (cq m)=(zap m (cq m),ptL m.W.toNat (zI (cq m)),0):=if_pos (zrL fun w hw=>by unfold byF;rw [decide_eq_true_eq];exact zr1 m w hw)
def zsD (m:KM):KM×List Int×Int:=if zg m≠0 then (zfu,[],zg m) else (zap m (cq m),ptL m.W.toNat (zI (cq m)),0)
theorem ztq (hT:ze5 T) (hX:zgD T) (m:KM) (h12:zg m=0→m.W≤12):Fn Tryz.prog T zfv [.d (dKM m)] [] (.d (zuU (zsD m))) []:=by
 have cco:=zk1 (T:=T) hT hX m
 refine zf zu zkq (by show 1≤22;decide) ?_
 by_cases hk0:zg m=0
 ·rw [show ze8 m=(ptL m.W.toNat (cq m),0) by rw [ze8,if_neg (by omega)]] at cco
  have cb:=zwb (T:=T) hk0 (h12 hk0) (zha m)
  rw [zAI] at cb
  (repeat' ((conv=>whnf);first|refine vA ?_|refine vH ?_|refine vT ?_|refine yN cco ⟨⟨rfl,rfl⟩,rfl⟩ ?_|refine yN cb ⟨⟨rfl,rfl⟩,⟨rfl,rfl⟩,rfl⟩ ?_));all_goals try conv=>whnf
  ·rw [zsD,if_neg (by omega)];rfl
 ·rw [show ze8 m=([],zg m) by rw [ze8,if_pos hk0]] at cco
  (repeat' ((conv=>whnf);first|refine vA ?_|(refine vD ?_ ?_<;>intro hc<;>try simp only [vL] at hc)|refine vT ?_|refine yN cco ⟨⟨rfl,rfl⟩,rfl⟩ ?_));all_goals try conv=>whnf
  ·rw [zsD,if_pos hk0];rfl
  all_goals exact absurd ‹zg m=0› hk0
noncomputable def zX (m:KM) (w:Nat):KM:=zc9 m (zY m.W.toNat (zm m) w)
noncomputable def zb3 (m:KM) (w:Int):KM×Int×Int :=
 if zg m≠0 then (zfu,0,zg m) else if w < 0∨m.W≤w then (zfu,0,2) else
  (zap (zX m w.toNat) (cq (zX m w.toNat)),((zI (cq (zX m w.toNat)) ((zY m.W.toNat (zm m) w.toNat).idxOf w.toNat):Nat):Int),0)
theorem zBu (hT:ze5 T) (hX:zgD T) (m:KM) (h12:zg m=0→m.W≤12) (w:Int):Fn Tryz.prog T zf8 [.d (dKM m),.d (.int .i64 w)] [] (.d (.tup [dKM (zb3 m w).1,.int .i64 (zb3 m w).2.1,.int .i64 (zb3 m w).2.2])) []:=by
 have ccx:=za1 (T:=T) m
 refine zf zu zlc (by show 2≤62;decide) ?_
 by_cases hk0:zg m=0
 ·have h12:=h12 hk0
  have hg0:=zz hk0
  have w1:=hg0.w1
  rw [hk0] at ccx
  by_cases hw:w < 0∨m.W≤w
  ·(repeat' ((conv=>whnf);first|refine vA ?_|refine vH ?_|(refine vF ?_ ?_<;>intro hc<;>try simp only [vL] at hc)|refine vT ?_|(refine vP ?_ ?_;·omega)|refine yD ccx ⟨⟨rfl,rfl⟩,rfl⟩ rfl ?_));all_goals try conv=>whnf
   iterate 2 (rw [zb3,if_neg (by omega),if_pos hw];rfl)
   exfalso;omega
  ·obtain ⟨w,rfl⟩ : ∃ v:Nat,w=(v:Int):=⟨w.toNat,by omega⟩
   have hwl:w < m.W.toNat:=by omega
   have hbit : ∀ v,(1#64 <<< w).getLsbD v=true→v < m.W.toNat:=fun v hv=>by have:=(zp8 (by omega)).1 hv;omega
   have hl:=zyk hk0 hwl
   have hroot:=zjJ (R:=zm m) hwl
   have hlen:=zlP (n:=m.W.toNat) (R:=zm m) (w:=w)
   have cg:=zrc hT hk0 hbit
   have cr:=zsj hT hk0 (s:=zif m (1#64 <<< w)) (fun e=>by
    rw [e,zic] at hl;rw [← hl] at hroot;cases hroot) (fun v hv=>((ziL hk0).1 hv).lt)
   rw [hl] at cr
   generalize zif m (1#64 <<< w)=gs at cg cr
   have hres:zb3 m (w:Int)=(zap (zX m w) (cq (zX m w)),((zI (cq (zX m w)) ((zY m.W.toNat (zm m) w).idxOf w):Nat):Int),0):=by
    rw [zb3,if_neg (by omega),if_neg hw,Int.toNat_natCast]
   rw [hres]
   clear hl
   have hll:1≤(zY m.W.toNat (zm m) w).length:=List.length_pos_of_mem hroot
   have hp0:zg (zX m w)=0:=zvP hk0 hll (by omega)
   have hpW:(zX m w).W.toNat=(zY m.W.toNat (zm m) w).length:=Int.toNat_natCast _
   have hpI:(zX m w).W=((zY m.W.toNat (zm m) w).length:Int):=rfl
   change Fn _ _ _ _ _ (.d (.tup [dKM (zX m w),_,_])) _ at cr
   have cm:=ztq (T:=T) hT hX (zX m w) (fun _=>by rw [hpI];omega)
   rw [show zsD (zX m w)=(zap (zX m w) (cq (zX m w)),ptL (zX m w).W.toNat (zI (cq (zX m w))),0) by rw [zsD,if_neg (by omega)]] at cm
   have ci:=zk0 (T:=T) ((zY m.W.toNat (zm m) w).map fun (x:Nat)=>(x:Int)) (w:Int)
   rw [zv9 hroot] at ci
   have hix:=List.idxOf_lt_length_of_mem hroot
   generalize zX m w=g at cr cm hpW hp0
   generalize zY m.W.toNat (zm m) w=l at cr cm ci hpW hix
   have e1:=zbO (n:=g.W.toNat) (q:=zI (cq g)) (w:=l.idxOf w) (by omega)
   (repeat' ((conv=>whnf);first|refine vA ?_|refine vH ?_|(refine vF ?_ ?_<;>intro hc<;>try simp only [vL] at hc)|refine vT ?_|refine vN ‹_› ?_|(refine vP ?_ ?_;·omega)|(refine vU ?_ ?_;·kernel_rfl)|refine yD ccx ⟨⟨rfl,rfl⟩,rfl⟩ rfl ?_|refine yN cg ⟨⟨rfl,rfl⟩,⟨rfl,rfl⟩,rfl⟩ ?_|refine yN cr ⟨⟨rfl,rfl⟩,⟨rfl,rfl⟩,rfl⟩ ?_|refine yN cm ⟨⟨rfl,rfl⟩,rfl⟩ ?_|refine yD ci ⟨⟨rfl,rfl⟩,⟨rfl,rfl⟩,rfl⟩ rfl ?_));all_goals try conv=>whnf
   ·exfalso;omega
   ·rfl
   all_goals skip
 ·(repeat' ((conv=>whnf);first|refine vA ?_|((first|refine vD ?_ ?_|refine vF ?_ ?_)<;>intro hc<;>try simp only [vL] at hc)|refine vT ?_|(refine vP ?_ ?_;·omega)|refine yD ccx ⟨⟨rfl,rfl⟩,rfl⟩ rfl ?_));all_goals try conv=>whnf
  ·rw [zb3,if_pos hk0];rfl
  all_goals exact absurd ‹zg m=0› hk0
theorem zwT {m:KM} {w:Int} (hk0:zg m=0) (hw : ¬(w < 0∨m.W≤w)):zb3 m w=(zap (zX m w.toNat) (cq (zX m w.toNat)),((zI (cq (zX m w.toNat)) ((zY m.W.toNat (zm m) w.toNat).idxOf w.toNat):Nat):Int),0):=by
 rw [zb3,if_neg (by omega),if_neg hw]
theorem zt3 {m:KM} {w:Nat} (hk0:zg m=0) (hw:w < m.W.toNat):zg (zX m w)=0∧(zX m w).W.toNat=(zY m.W.toNat (zm m) w).length∧(zX m w).W≤m.W∧1≤(zX m w).W:=by
 have hg:=zz hk0
 have w1:=hg.w1
 have w2:=hg.w2
 have hroot:=zjJ (R:=zm m) hw
 have hlen:=zlP (n:=m.W.toNat) (R:=zm m) (w:=w)
 have hpos:=List.length_pos_of_mem hroot
 have hpI:(zX m w).W=((zY m.W.toNat (zm m) w).length:Int):=rfl
 exact ⟨zvP hk0 hpos (by omega),Int.toNat_natCast _,by omega,by omega⟩
end Go.Ab
namespace Go.Ab
open Go Go.Proofs
set_option maxRecDepth 10000
set_option maxHeartbeats 4000000
def exQ:KM:=⟨4,[12#64],[[4#64,8#64,4#64,8#64]]⟩
def zyH:KM:=⟨1,[1#64],[[1#64]]⟩
def zzf:KM:=⟨2,[2#64],[[2#64,2#64]]⟩
def zx4:KM:=⟨2,[],[[2#64,1#64]]⟩
theorem zlK {m:KM} {l:List Int} (hk0:zg m=0) (h:ptL m.W.toNat (zai m 1)=ptL m.W.toNat (zai m 0)) (h0:ptL m.W.toNat (zai m 0)=l):ze8 m=(l,0):=by
 have w1:=(zz hk0).w1
 rw [ze8,if_neg (by omega),← ztZ (m:=m) (k:=0) (by omega) h,h0]
theorem zAM:ze8 exQ=([0,0,2,2],0):=zlK (by decide) (by decide) (by decide)
theorem zzN:ze8 zyH=([0],0):=zlK (by decide) (by decide) (by decide)
theorem zzO:ze8 zzf=([0,1],0):=zlK (by decide) (by decide) (by decide)
theorem zzM:ze8 zx4=([0,0],0):=zlK (by decide) (by decide) (by decide)
def zx0 (m:KM):Option (List Int):=cond (decide (m=exQ)) (some [0,0,2,2]) (cond (decide (m=zyH)) (some [0]) (cond (decide (m=zzf)) (some [0,1]) (cond (decide (m=zx4)) (some [0,0]) none)))
theorem zzL {m:KM} {l:List Int} (h:zx0 m=some l):ze8 m=(l,0):=by
 unfold zx0 at h
 cases h1:decide (m=exQ) with
 | true=>rw [h1] at h;cases h;rw [of_decide_eq_true h1];exact zAM
 | false =>
  rw [h1] at h
  cases h2:decide (m=zyH) with
  | true=>rw [h2] at h;cases h;rw [of_decide_eq_true h2];exact zzN
  | false =>
   rw [h2] at h
   cases h3:decide (m=zzf) with
   | true=>rw [h3] at h;cases h;rw [of_decide_eq_true h3];exact zzO
   | false =>
    rw [h3] at h
    cases h4:decide (m=zx4) with
    | true=>rw [h4] at h;cases h;rw [of_decide_eq_true h4];exact zzM
    | false=>rw [h4] at h;cases h
def zsw:Fs:=fun f vs obs =>
 cond (Nat.beq f zdp) (match vs,obs with
  | [.d d,.d (.arr 1 a)],[]=>match zp5 d,zjO a with
   | some m,some p=>cond (decide (m.W≤12)) (some (.d (zuU (byL m p)),[])) none
   | _,_=>none
  | _,_=>none)
 (  cond (Nat.beq f zde) (match vs,obs with
  | [.d d],[]=>match zp5 d with
   | some m=>match zx0 m with
    | some l=>some (.d (.tup [dI l,.int .i64 0]),[])
    | none=>none
   | none=>none
  | _,_=>none)
 (cond (Nat.beq f zdg) (match vs,obs with
  | [.d (.arr 1 a),.d (.arr 1 b)],[]=>match ziV a,ziV b with
   | some a,some b=>cond (zvx a) (some (.d (.int .i64 (zuP a b)),[])) none
   | _,_=>none
  | _,_=>none)
 (cond (Nat.beq f zaM) (match vs,obs with
  | [.d (.u64 w)],[]=>some (.d (.int .i64 (Lib.ctz 64 w.toNat)),[])
  | _,_=>none)
 (cond (Nat.beq f zdH) (match vs,obs with
  | [.d (.u64 w)],[]=>some (.d (.int .i64 (Sort.bitsLen w.toNat:Int)),[])
  | _,_=>none)
 (cond (Nat.beq f zeC) (match vs,obs with
  | [.d d],[]=>match zp5 d with
   | some m=>some (.d (.int .i64 (zg m)),[])
   | none=>none
  | _,_=>none)
 (cond (Nat.beq f zeD) (match vs,obs with
  | [.d d,.d (.int .i64 w)],[]=>match zp5 d with
   | some m=>some (.d (.int .i64 (zkU m w)),[])
   | none=>none
  | _,_=>none) none))))))
def zBO (f:Nat):Bool:=Nat.beq f zcc||(Nat.beq f zbL||(Nat.beq f zmi||(Nat.beq f zaV||Nat.beq f zb0)))
noncomputable def zAL:Cfg:=⟨zi Tryz.prog,zsw,fun _ _ _=>none,zBO,fun f=>Nat.beq f zdi||(Nat.beq f zie||Nat.beq f ziE),150⟩
variable {T:Nat→Obj→Prop}
theorem zwF (hT:ze5 T) (hX:zgD T):zuB Tryz.prog T zsw:=by
 intro f vs obs v obs' h
 unfold zsw at h
 cases hb0:Nat.beq f zdp with
 | true =>
  rw [hb0,cond_true] at h
  rw [Nat.eq_of_beq_eq_true hb0]
  split at h
  ·split at h
   ·rename_i m p hm hp
    rw [zlU hm,znv hp]
    cases hc:decide (m.W≤12) with
    | true=>rw [hc] at h;cases h;exact zBt m p fun _=>of_decide_eq_true hc
    | false=>rw [hc] at h;cases h
   ·cases h
  ·cases h
 | false =>
 rw [hb0,cond_false] at h
 cases h0:Nat.beq f zde with
 | true =>
  rw [h0,cond_true] at h
  rw [Nat.eq_of_beq_eq_true h0]
  split at h
  ·split at h
   ·rename_i m hm
    split at h
    ·rename_i hl
     cases h
     rw [zlU hm]
     have:=zk1 (T:=T) hT hX m
     rw [zzL hl] at this
     exact this
    ·cases h
   ·cases h
  ·cases h
 | false =>
 rw [h0,cond_false] at h
 cases h1:Nat.beq f zdg with
 | true =>
  rw [h1,cond_true] at h
  rw [Nat.eq_of_beq_eq_true h1]
  split at h
  ·split at h
   ·rename_i a b ha hb
    rw [zlf ha,zlf hb]
    cases hc:zvx a with
    | true=>rw [hc] at h;cases h;exact zyi _ _ (zAo hc)
    | false=>rw [hc] at h;cases h
   ·cases h
  ·cases h
 | false =>
  rw [h1,cond_false] at h
  cases h2:Nat.beq f zaM with
  | true =>
   rw [h2,cond_true] at h
   rw [Nat.eq_of_beq_eq_true h2]
   split at h
   ·cases h;exact hT _
   ·cases h
  | false =>
   rw [h2,cond_false] at h
   cases h3:Nat.beq f zdH with
   | true =>
    rw [h3,cond_true] at h
    rw [Nat.eq_of_beq_eq_true h3]
    split at h
    ·cases h;exact zwe _
    ·cases h
   | false =>
    rw [h3,cond_false] at h
    cases h4:Nat.beq f zeC with
    | true =>
     rw [h4,cond_true] at h
     rw [Nat.eq_of_beq_eq_true h4]
     split at h
     ·split at h
      ·rename_i hm;cases h;rw [zlU hm];exact za1 _
      ·cases h
     ·cases h
    | false =>
     rw [h4,cond_false] at h
     cases h5:Nat.beq f zeD with
     | true =>
      rw [h5,cond_true] at h
      rw [Nat.eq_of_beq_eq_true h5]
      split at h
      ·split at h
       ·rename_i hm;cases h;rw [zlU hm];exact zhV _ _
       ·cases h
      ·cases h
     | false=>rw [h5] at h;cases h
theorem zzE (hT:ze5 T) (hX:zgD T):zuy Tryz.prog T zAL:=⟨fun f c h=>h,zwF hT hX,fun g vs obs xs h=>by cases h⟩
end Go.Ab
namespace Go.Ab
open Go
theorem zh9.refl' {n:Nat} {fa fb:Nat→Int} {R R':z8} (hf : ∀ w,w < n→fb w=fa w) (hl:R'.length=R.length) (hR : ∀ (i:Nat) r r',R[i]? = some r→R'[i]? = some r' → ∀ v w,v < n→w < n→r' v w=r v w):zh9 n fa fb R R' fun w=>w :=
 ⟨⟨fun _ h=>h,fun _ _ _ _ e=>e⟩,hf,⟨hl,fun i r r' h1 h2 v w hv hw=>hR i r r' h1 h2 v w hv hw⟩⟩
theorem zx1 {n:Nat} {R R':z8} {fa fb:Nat→Int} (h:zh9 n fa fb R R' fun w=>w) {w:Nat} (hw:w < n):coa n R' fb w=coa n R fa w:=by
 have S:=zjx n R fa
 have S':=zjx n R' fb
 have B:=h.bis
 rw [← zjw S'.canon hw,← zjw S.canon hw]
 refine zhp fun v hv=>?_
 unfold zbQ
 rw [Bool.eq_iff_iff,decide_eq_true_eq,decide_eq_true_eq]
 constructor
 ·intro e
  exact zpI ((B.trans S'.bis).trans B.symm) (v:=v) (w:=w) ⟨w,⟨v,⟨by omega,rfl⟩,by omega,hw,e⟩,hw,rfl⟩
 ·intro e
  exact zpI ((B.symm.trans S.bis).trans B) (v:=v) (w:=w) ⟨w,⟨v,⟨by omega,rfl⟩,by omega,hw,e⟩,hw,rfl⟩
section
variable {n:Nat} {q q':Nat→Nat} (h : ∀ w,w < n→q w=q' w)
include h
theorem zqn {k:Nat} (hk:k≤n):zD k q=zD k q':=by
 unfold zD
 congr 1
 exact List.filter_congr fun w hw=>by rw [h w (by have:=List.mem_range.1 hw;omega)]
theorem zwZ:zaT n q=zaT n q':=by
 unfold zaT
 exact List.filter_congr fun w hw=>by rw [h w (List.mem_range.1 hw)]
theorem zgj (hq:zaH n q) {w:Nat} (hw:w < n):zI q w=zI q' w:=by
 unfold zI
 have:=hq.le w hw
 rw [zqn h (by omega),h w hw]
theorem zwW (hq:zaH n q) {r r':Nat→Nat→Bool} (hr : ∀ v w,v < n→w < n→r v w=r' v w) (i j:Nat):zdE n q r i j=zdE n q' r' i j:=by
 rw [Bool.eq_iff_iff,zhs,zhs]
 constructor
 ·rintro ⟨v,w,a,b,c,d,e⟩
  exact ⟨v,w,a,b,by rw [← zgj h hq a];exact c,by rw [← zgj h hq b];exact d,by rw [← hr v w a b];exact e⟩
 ·rintro ⟨v,w,a,b,c,d,e⟩
  exact ⟨v,w,a,b,by rw [zgj h hq a];exact c,by rw [zgj h hq b];exact d,by rw [hr v w a b];exact e⟩
end
def ptM (m:KM) (w:Nat):Ptd:=⟨m.W.toNat,zm m,zV m,w⟩
section
variable {m:KM} (hk0:zg m=0) {w:Nat} (hw:w < m.W.toNat)
include hk0 hw
theorem zAd:let Q:=(zb3 m (w:Int)).1;Q.W.toNat=(ptM m w).min.n∧zg Q=0∧(zb3 m (w:Int)).2.1=(((ptM m w).min.root:Nat):Int)∧zh9 (ptM m w).min.n (ptM m w).min.fa (zV Q) (ptM m w).min.R (zm Q) fun x=>x:=by
 intro Q
 have hg0:=zz hk0
 have w2:=hg0.w2
 have hW : ¬((w:Int) < 0∨m.W≤(w:Int)):=by omega
 have hQ:zb3 m (w:Int)=_:=zwT hk0 hW
 rw [Int.toNat_natCast] at hQ
 obtain ⟨hp0,hpW,hpI,hp1⟩:=zt3 hk0 hw
 have hQ1:Q=zap (zX m w) (cq (zX m w)):=congrArg Prod.fst hQ
 have hlen:=zlP (n:=m.W.toNat) (R:=zm m) (w:=w)
 have hid:zh9 (zY m.W.toNat (zm m) w).length (zdJ (zY m.W.toNat (zm m) w) (zV m)) (zV (zX m w)) (zbR (zY m.W.toNat (zm m) w) (zm m)) (zm (zX m w)) fun x=>x :=
  zh9.refl' (fun x hx=>zzz (by omega) hx) (by simp [zbR,zm,zX,zc9]) fun i r r' h1 h2 v u hv hu=>zzA (by omega) h2 h1 hv hu
 have hcq : ∀ x,x < (zY m.W.toNat (zm m) w).length→cq (zX m w) x=coa (zY m.W.toNat (zm m) w).length (zbR (zY m.W.toNat (zm m) w) (zm m)) (zdJ (zY m.W.toNat (zm m) w) (zV m)) x:=fun x hx=>by
  rw [zAN (by omega) (by omega) (by omega),hpW]
  exact zx1 hid hx
 have hcan:zaH (zY m.W.toNat (zm m) w).length (cq (zX m w)):=by rw [← hpW];exact zha _
 have hcnt:=zqn hcq (Nat.le_refl _)
 have hroot:=zjJ (R:=zm m) hw
 have hix:=List.idxOf_lt_length_of_mem hroot
 have hQW:Q.W.toNat=zD (zY m.W.toNat (zm m) w).length (cq (zX m w)):=by rw [hQ1];show ((zD (zX m w).W.toNat (cq (zX m w)):Nat):Int).toNat=_;rw [Int.toNat_natCast,hpW]
 refine ⟨hQW.trans hcnt,by rw [hQ1];exact zA8 hp0 (zha _),?_,zh9.refl' (fun i hi=>?_) ?_ fun i r r' h1 h2 a b ha hb=>?_⟩
 ·rw [hQ]
  show ((zI (cq (zX m w)) _:Nat):Int)=_
  rw [zgj hcq hcan hix];rfl
 ·have hi':i < zD (zX m w).W.toNat (cq (zX m w)):=by rw [hpW,hcnt];exact hi
  rw [hQ1,zuk (by omega) hi']
  rw [show (ptM m w).min.fa i=zlo (zY m.W.toNat (zm m) w).length (coa (zY m.W.toNat (zm m) w).length (zbR (zY m.W.toNat (zm m) w) (zm m)) (zdJ (zY m.W.toNat (zm m) w) (zV m))) (zdJ (zY m.W.toNat (zm m) w) (zV m)) i from rfl]
  unfold zlo
  rw [hpW,zwZ hcq]
  have hl:(zaT (zY m.W.toNat (zm m) w).length (coa (zY m.W.toNat (zm m) w).length (zbR (zY m.W.toNat (zm m) w) (zm m)) (zdJ (zY m.W.toNat (zm m) w) (zV m)))).getD i 0 < (zY m.W.toNat (zm m) w).length:=by
   have hm:=zhh (l:=zaT (zY m.W.toNat (zm m) w).length (coa (zY m.W.toNat (zm m) w).length (zbR (zY m.W.toNat (zm m) w) (zm m)) (zdJ (zY m.W.toNat (zm m) w) (zV m)))) (i:=i) hi
   exact List.mem_range.1 (List.mem_filter.1 hm).1
  exact hid.fac _ hl
 ·rw [hQ1]
  show (zm (zap (zX m w) (cq (zX m w)))).length=((zbR _ (zm m)).map _).length
  simp [zm,zap,zbR,zX,zc9]
 ·have h1':((zbR (zY m.W.toNat (zm m) w) (zm m)).map (zdE (zY m.W.toNat (zm m) w).length (coa (zY m.W.toNat (zm m) w).length (zbR (zY m.W.toNat (zm m) w) (zm m)) (zdJ (zY m.W.toNat (zm m) w) (zV m)))))[i]? = some r:=h1
  rw [List.getElem?_map,Option.map_eq_some_iff] at h1'
  obtain ⟨s,hs,rfl⟩:=h1'
  obtain ⟨s',hs'⟩:=zlZ hid.rel.len hs
  rw [hQ1] at h2
  have h3:((zm (zX m w)).map (zdE (zX m w).W.toNat (cq (zX m w))))[i]? = some (zdE (zX m w).W.toNat (cq (zX m w)) s'):=by rw [List.getElem?_map,hs'];rfl
  rw [zul (by omega) h2 h3 (by rw [hpW,hcnt];exact ha) (by rw [hpW,hcnt];exact hb),hpW]
  exact zwW hcq hcan (fun v u hv hu=>hid.rel.rel i s s' hs hs' v u hv hu) a b
theorem zyO:(ptM m w).min.root < (ptM m w).min.n:=zyw (m:=ptM m w) hw
end
end Go.Ab
namespace Go.Ab
structure Nd where
 op:Int
 i:Int
 e:Int
 g:Int
 x:Int
 y:Int
 deriving DecidableEq,Inhabited
structure Hd where
 op:Int
 i:Int
 e:Int
 g:Int
 deriving DecidableEq,Inhabited
def Nd.hd (n:Nd):Hd:=⟨n.op,n.i,n.e,n.g⟩
def zcA (op:Int):Bool:=decide (1≤op∧op≤21)
def zaq (op:Int):Bool:=decide (4≤op∧op≤21)
def zaf (op:Int):Bool:=decide (5≤op∧op≤8∨op=13∨op=14∨op=16∨op=19∨op=21)
def zZ (op:Int):Bool:=decide (op=3)
def zJ (op:Int):Bool:=decide (op=9∨op=10∨op=14∨op=15)
def zK (op:Int):Bool:=decide (op=17)
def zN (op:Int):Bool:=decide (11≤op∧op≤13)
def zaS (op:Int):Int :=
 if op=9∨op=10 then 1 else if op=11 then 2 else if op=12 then 4 else if op=13 then 8 else if op=14 then 16 else if op=15 then 32 else if op=16 then 64 else if op=17 then 128 else
 if 18≤op∧op≤21 then 256 else 0
theorem zaU {op:Int} (h:zaf op=true):zaq op=true:=by
 simp only [zaq,zaf,decide_eq_true_eq] at h ⊢;omega
def zh0 (used:Bool) (f at_:Int):Bool:=used&&decide (0≤f)&&decide (f < at_) || !used&&decide (f=0)
def zbH (used:Bool) (v lo hi:Int):Bool:=used&&(decide (v < lo)||decide (hi < v))
def zd2 (n:Nd) (at_:Int):Int :=
 if zcA n.op=false then 10 else
 if zh0 (zaq n.op) n.x at_=false∨zh0 (zaf n.op) n.y at_=false then 3 else
 if (!(zZ n.op||zJ n.op||zK n.op)&&decide (n.i≠0)||(!zK n.op&&decide (n.e≠0))||(!zN n.op&&decide (n.g≠0)))=true then 3 else
 if (zbH (zZ n.op) n.i 0 7||zbH (zJ n.op) n.i 0 3||zbH (zK n.op) n.i 0 7||zbH (zK n.op) n.e 0 7||zbH (zN n.op) n.g 1 15)=true then 2 else 0
def zf6:List Nd→Nat→Int
 | [],_=>0
 | n::r,k=>if zd2 n k≠0 then zd2 n k else zf6 r (k+1)
def zcx (f:List Nd):Int:=if f.length=0 then 3 else if 200 < f.length then 8 else zf6 f 0
def zaZ (f:List Nd):Prop := ∀ (k:Nat) n,f[k]? = some n→zd2 n k=0
theorem zkR : ∀ (f:List Nd) (k:Nat),zf6 f k=0 ↔ ∀ (j:Nat) n,f[j]? = some n→zd2 n (k+j:Nat)=0
 | [],k=>by simp [zf6]
 | n::r,k=>by
  unfold zf6
  constructor
  ·intro h
   split at h
   ·contradiction
   ·rename_i h0
    intro j m hj
    cases j with
    | zero=>simp at hj;subst hj;simpa using h0
    | succ j =>
     have:=(zkR r (k+1)).1 h j m (by simpa using hj)
     rwa [show k+1+j=k+(j+1) by omega] at this
  ·intro h
   have h0:=h 0 n (by simp)
   rw [if_neg (by simpa using h0)]
   refine (zkR r (k+1)).2 fun j m hj=>?_
   have:=h (j+1) m (by simpa using hj)
   rwa [show k+(j+1)=k+1+j by omega] at this
theorem zeW {f:List Nd} : zcx f=0↔0 < f.length∧f.length≤200∧zaZ f:=by
 unfold zcx zaZ
 have:=zkR f 0
 simp only [Nat.zero_add] at this
 by_cases h1:f.length=0
 ·rw [if_pos h1];omega
 ·rw [if_neg h1]
  by_cases h2:200 < f.length
  ·rw [if_pos h2];omega
  ·rw [if_neg h2,this]
   exact ⟨fun h=>⟨by omega,by omega,h⟩,fun h=>h.2.2⟩
theorem zp6 {n:Nd} {a:Int} (h:zd2 n a=0):zcA n.op=true∧(zaq n.op=true→0≤n.x∧n.x < a)∧(zaq n.op=false→n.x=0)∧(zaf n.op=true→0≤n.y∧n.y < a)∧(zaf n.op=false→n.y=0) ∧
  (zZ n.op=true→0≤n.i∧n.i≤7)∧(zJ n.op=true→0≤n.i∧n.i≤3)∧(zK n.op=true→0≤n.i∧n.i≤7∧0≤n.e∧n.e≤7)∧(zN n.op=true→1≤n.g∧n.g≤15) ∧
  (zZ n.op=false→zJ n.op=false→zK n.op=false→n.i=0)∧(zK n.op=false→n.e=0)∧(zN n.op=false→n.g=0):=by
 unfold zd2 at h
 split at h
 ·cases h
 ·rename_i h1
  split at h
  ·cases h
  ·rename_i h2
   split at h
   ·cases h
   ·rename_i h3
    split at h
    ·cases h
    ·rename_i h4
     generalize zaq n.op=a1 at *
     generalize zaf n.op=a2 at *
     generalize zZ n.op=a3 at *
     generalize zJ n.op=a4 at *
     generalize zK n.op=a5 at *
     generalize zN n.op=a6 at *
     refine ⟨by simpa using h1,?_⟩
     simp only [zh0,zbH] at h2 h3 h4
     cases a1<;>cases a2<;>cases a3<;>cases a4<;>cases a5<;>cases a6<;>simp at h2 h3 h4 ⊢ <;> omega
theorem zz6 {n:Nd} {a:Int} (h:zcA n.op=true∧(zaq n.op=true→0≤n.x∧n.x < a)∧(zaq n.op=false→n.x=0)∧(zaf n.op=true→0≤n.y∧n.y < a)∧(zaf n.op=false→n.y=0) ∧
  (zZ n.op=true→0≤n.i∧n.i≤7)∧(zJ n.op=true→0≤n.i∧n.i≤3)∧(zK n.op=true→0≤n.i∧n.i≤7∧0≤n.e∧n.e≤7)∧(zN n.op=true→1≤n.g∧n.g≤15) ∧
  (zZ n.op=false→zJ n.op=false→zK n.op=false→n.i=0)∧(zK n.op=false→n.e=0)∧(zN n.op=false→n.g=0)):zd2 n a=0:=by
 unfold zd2
 generalize zaq n.op=a1 at *
 generalize zaf n.op=a2 at *
 generalize zZ n.op=a3 at *
 generalize zJ n.op=a4 at *
 generalize zK n.op=a5 at *
 generalize zN n.op=a6 at *
 rw [if_neg (by simp [h.1]),if_neg,if_neg,if_neg]
 all_goals
  try simp only [zh0,zbH]
  cases a1<;>cases a2<;>cases a3<;>cases a4<;>cases a5<;>cases a6<;>simp at h ⊢ <;> omega
structure FSt where
 out:List Nd
 done:List (Nat×Nat)
def put (l:List Nd) (x:Nd):Nat×List Nd:=match l.idxOf? x with
 | some k=>(k,l)
 | none=>(l.length,l++[x])
def fin (f:List Nd):Nat→Nat→FSt→Nat×FSt
 | 0,_,s=>(0,s)
 | k+1,i,s=>match s.done.lookup i with
  | some r=>(r,s)
  | none =>
   let n:=f.getD i default
   let a:=cond (zaq n.op) (fin f k n.x.toNat s) (n.x.toNat,s)
   let b:=cond (zaf n.op) (fin f k n.y.toNat a.2) (n.y.toNat,a.2)
   let p:=put b.2.out { n with x:=a.1,y:=b.1 }
   (p.1,⟨p.2,b.2.done++[(i,p.1)]⟩)
def zcw (f:List Nd) (root:Nat):List Nd:=(fin f (root+1) root ⟨[],[]⟩).2.out
inductive Tm where
 | z (h:Hd)
 | u (h:Hd) (x:Tm)
 | b (h:Hd) (x y:Tm)
def tm (f:List Nd):Nat→Nat→Tm
 | 0,_ => .z default
 | k+1,i =>
  let n:=f.getD i default
  cond (zaf n.op) (.b n.hd (tm f k n.x.toNat) (tm f k n.y.toNat)) (cond (zaq n.op) (.u n.hd (tm f k n.x.toNat)) (.z n.hd))
def zaz (f:List Nd) (i:Nat):Tm:=tm f (i+1) i
theorem zgR {f:List Nd} (hf:zaZ f) {i:Nat} (hi:i < f.length):zd2 (f.getD i default) i=0:=hf i _ (by simp [hi])
theorem zbn {f:List Nd} (hf:zaZ f) {i:Nat} (hi:i < f.length) (h:zaq (f.getD i default).op=true):0≤(f.getD i default).x∧(f.getD i default).x.toNat < i:=by
 have:=(zp6 (zgR hf hi)).2.1 h;omega
theorem zey {f:List Nd} (hf:zaZ f) {i:Nat} (hi:i < f.length) (h:zaf (f.getD i default).op=true):0≤(f.getD i default).y∧(f.getD i default).y.toNat < i:=by
 have:=(zp6 (zgR hf hi)).2.2.2.1 h;omega
theorem zgW {f:List Nd} (hf:zaZ f) : ∀ (k k' i:Nat),i < f.length→i < k→i < k'→tm f k i=tm f k' i
 | 0,_,_,_,h,_=>by omega
 | _+1,0,_,_,_,h=>by omega
 | k+1,k'+1,i,hi,h1,h2=>by
  unfold tm
  simp only
  cases hy:zaf (f.getD i default).op with
  | true =>
   have e1:=zbn hf hi (zaU hy)
   have e2:=zey hf hi hy
   simp only [cond_true]
   rw [zgW hf k k' _ (by omega) (by omega) (by omega),zgW hf k k' (f.getD i default).y.toNat (by omega) (by omega) (by omega)]
  | false =>
   simp only [cond_false]
   cases hx:zaq (f.getD i default).op with
   | true =>
    have e1:=zbn hf hi hx
    simp only [cond_true]
    rw [zgW hf k k' _ (by omega) (by omega) (by omega)]
   | false=>rfl
theorem zgU {f:List Nd} (hf:zaZ f) {i:Nat} (hi:i < f.length):zaz f i=cond (zaf (f.getD i default).op) (.b (f.getD i default).hd (zaz f (f.getD i default).x.toNat) (zaz f (f.getD i default).y.toNat)) (cond (zaq (f.getD i default).op) (.u (f.getD i default).hd (zaz f (f.getD i default).x.toNat)) (.z (f.getD i default).hd)):=by
 unfold zaz
 rw [tm]
 try simp only
 cases hy:zaf (f.getD i default).op with
 | true =>
  have e1:=zbn hf hi (zaU hy)
  have e2:=zey hf hi hy
  simp only [cond_true]
  rw [zgW hf i _ _ (by omega) (by omega) (Nat.lt_succ_self _),zgW hf i _ (f.getD i default).y.toNat (by omega) (by omega) (Nat.lt_succ_self _)]
 | false =>
  simp only [cond_false]
  cases hx:zaq (f.getD i default).op with
  | true =>
   have e1:=zbn hf hi hx
   simp only [cond_true]
   rw [zgW hf i _ _ (by omega) (by omega) (Nat.lt_succ_self _)]
  | false=>rfl
theorem zh7 {f g:List Nd} (hf:zaZ f) : ∀ (k i:Nat),i < f.length→tm (f++g) k i=tm f k i
 | 0,_,_=>rfl
 | k+1,i,hi=>by
  unfold tm
  simp only
  have e:(f++g).getD i default=f.getD i default:=by simp [List.getD,List.getElem?_append_left hi]
  rw [e]
  cases hy:zaf (f.getD i default).op with
  | true =>
   have e1:=zbn hf hi (zaU hy)
   have e2:=zey hf hi hy
   simp only [cond_true]
   rw [zh7 hf k _ (by omega),zh7 hf k (f.getD i default).y.toNat (by omega)]
  | false =>
   simp only [cond_false]
   cases hx:zaq (f.getD i default).op with
   | true =>
    have e1:=zbn hf hi hx
    simp only [cond_true]
    rw [zh7 hf k _ (by omega)]
   | false=>rfl
theorem zbV {f g:List Nd} (hf:zaZ f) {i:Nat} (hi:i < f.length):zaz (f++g) i=zaz f i:=zh7 hf _ _ hi
def Tm.all (p:Hd→Prop):Tm→Prop
 | .z h=>p h
 | .u h x=>p h∧x.all p
 | .b h x y=>p h∧x.all p∧y.all p
def Tm.size:Tm→Nat
 | .z _=>1
 | .u _ x=>x.size+1
 | .b _ x y=>x.size+y.size+1
structure zm1 (h:Hd):Prop where
 op:zcA h.op=true
 fact:zZ h.op=true→0≤h.i∧h.i≤7
 agent:zJ h.op=true→0≤h.i∧h.i≤3
 event:zK h.op=true→0≤h.i∧h.i≤7∧0≤h.e∧h.e≤7
 group:zN h.op=true→1≤h.g∧h.g≤15
 i0:zZ h.op=false→zJ h.op=false→zK h.op=false→h.i=0
 e0:zK h.op=false→h.e=0
 g0:zN h.op=false→h.g=0
theorem zcC {n:Nd} {a:Int} : zd2 n a=0↔zm1 n.hd∧(zaq n.op=true→0≤n.x∧n.x < a)∧(zaq n.op=false→n.x=0)∧(zaf n.op=true→0≤n.y∧n.y < a)∧(zaf n.op=false→n.y=0):=by
 constructor
 ·intro h
  obtain ⟨h1,h2,h3,h4,h5,h6,h7,h8,h9,h10,h11,h12⟩:=zp6 h
  exact ⟨⟨h1,h6,h7,h8,h9,h10,h11,h12⟩,h2,h3,h4,h5⟩
 ·rintro ⟨⟨h1,h6,h7,h8,h9,h10,h11,h12⟩,h2,h3,h4,h5⟩
  exact zz6 ⟨h1,h2,h3,h4,h5,h6,h7,h8,h9,h10,h11,h12⟩
def Tm.ok:Tm→Prop
 | .z h=>zm1 h∧zaq h.op=false∧zaf h.op=false
 | .u h x=>zm1 h∧zaq h.op=true∧zaf h.op=false∧x.ok
 | .b h x y=>zm1 h∧zaq h.op=true∧zaf h.op=true∧x.ok∧y.ok
theorem zgV {f:List Nd} (hf:zaZ f) : ∀ (n i:Nat),i < n→i < f.length→(zaz f i).ok
 | 0,_,h,_=>by omega
 | n+1,i,h,hi=>by
  rw [zgU hf hi]
  have h0:=(zcC.1 (zgR hf hi)).1
  cases hy:zaf (f.getD i default).op with
  | true =>
   have e1:=zbn hf hi (zaU hy)
   have e2:=zey hf hi hy
   exact ⟨h0,zaU hy,hy,zgV hf n _ (by omega) (by omega),zgV hf n _ (by omega) (by omega)⟩
  | false =>
   cases hx:zaq (f.getD i default).op with
   | true =>
    have e1:=zbn hf hi hx
    exact ⟨h0,hx,hy,zgV hf n _ (by omega) (by omega)⟩
   | false=>exact ⟨h0,hx,hy⟩
def nd (h:Hd) (x y:Nat):Nd:=⟨h.op,h.i,h.e,h.g,x,y⟩
def zb:Tm→List Nd→Nat×List Nd
 | .z h,l=>put l (nd h 0 0)
 | .u h x,l=>put (zb x l).2 (nd h (zb x l).1 0)
 | .b h x y,l=>put (zb y (zb x l).2).2 (nd h (zb x l).1 (zb y (zb x l).2).1)
theorem z7 {l:List Nd} {x:Nd} {k:Nat} (h:l.idxOf? x=some k):put l x=(k,l):=by unfold put;rw [h]
theorem zbf {l:List Nd} {x:Nd} (h:l.idxOf? x=none):put l x=(l.length,l++[x]):=by unfold put;rw [h]
theorem zjN {l m:List Nd} {x:Nd} {k:Nat} (h:l.idxOf? x=some k):(l++m).idxOf? x=some k:=by
 simp only [List.idxOf?] at h ⊢
 rw [List.findIdx?_append,h];rfl
theorem zpT {l:List Nd} {x:Nd} {k:Nat} (h:l.idxOf? x=some k):l[k]? = some x:=by
 simp only [List.idxOf?] at h
 obtain ⟨h1,h2,h3⟩:=List.findIdx?_eq_some_iff_getElem.1 h
 simp at h2
 simp [h1,h2]
theorem zyq {l:List Nd} {x:Nd} (h:l.idxOf? x=none):(l++[x]).idxOf? x=some l.length:=by
 simp only [List.idxOf?] at h ⊢
 rw [List.findIdx?_append,h]
 simp
theorem za2 (l:List Nd) (x:Nd):(∃ m,(put l x).2=l++m)∧(put l x).2.idxOf? x=some (put l x).1:=by
 cases h:l.idxOf? x with
 | some k=>rw [z7 h];exact ⟨⟨[],by simp⟩,h⟩
 | none=>rw [zbf h];exact ⟨⟨[x],rfl⟩,zyq h⟩
theorem zbM : ∀ (t:Tm) (l:List Nd),∃ m,(zb t l).2=l++m
 | .z h,l=>(za2 _ _).1
 | .u h x,l=>by
  obtain ⟨m,hm⟩:=zbM x l
  obtain ⟨m',hm'⟩:=(za2 (zb x l).2 (nd h (zb x l).1 0)).1
  exact ⟨m++m',by rw [zb,hm',hm,List.append_assoc]⟩
 | .b h x y,l=>by
  obtain ⟨m,hm⟩:=zbM x l
  obtain ⟨m2,hm2⟩:=zbM y (zb x l).2
  obtain ⟨m',hm'⟩:=(za2 (zb y (zb x l).2).2 (nd h (zb x l).1 (zb y (zb x l).2).1)).1
  exact ⟨m++m2++m',by rw [zb,hm',hm2,hm,List.append_assoc,List.append_assoc,List.append_assoc]⟩
def zcP (t:Tm) (l:List Nd) (r:Nat):Prop:=zb t l=(r,l)
theorem zcP.mono : ∀ {t:Tm} {l:List Nd} {r:Nat} (m:List Nd),zcP t l r→zcP t (l++m) r
 | .z h,l,r,m,hh=>by
  unfold zcP zb at *
  cases hi:l.idxOf? (nd h 0 0) with
  | some k=>rw [z7 hi] at hh;cases hh;rw [z7 (zjN hi)]
  | none=>rw [zbf hi] at hh;have:=congrArg (fun p=>p.2.length) hh;simp at this
 | .u h x,l,r,m,hh=>by
  unfold zcP at *
  obtain ⟨a,ha⟩:=zbM x l
  obtain ⟨b,hb⟩:=(za2 (zb x l).2 (nd h (zb x l).1 0)).1
  have e:a=[]∧b=[]:=by
   have:(zb (.u h x) l).2=l++a++b:=by rw [zb,hb,ha]
   rw [hh] at this
   have:=congrArg List.length this
   simp only [List.length_append] at this
   exact ⟨List.length_eq_zero_iff.1 (by omega),List.length_eq_zero_iff.1 (by omega)⟩
  obtain ⟨rfl,rfl⟩:=e
  rw [List.append_nil] at ha
  have hx:zcP x l (zb x l).1:=Prod.ext rfl ha
  have hx':=zcP.mono m hx
  unfold zcP at hx'
  rw [zb,ha] at hh
  rw [zb,hx']
  cases hi:l.idxOf? (nd h (zb x l).1 0) with
  | some k=>rw [z7 hi] at hh;cases hh;exact z7 (zjN hi)
  | none=>rw [zbf hi] at hh;have:=congrArg (fun p=>p.2.length) hh;simp at this
 | .b h x y,l,r,m,hh=>by
  unfold zcP at *
  obtain ⟨a,ha⟩:=zbM x l
  obtain ⟨c,hc⟩:=zbM y (zb x l).2
  obtain ⟨b,hb⟩:=(za2 (zb y (zb x l).2).2 (nd h (zb x l).1 (zb y (zb x l).2).1)).1
  have e:a=[]∧c=[]∧b=[]:=by
   have:(zb (.b h x y) l).2=l++a++c++b:=by rw [zb,hb,hc,ha]
   rw [hh] at this
   have:=congrArg List.length this
   simp only [List.length_append] at this
   exact ⟨List.length_eq_zero_iff.1 (by omega),List.length_eq_zero_iff.1 (by omega),List.length_eq_zero_iff.1 (by omega)⟩
  obtain ⟨rfl,rfl,rfl⟩:=e
  rw [List.append_nil] at ha hc
  rw [ha] at hc
  have hx:zcP x l (zb x l).1:=Prod.ext rfl ha
  have hy:zcP y l (zb y l).1:=Prod.ext rfl hc
  have hx':=zcP.mono m hx
  have hy':=zcP.mono m hy
  unfold zcP at hx' hy'
  rw [zb,ha,hc] at hh
  rw [zb,hx']
  simp only
  rw [hy']
  cases hi:l.idxOf? (nd h (zb x l).1 (zb y l).1) with
  | some k=>rw [z7 hi] at hh;cases hh;exact z7 (zjN hi)
  | none=>rw [zbf hi] at hh;have:=congrArg (fun p=>p.2.length) hh;simp at this
theorem zjE : ∀ (t:Tm) (l:List Nd),zcP t (zb t l).2 (zb t l).1
 | .z h,l=>by
  unfold zcP zb
  exact z7 (za2 _ _).2
 | .u h x,l=>by
  obtain ⟨m,hm⟩:=(za2 (zb x l).2 (nd h (zb x l).1 0)).1
  have h1:=(zjE x l).mono m
  rw [← hm] at h1
  unfold zcP at *
  rw [zb,zb,h1]
  exact z7 (za2 _ _).2
 | .b h x y,l=>by
  obtain ⟨m,hm⟩:=(za2 (zb y (zb x l).2).2 (nd h (zb x l).1 (zb y (zb x l).2).1)).1
  obtain ⟨m2,hm2⟩:=zbM y (zb x l).2
  have h1:=((zjE x l).mono m2).mono m
  rw [← hm2] at h1
  have h2:=(zjE y (zb x l).2).mono m
  rw [← hm] at h1 h2
  unfold zcP at *
  rw [zb,zb,h1]
  simp only
  rw [h2]
  exact z7 (za2 _ _).2
theorem zi9 (l:List Nd) (x:Nd):(put l x).1 < (put l x).2.length:=by
 have:=zpT (za2 l x).2
 exact (List.getElem?_eq_some_iff.1 this).1
theorem zlN : ∀ (t:Tm) (l:List Nd),(zb t l).1 < (zb t l).2.length
 | .z _,_=>zi9 _ _
 | .u _ _,_=>zi9 _ _
 | .b _ _ _,_=>zi9 _ _
theorem znM {l:List Nd} {x:Nd} (hl:zaZ l) (h:zd2 x l.length=0):zaZ (put l x).2:=by
 cases hi:l.idxOf? x with
 | some k=>rw [z7 hi];exact hl
 | none =>
  rw [zbf hi]
  intro k n hk
  simp only [List.getElem?_append] at hk
  split at hk
  ·exact hl k n hk
  ·rename_i h1
   have:k=l.length:=by
    have:=(List.getElem?_eq_some_iff.1 hk).1;simp at this;omega
   subst this
   simp at hk;subst hk;exact h
theorem znN {l:List Nd} {x:Nd} (hl:zaZ l) (h:zd2 x l.length=0):(put l x).2.getD (put l x).1 default=x:=by
 have:=zpT (za2 l x).2
 simp [List.getD,this]
theorem zwJ {k:Nat} : ((k:Nat):Int).toNat=k:=by omega
theorem zbB : ∀ (t:Tm) (l:List Nd),t.ok→zaZ l→zaZ (zb t l).2∧zaz (zb t l).2 (zb t l).1=t
 | .z h,l,ht,hl=>by
  have hn:zd2 (nd h 0 0) l.length=0:=zcC.2 ⟨ht.1,fun e=>by have:=ht.2.1;simp [nd] at e;simp [this] at e,fun _=>rfl,fun e=>by have:=ht.2.2;simp [nd] at e;simp [this] at e,fun _=>rfl⟩
  have h1:=znM hl hn
  refine ⟨h1,?_⟩
  have h2:=zgU h1 (zi9 l (nd h 0 0))
  rw [znN hl hn] at h2
  rw [zb,h2]
  simp only [nd,ht.2.1,ht.2.2,cond_false,Nd.hd]
 | .u h x,l,ht,hl=>by
  obtain ⟨a1,a2⟩:=zbB x l ht.2.2.2 hl
  have a3:=zlN x l
  have hn:zd2 (nd h (zb x l).1 0) (zb x l).2.length=0:=zcC.2 ⟨ht.1,fun e=>⟨by simp [nd],by simp only [nd];omega⟩,fun e=>by have:=ht.2.1;simp [nd] at e;simp [this] at e,fun e=>by have:=ht.2.2.1;simp [nd] at e;simp [this] at e,fun _=>rfl⟩
  have h1:=znM a1 hn
  refine ⟨h1,?_⟩
  have h2:=zgU h1 (zi9 (zb x l).2 (nd h (zb x l).1 0))
  rw [znN a1 hn] at h2
  obtain ⟨m,hm⟩:=(za2 (zb x l).2 (nd h (zb x l).1 0)).1
  rw [zb,h2]
  simp only [nd,ht.2.1,ht.2.2.1,cond_false,cond_true,Nd.hd,zwJ]
  have h3:zaz (put (zb x l).2 (nd h (zb x l).1 0)).2 (zb x l).1=x:=by rw [hm,zbV a1 a3,a2]
  simp only [nd] at h3
  rw [h3]
 | .b h x y,l,ht,hl=>by
  obtain ⟨a1,a2⟩:=zbB x l ht.2.2.2.1 hl
  have a3:=zlN x l
  obtain ⟨b1,b2⟩:=zbB y (zb x l).2 ht.2.2.2.2 a1
  have b3:=zlN y (zb x l).2
  obtain ⟨m2,hm2⟩:=zbM y (zb x l).2
  have hn:zd2 (nd h (zb x l).1 (zb y (zb x l).2).1) (zb y (zb x l).2).2.length=0:=zcC.2 ⟨ht.1,fun e=>⟨by simp [nd],by simp only [nd];rw [hm2,List.length_append];omega⟩,
   fun e=>by have:=ht.2.1;simp [nd] at e;simp [this] at e,fun e=>⟨by simp [nd],by simp only [nd];omega⟩,fun e=>by have:=ht.2.2.1;simp [nd] at e;simp [this] at e⟩
  have h1:=znM b1 hn
  refine ⟨h1,?_⟩
  have h2:=zgU h1 (zi9 (zb y (zb x l).2).2 (nd h (zb x l).1 (zb y (zb x l).2).1))
  rw [znN b1 hn] at h2
  obtain ⟨m,hm⟩:=(za2 (zb y (zb x l).2).2 (nd h (zb x l).1 (zb y (zb x l).2).1)).1
  rw [zb,h2]
  simp only [nd,ht.2.1,ht.2.2.1,cond_false,cond_true,Nd.hd,zwJ]
  have h3:zaz (put (zb y (zb x l).2).2 (nd h (zb x l).1 (zb y (zb x l).2).1)).2 (zb x l).1=x:=by
   rw [hm,zbV b1 (by rw [hm2,List.length_append];omega),hm2,zbV a1 a3,a2]
  have h4:zaz (put (zb y (zb x l).2).2 (nd h (zb x l).1 (zb y (zb x l).2).1)).2 (zb y (zb x l).2).1=y:=by
   rw [hm,zbV b1 b3,b2]
  simp only [nd] at h3 h4
  rw [h3,h4]
theorem zp9 (p:Hd→Prop) (l:List Nd) (x:Nd):(∀ n∈(put l x).2,p n.hd)↔(∀ n∈l,p n.hd)∧p x.hd:=by
 cases hi:l.idxOf? x with
 | some k =>
  rw [z7 hi]
  have:=List.mem_of_getElem? (zpT hi)
  exact ⟨fun h=>⟨h,h x this⟩,fun h=>h.1⟩
 | none =>
  rw [zbf hi]
  simp only [List.mem_append,List.mem_singleton]
  exact ⟨fun h=>⟨fun n hn=>h n (.inl hn),h x (.inr rfl)⟩,fun h n hn=>hn.elim (h.1 n) (fun e=>e▸h.2)⟩
theorem zjD (p:Hd→Prop) : ∀ (t:Tm) (l:List Nd),(∀ n∈(zb t l).2,p n.hd)↔(∀ n∈l,p n.hd)∧t.all p
 | .z h,l=>zp9 p l _
 | .u h x,l=>by
  rw [zb,zp9,zjD p x l,Tm.all]
  exact ⟨fun ⟨⟨a,b⟩,c⟩=>⟨a,c,b⟩,fun ⟨a,c,b⟩=>⟨⟨a,b⟩,c⟩⟩
 | .b h x y,l=>by
  rw [zb,zp9,zjD p y _,zjD p x l,Tm.all]
  exact ⟨fun ⟨⟨⟨a,b⟩,d⟩,c⟩=>⟨a,c,b,d⟩,fun ⟨a,c,b,d⟩=>⟨⟨⟨a,b⟩,d⟩,c⟩⟩
theorem zjp : ∀ (t:Tm) (l:List Nd) (r:Nat),t.ok→zaZ l→l.length≤r→r < (zb t l).2.length→(zaz (zb t l).2 r).size≤t.size∧(r+1 < (zb t l).2.length→(zaz (zb t l).2 r).size < t.size)
 | .z h,l,r,ht,hl,h1,h2=>by
  obtain ⟨o1,o2⟩:=zbB (.z h) l ht hl
  have:(zb (.z h) l).1=r ∧ ¬ r+1 < (zb (.z h) l).2.length:=by
   unfold zb at h2 ⊢
   cases hi:l.idxOf? (nd h 0 0) with
   | some k=>rw [z7 hi] at h2;simp at h2;omega
   | none=>rw [zbf hi] at h2 ⊢;simp at h2 ⊢;omega
  rw [← this.1,o2]
  rw [this.1]
  exact ⟨Nat.le_refl _,fun h=>absurd h this.2⟩
 | .u h x,l,r,ht,hl,h1,h2=>by
  obtain ⟨o1,o2⟩:=zbB (.u h x) l ht hl
  obtain ⟨a1,a2⟩:=zbB x l ht.2.2.2 hl
  have ih:=zjp x l r ht.2.2.2 hl h1
  by_cases hr:r < (zb x l).2.length
  ·obtain ⟨m,hm⟩:=(za2 (zb x l).2 (nd h (zb x l).1 0)).1
   have e:zaz (zb (.u h x) l).2 r=zaz (zb x l).2 r:=by rw [zb,hm,zbV a1 hr]
   rw [e]
   have:=(ih hr).1
   simp only [Tm.size]
   omega
  ·have:(zb (.u h x) l).1=r ∧ ¬ r+1 < (zb (.u h x) l).2.length:=by
    unfold zb at h2 ⊢
    cases hi:(zb x l).2.idxOf? (nd h (zb x l).1 0) with
    | some k=>rw [z7 hi] at h2;simp at h2;omega
    | none=>rw [zbf hi] at h2 ⊢;simp at h2 ⊢;omega
   rw [← this.1,o2,this.1]
   exact ⟨Nat.le_refl _,fun h=>absurd h this.2⟩
 | .b h x y,l,r,ht,hl,h1,h2=>by
  obtain ⟨o1,o2⟩:=zbB (.b h x y) l ht hl
  obtain ⟨a1,a2⟩:=zbB x l ht.2.2.2.1 hl
  obtain ⟨b1,b2⟩:=zbB y (zb x l).2 ht.2.2.2.2 a1
  have ih:=zjp x l r ht.2.2.2.1 hl h1
  obtain ⟨m2,hm2⟩:=zbM y (zb x l).2
  obtain ⟨m,hm⟩:=(za2 (zb y (zb x l).2).2 (nd h (zb x l).1 (zb y (zb x l).2).1)).1
  by_cases hr:r < (zb x l).2.length
  ·have e:zaz (zb (.b h x y) l).2 r=zaz (zb x l).2 r:=by
    rw [zb,hm,zbV b1 (by rw [hm2,List.length_append];omega),hm2,zbV a1 hr]
   rw [e]
   have:=(ih hr).1
   simp only [Tm.size]
   omega
  ·have ih2:=zjp y (zb x l).2 r ht.2.2.2.2 a1 (by omega)
   by_cases hr2:r < (zb y (zb x l).2).2.length
   ·have e:zaz (zb (.b h x y) l).2 r=zaz (zb y (zb x l).2).2 r:=by
     rw [zb,hm,zbV b1 hr2]
    rw [e]
    have:=(ih2 hr2).1
    simp only [Tm.size]
    omega
   ·have:(zb (.b h x y) l).1=r ∧ ¬ r+1 < (zb (.b h x y) l).2.length:=by
     unfold zb at h2 ⊢
     cases hi:(zb y (zb x l).2).2.idxOf? (nd h (zb x l).1 (zb y (zb x l).2).1) with
     | some k=>rw [z7 hi] at h2;simp at h2;omega
     | none=>rw [zbf hi] at h2 ⊢;simp at h2 ⊢;omega
    rw [← this.1,o2,this.1]
    exact ⟨Nat.le_refl _,fun h=>absurd h this.2⟩
theorem zjY:zaZ []:=fun k n h=>by simp at h
theorem zqu {t:Tm} (ht:t.ok):(zb t []).1+1=(zb t []).2.length:=by
 have h1:=zlN t []
 have h2:=(zbB t [] ht zjY).2
 by_cases h:(zb t []).1+1 < (zb t []).2.length
 ·have:=(zjp t [] (zb t []).1 ht zjY (by simp) h1).2 h
  rw [h2] at this;omega
 ·omega
end Go.Ab
namespace Go.Ab
structure zjl (f:List Nd) (s:FSt):Prop where
 has : ∀ i r,s.done.lookup i=some r→zcP (zaz f i) s.out r
 rng : ∀ p∈s.done,p.1 < f.length
 keys:(s.done.map Prod.fst).Nodup
 len:s.out.length≤s.done.length
theorem ztF {d:List (Nat×Nat)} {i:Nat} (h : ∀ p∈d,p.1≠i):d.lookup i=none:=by
 induction d with
 | nil=>rfl
 | cons p d ih =>
  obtain ⟨a,b⟩:=p
  have h0:=h (a,b) (by simp)
  have:(i==a)=false:=by simpa using fun e=>h0 e.symm
  simp only [List.lookup,this]
  exact ih fun q hq=>h q (by simp [hq])
theorem zo1 {d:List (Nat×Nat)} {i:Nat} (h:d.lookup i=none) : ∀ p∈d,p.1≠i:=by
 induction d with
 | nil=>simp
 | cons p d ih =>
  obtain ⟨a,b⟩:=p
  simp only [List.lookup] at h
  split at h
  ·cases h
  ·rename_i e
   intro q hq
   rcases List.mem_cons.1 hq with rfl|hq
   ·intro h';subst h';simp at e
   ·exact ih h q hq
theorem zrk {d:List (Nat×Nat)} {i j r q:Nat} (h:(d++[(i,r)]).lookup j=some q):d.lookup j=some q∨(j=i∧q=r∧d.lookup j=none):=by
 induction d with
 | nil =>
  simp only [List.nil_append,List.lookup] at h
  split at h
  ·rename_i e;simp at e;cases h;exact .inr ⟨e,rfl,rfl⟩
  ·cases h
 | cons p d ih =>
  obtain ⟨a,b⟩:=p
  simp only [List.cons_append,List.lookup] at h ⊢
  split at h
  ·exact .inl h
  ·exact ih h
theorem zhg {f:List Nd} (hf:zaZ f) : ∀ (k i:Nat) (s:FSt),i < k→i < f.length→zjl f s →
  zjl f (fin f k i s).2∧(fin f k i s).1=(zb (zaz f i) s.out).1∧(fin f k i s).2.out=(zb (zaz f i) s.out).2∧(∃ l,(fin f k i s).2.done=s.done++l ∧ ∀ p∈l,p.1≤i)
 | 0,i,s,h,_,_=>by omega
 | k+1,i,s,hk,hi,hs=>by
  unfold fin
  cases hd:s.done.lookup i with
  | some r =>
   have:=hs.has i r hd
   unfold zcP at this
   refine ⟨hs,?_,?_,[],by simp,by simp⟩
   ·rw [this]
   ·rw [this]
  | none =>
   simp only
   have key : ∀ (a b:Nat) (s2:FSt),zjl f s2→(∃ l,s2.done=s.done++l ∧ ∀ p∈l,p.1 < i)→zb (zaz f i) s.out=put s2.out (nd (f.getD i default).hd a b) →
     (∃ m,s2.out=s.out++m) →
     zjl f ⟨(put s2.out (nd (f.getD i default).hd a b)).2,s2.done++[(i,(put s2.out (nd (f.getD i default).hd a b)).1)]⟩∧(put s2.out (nd (f.getD i default).hd a b)).1=(zb (zaz f i) s.out).1 ∧
     (put s2.out (nd (f.getD i default).hd a b)).2=(zb (zaz f i) s.out).2∧(∃ l,s2.done++[(i,(put s2.out (nd (f.getD i default).hd a b)).1)]=s.done++l ∧ ∀ p∈l,p.1≤i):=by
    intro a b s2 h2 hl hT hm
    obtain ⟨l,hl1,hl2⟩:=hl
    obtain ⟨m,hm⟩:=(za2 s2.out (nd (f.getD i default).hd a b)).1
    have hni : ∀ p∈s2.done,p.1≠i:=by
     intro p hp
     rw [hl1,List.mem_append] at hp
     rcases hp with hp|hp
     ·exact zo1 hd p hp
     ·have:=hl2 p hp;omega
    refine ⟨⟨fun j r hj=>?_,fun p hp=>?_,?_,?_⟩,by rw [hT],by rw [hT],l++[(i,(put s2.out (nd (f.getD i default).hd a b)).1)],by rw [hl1,List.append_assoc],fun p hp=>?_⟩
    ·rcases zrk hj with h|⟨rfl,rfl,-⟩
     ·have:=(h2.has j r h).mono m
      rw [← hm] at this;exact this
     ·rw [← hT];exact zjE _ _
    ·rcases List.mem_append.1 hp with hp|hp
     ·exact h2.rng p hp
     ·simp at hp;subst hp;exact hi
    ·simp only [List.map_append,List.map_cons,List.map_nil]
     rw [List.nodup_append]
     refine ⟨h2.keys,by simp,fun x hx y hy=>?_⟩
     simp at hy;subst hy
     obtain ⟨p,hp,rfl⟩:=List.mem_map.1 hx
     exact hni p hp
    ·have:=h2.len
     simp only [List.length_append,List.length_cons,List.length_nil]
     cases hx:s2.out.idxOf? (nd (f.getD i default).hd a b) with
     | some k=>rw [z7 hx];simp only;omega
     | none=>rw [zbf hx];simp only [List.length_append,List.length_cons,List.length_nil];omega
    ·rcases List.mem_append.1 hp with hp|hp
     ·have:=hl2 p hp;omega
     ·simp at hp;subst hp;exact Nat.le_refl _
   have hT:=zgU hf hi
   have hn:=zcC.1 (zgR hf hi)
   cases hy:zaf (f.getD i default).op with
   | true =>
    have hx:=zaU hy
    have e1:=zbn hf hi hx
    have e2:=zey hf hi hy
    simp only [hy,hx,cond_true] at hT ⊢
    obtain ⟨a1,a2,a3,la,a4,a5⟩:=zhg hf k (f.getD i default).x.toNat s (by omega) (by omega) hs
    obtain ⟨b1,b2,b3,lb,b4,b5⟩:=zhg hf k (f.getD i default).y.toNat (fin f k (f.getD i default).x.toNat s).2 (by omega) (by omega) a1
    obtain ⟨m1,hm1⟩:=zbM (zaz f (f.getD i default).x.toNat) s.out
    obtain ⟨m2,hm2⟩:=zbM (zaz f (f.getD i default).y.toNat) (fin f k (f.getD i default).x.toNat s).2.out
    refine key _ _ _ b1 ⟨la++lb,by rw [b4,a4,List.append_assoc],fun p hp=>?_⟩ ?_ ⟨m1++m2,by rw [b3,hm2,a3,hm1,List.append_assoc]⟩
    ·rcases List.mem_append.1 hp with hp|hp
     ·have:=a5 p hp;omega
     ·have:=b5 p hp;omega
    ·rw [hT,zb,b3,b2,a3,a2]
   | false =>
    cases hx:zaq (f.getD i default).op with
    | true =>
     have e1:=zbn hf hi hx
     simp only [hy,hx,cond_true,cond_false] at hT ⊢
     obtain ⟨a1,a2,a3,la,a4,a5⟩:=zhg hf k (f.getD i default).x.toNat s (by omega) (by omega) hs
     obtain ⟨m1,hm1⟩:=zbM (zaz f (f.getD i default).x.toNat) s.out
     have e0:(f.getD i default).y.toNat=0:=by rw [hn.2.2.2.2 hy];rfl
     refine key _ _ _ a1 ⟨la,a4,fun p hp=>by have:=a5 p hp;omega⟩ ?_ ⟨m1,by rw [a3,hm1]⟩
     rw [hT,zb,a2,a3,e0]
    | false =>
     simp only [hy,hx,cond_true,cond_false] at hT ⊢
     have e0:(f.getD i default).y.toNat=0:=by rw [hn.2.2.2.2 hy];rfl
     have e1:(f.getD i default).x.toNat=0:=by rw [hn.2.2.1 hx];rfl
     refine key _ _ _ hs ⟨[],by simp,by simp⟩ ?_ ⟨[],by simp⟩
     rw [hT,zb,e0,e1]
theorem zfD {f:List Nd} (hf:zaZ f) : ∀ (k k' i:Nat) (s:FSt),i < k→i < k'→i < f.length→fin f k i s=fin f k' i s
 | 0,_,_,_,h,_,_=>by omega
 | _+1,0,_,_,_,h,_=>by omega
 | k+1,k'+1,i,s,h1,h2,hi=>by
  unfold fin
  cases hd:s.done.lookup i with
  | some r=>rfl
  | none =>
   simp only
   cases hy:zaf (f.getD i default).op with
   | true =>
    have hx:=zaU hy
    have e1:=zbn hf hi hx
    have e2:=zey hf hi hy
    simp only [hx,cond_true]
    rw [zfD hf k k' (f.getD i default).x.toNat s (by omega) (by omega) (by omega),zfD hf k k' (f.getD i default).y.toNat _ (by omega) (by omega) (by omega)]
   | false =>
    cases hx:zaq (f.getD i default).op with
    | true =>
     have e1:=zbn hf hi hx
     simp only [cond_true,cond_false]
     rw [zfD hf k k' (f.getD i default).x.toNat s (by omega) (by omega) (by omega)]
    | false=>rfl
theorem zt8 (f:List Nd):zjl f ⟨[],[]⟩:=⟨fun i r h=>by simp at h,by simp,by simp,by simp⟩
theorem zqA {l:List Nat} {n:Nat} (h:l.Nodup) (hn : ∀ x∈l,x < n):l.length≤n:=by
 have h2:l ⊆ List.range n:=fun x hx=>List.mem_range.2 (hn x hx)
 have:=List.Nodup.length_le_of_subset h h2
 simpa using this
structure zux (t:Tm) (c:List Nd):Prop where
 ok:zaZ c
 pos:0 < c.length
 tree:zaz c (c.length - 1)=t
 all : ∀ p:Hd→Prop,(∀ n∈c,p n.hd)↔t.all p
theorem zAK {t:Tm} (ht:t.ok):zux t (zb t []).2:=by
 have h1:=zqu ht
 obtain ⟨h2,h3⟩:=zbB t [] ht zjY
 refine ⟨h2,by omega,by rw [← h1,Nat.add_sub_cancel];exact h3,fun p=>?_⟩
 rw [zjD p t []];simp
theorem zmB {f:List Nd} (hf:zaZ f) {i:Nat} (hi:i < f.length):zcw f i=(zb (zaz f i) []).2∧(zcw f i).length≤f.length∧(fin f (i+1) i ⟨[],[]⟩).1+1=(zcw f i).length:=by
 obtain ⟨a1,a2,a3,a4⟩:=zhg hf (i+1) i ⟨[],[]⟩ (by omega) hi (zt8 f)
 refine ⟨a3,?_,?_⟩
 ·have h1:=a1.len
  have h2:=zqA a1.keys (n:=f.length) (fun x hx=>by obtain ⟨p,hp,rfl⟩:=List.mem_map.1 hx;exact a1.rng p hp)
  rw [List.length_map] at h2
  unfold zcw;omega
 ·unfold zcw
  rw [a2,a3]
  exact zqu (zgV hf (i+1) i (by omega) hi)
theorem zpJ {f:List Nd} (hf:zaZ f) {i:Nat} (hi:i < f.length):zux (zaz f i) (zcw f i):=by
 rw [(zmB hf hi).1];exact zAK (zgV hf (i+1) i (by omega) hi)
def zcF {β:Type} (v:Hd→β→β→β) (d:β):List Nd→List β→List β
 | [],acc=>acc
 | n::r,acc=>zcF v d r (acc++[v n.hd (acc.getD n.x.toNat d) (acc.getD n.y.toNat d)])
def ev {β:Type} (v:Hd→β→β→β) (d:β):Tm→β
 | .z h=>v h d d
 | .u h x=>v h (ev v d x) d
 | .b h x y=>v h (ev v d x) (ev v d y)
structure zAE {β:Type} (v:Hd→β→β→β):Prop where
 x : ∀ h a b c,zaq h.op=false→v h a c=v h b c
 y : ∀ h a b c,zaf h.op=false→v h c a=v h c b
theorem zhv {β:Type} (v:Hd→β→β→β) (d:β) : ∀ (l:List Nd) (acc:List β),(zcF v d l acc).length=acc.length+l.length
 | [],acc=>by simp [zcF]
 | n::r,acc=>by rw [zcF,zhv v d r];simp;omega
theorem zuq {β:Type} {v:Hd→β→β→β} {d:β} (hv:zAE v) {f:List Nd} (hf:zaZ f) : ∀ (l:List Nd) (acc:List β),f.drop acc.length=l→acc.length≤f.length→(∀ i,i < acc.length→acc.getD i d=ev v d (zaz f i)) →
  ∀ i,i < f.length→(zcF v d l acc).getD i d=ev v d (zaz f i)
 | [],acc,h1,h2,h3,i,hi=>by
  have:acc.length=f.length:=by
   have:=congrArg List.length h1;simp at this;omega
  exact h3 i (by omega)
 | n::r,acc,h1,h2,h3,i,hi=>by
  have hlt:acc.length < f.length:=by
   have:=congrArg List.length h1;simp at this;omega
  have hn:f.getD acc.length default=n:=by
   have:=congrArg (fun l=>l[0]?) h1
   simp at this
   simp [List.getD,this]
  rw [zcF]
  refine zuq hv hf r _ ?_ (by simp;omega) (fun j hj=>?_) i hi
  ·simp only [List.length_append,List.length_cons,List.length_nil]
   have:=congrArg List.tail h1
   simpa using this
  ·by_cases hj2:j < acc.length
   ·rw [show (acc++[v n.hd (acc.getD n.x.toNat d) (acc.getD n.y.toNat d)]).getD j d=acc.getD j d by simp [List.getD,List.getElem?_append_left hj2]]
    exact h3 j hj2
   ·simp at hj
    have e:j=acc.length:=by omega
    subst e
    rw [show (acc++[v n.hd (acc.getD n.x.toNat d) (acc.getD n.y.toNat d)]).getD acc.length d=v n.hd (acc.getD n.x.toNat d) (acc.getD n.y.toNat d) by simp [List.getD]]
    rw [zgU hf hlt,hn]
    cases hy:zaf n.op with
    | true =>
     have hx:=zaU hy
     have e1:=zbn hf hlt (by rw [hn];exact hx)
     have e2:=zey hf hlt (by rw [hn];exact hy)
     rw [hn] at e1 e2
     simp only [cond_true,ev]
     rw [h3 _ e1.2,h3 _ e2.2]
    | false =>
     cases hx:zaq n.op with
     | true =>
      have e1:=zbn hf hlt (by rw [hn];exact hx)
      rw [hn] at e1
      simp only [cond_true,cond_false,ev]
      rw [h3 _ e1.2]
      exact hv.y _ _ _ _ hy
     | false =>
      simp only [cond_false,ev]
      rw [hv.x _ _ d _ hx,hv.y _ _ d _ hy]
end Go.Ab
namespace Go.Ab
def zd4 (R:z8) (a:Nat) (w u:Nat):Prop := ∃ r,R[a]? = some r∧r w u=true
def zht (n:Nat) (R:z8) (g:Nat) (w u:Nat):Prop:=u < n ∧ ∃ a,g.testBit a=true∧zd4 R a w u
inductive CPt (S:Nat→Nat→Prop) (c:Nat→Prop):Nat→Nat→Prop where
 | one {v u:Nat} : S v u→c u→CPt S c v u
 | more {v x u:Nat} : CPt S c v x→S x u→c u→CPt S c v u
def znT (n:Nat) (R:z8) (fc:Nat→Nat→Prop) (h:Hd) (X Y:Nat→Prop) (w:Nat):Prop :=
 if h.op=1 then True else if h.op=3 then fc h.i.toNat w else if h.op=4 then ¬X w else if h.op=5 then X w∧Y w else if h.op=6 then X w∨Y w else if h.op=7 then (X w→Y w) else if h.op=8 then (X w↔Y w) else
 if h.op=9 then ∀ u,u < n→zd4 R h.i.toNat w u→X u else if h.op=10 then ∃ u,u < n∧zd4 R h.i.toNat w u∧X u else if h.op=11 then ∀ u,zht n R h.g.toNat w u→X u else
 if h.op=12 then ∀ u,u < n→(∀ a,h.g.toNat.testBit a=true→zd4 R a w u)→X u else if h.op=13 then ∀ u,CPt (zht n R h.g.toNat) X w u→Y u else False
section
variable {n n':Nat} {R R':z8} {fa fb:Nat→Int} {Z:Nat→Nat→Prop} (B:zdv n n' R R' fa fb Z)
include B
theorem zfp {a v v' u:Nat} (hz:Z v v') (hu:u < n) (h:zd4 R a v u) : ∃ u',u' < n'∧zd4 R' a v' u'∧Z u u':=by
 obtain ⟨r,hr,h⟩:=h
 obtain ⟨r',hr'⟩:=zlZ B.len hr
 obtain ⟨u',h1,h2,h3⟩:=B.forth hr hr' hz hu h
 exact ⟨u',h1,⟨r',hr',h2⟩,h3⟩
theorem zgL {g v v' u:Nat} (hz:Z v v') (h:zht n R g v u) : ∃ u',zht n' R' g v' u'∧Z u u':=by
 obtain ⟨hu,a,ha,h⟩:=h
 obtain ⟨u',h1,h2,h3⟩:=zfp B hz hu h
 exact ⟨u',⟨h1,a,ha,h2⟩,h3⟩
theorem zqo {g:Nat} {X X':Nat→Prop} (hX : ∀ v v',Z v v'→(X v↔X' v')) {v u:Nat} (h:CPt (zht n R g) X v u) : ∀ {v'},Z v v' → ∃ u',CPt (zht n' R' g) X' v' u'∧Z u u':=by
 induction h with
 | one h1 h2 =>
  intro v' hz
  obtain ⟨u',h3,h4⟩:=zgL B hz h1
  exact ⟨u',.one h3 ((hX _ _ h4).1 h2),h4⟩
 | more _ h1 h2 ih =>
  intro v' hz
  obtain ⟨x',h3,h4⟩:=ih hz
  obtain ⟨u',h5,h6⟩:=zgL B h4 h1
  exact ⟨u',.more h3 h5 ((hX _ _ h6).1 h2),h6⟩
theorem zqd {fc fc':Nat→Nat→Prop} (hf : ∀ i v v',Z v v'→(fc i v↔fc' i v')) {h:Hd} (h12:h.op≠12) {X X' Y Y':Nat→Prop} (hX : ∀ v v',Z v v'→(X v↔X' v')) (hY : ∀ v v',Z v v'→(Y v↔Y' v')) {v v':Nat} (hz:Z v v') :
  znT n R fc h X Y v↔znT n' R' fc' h X' Y' v':=by
 have Bs:=B.symm
 have hXs : ∀ v' v,Z v v'→(X' v'↔X v):=fun v' v h=>(hX v v' h).symm
 unfold znT
 by_cases h1:h.op=1
 ·rw [if_pos h1,if_pos h1]
 rw [if_neg h1,if_neg h1]
 by_cases h3:h.op=3
 ·rw [if_pos h3,if_pos h3];exact hf _ _ _ hz
 rw [if_neg h3,if_neg h3]
 by_cases h4:h.op=4
 ·rw [if_pos h4,if_pos h4,hX _ _ hz]
 rw [if_neg h4,if_neg h4]
 by_cases h5:h.op=5
 ·rw [if_pos h5,if_pos h5,hX _ _ hz,hY _ _ hz]
 rw [if_neg h5,if_neg h5]
 by_cases h6:h.op=6
 ·rw [if_pos h6,if_pos h6,hX _ _ hz,hY _ _ hz]
 rw [if_neg h6,if_neg h6]
 by_cases h7:h.op=7
 ·rw [if_pos h7,if_pos h7,hX _ _ hz,hY _ _ hz]
 rw [if_neg h7,if_neg h7]
 by_cases h8:h.op=8
 ·rw [if_pos h8,if_pos h8,hX _ _ hz,hY _ _ hz]
 rw [if_neg h8,if_neg h8]
 by_cases h9:h.op=9
 ·rw [if_pos h9,if_pos h9]
  constructor
  ·intro H u' hu hr
   obtain ⟨u,a,b,c⟩:=zfp Bs hz hu hr
   exact (hX u u' c).1 (H u a b)
  ·intro H u hu hr
   obtain ⟨u',a,b,c⟩:=zfp B hz hu hr
   exact (hX u u' c).2 (H u' a b)
 rw [if_neg h9,if_neg h9]
 by_cases h10:h.op=10
 ·rw [if_pos h10,if_pos h10]
  constructor
  ·rintro ⟨u,hu,hr,hx⟩
   obtain ⟨u',a,b,c⟩:=zfp B hz hu hr
   exact ⟨u',a,b,(hX u u' c).1 hx⟩
  ·rintro ⟨u',hu,hr,hx⟩
   obtain ⟨u,a,b,c⟩:=zfp Bs hz hu hr
   exact ⟨u,a,b,(hX u u' c).2 hx⟩
 rw [if_neg h10,if_neg h10]
 by_cases h11:h.op=11
 ·rw [if_pos h11,if_pos h11]
  constructor
  ·intro H u' hr
   obtain ⟨u,b,c⟩:=zgL Bs hz hr
   exact (hX u u' c).1 (H u b)
  ·intro H u hr
   obtain ⟨u',b,c⟩:=zgL B hz hr
   exact (hX u u' c).2 (H u' b)
 rw [if_neg h11,if_neg h11,if_neg h12,if_neg h12]
 by_cases h13:h.op=13
 ·rw [if_pos h13,if_pos h13]
  constructor
  ·intro H u' hr
   obtain ⟨u,b,c⟩:=zqo Bs hXs hr hz
   exact (hY u u' c).1 (H u b)
  ·intro H u hr
   obtain ⟨u',b,c⟩:=zqo B hX hr hz
   exact (hY u u' c).2 (H u' b)
 rw [if_neg h13,if_neg h13]
theorem zl0 {fc fc':Nat→Nat→Prop} (hf : ∀ i v v',Z v v'→(fc i v↔fc' i v')) : ∀ (t:Tm),t.all (fun h=>h.op≠12) → ∀ v v',Z v v'→(ev (znT n R fc) (fun _=>False) t v↔ev (znT n' R' fc') (fun _=>False) t v')
 | .z h,h1=>fun v v' hz=>zqd B hf h1 (fun _ _ _=>Iff.rfl) (fun _ _ _=>Iff.rfl) hz
 | .u h x,h1=>fun v v' hz=>zqd B hf h1.1 (zl0 hf x h1.2) (fun _ _ _=>Iff.rfl) hz
 | .b h x y,h1=>fun v v' hz=>zqd B hf h1.1 (zl0 hf x h1.2.1) (zl0 hf y h1.2.2) hz
end
end Go.Ab
namespace Go.Ab
open Go Go.Proofs
set_option maxRecDepth 10000
set_option maxHeartbeats 4000000
variable {T:Nat→Obj→Prop}
def zeI (r:List (BitVec 64)) (s:BitVec 64):BitVec 64:=zbc (fun w=>decide (r.getD w 0#64 &&& ~~~s=0#64)) r.length
theorem zgd {r:List (BitVec 64)} (s:BitVec 64) (hc0:zae r=0):Fn Tryz.prog T ziC [.d (dU r),.d (.u64 s)] [] (.d (.u64 (zeI r s))) []:=by
 have hl:=(zbv.1 hc0).1
 have crc:=zmL (T:=T) r
 rw [hc0] at crc
 refine zf zu zp0 (by show 2≤30;decide) ?_
 (repeat' ((conv=>whnf);first|refine vA ?_|refine vJ fun hg=>?_|refine vT ?_));all_goals try conv=>whnf
 refine zS.data (crc) (by (repeat refine ⟨⟨rfl,rfl⟩,?_⟩);rfl) rfl ?_
 (repeat' ((conv=>whnf);first|refine vA ?_|refine vH ?_|refine vJ fun hg=>?_|refine vT ?_));all_goals try conv=>whnf
 refine zaw (fun ((k,o):Nat×BitVec 64)=>[(0,.d (dU r)),(1,.d (.u64 (s))),(5,.d (.u64 (o))),(13,.d (.int .i64 ((r.map D.u64).length:Int))),(14,.d (.int .i64 ((k:Int))))]) (fun ((k,o):Nat×BitVec 64)=>k≤r.length∧o=zbc (fun w=>decide (r.getD w 0#64 &&& ~~~s=0#64)) k) (fun ((k,o):Nat×BitVec 64)=>r.length - k) ((0,0#64)) (⟨by omega,rfl⟩) (by (repeat' first|exact trivial|exact rfl|refine And.intro ?_ ?_)) ?_
 rintro ⟨k,o⟩ ⟨hk,ho⟩
 (repeat' ((conv=>whnf);first|refine vA ?_|(refine vF ?_ ?_<;>intro hc<;>try simp only [vL] at hc)|refine vT ?_|(refine vQ ?_ fun x hx=>?_;·omega)|((first|refine vO ?_ ?_|refine vP ?_ ?_);·omega)|refine vY ?_));all_goals try conv=>whnf
 ·refine ⟨(k+1,_),[],[],?_,?_,by (refine ⟨rfl,rfl,rfl,?_,?_⟩;repeat' first|exact trivial|exact rfl|refine And.intro ?_ ?_)⟩
  ·refine ⟨by (omega),?_⟩
   have hrk:r.getD k 0#64=x:=by simp [List.getD,hx]
   rw [zbc,if_pos (decide_eq_true (by rw [hrk];exact hc)),← ho];rfl
  ·((simp only [vM] at *;omega))
 ·refine ⟨(k+1,o),[],[],?_,?_,by (refine ⟨rfl,rfl,rfl,?_,?_⟩;repeat' first|exact trivial|exact rfl|refine And.intro ?_ ?_)⟩
  ·refine ⟨by (omega),?_⟩
   have hrk:r.getD k 0#64=x:=by simp [List.getD,hx]
   rw [zbc,if_neg (by rw [hrk,decide_eq_true_eq];exact hc),← ho]
  ·((simp only [vM] at *;omega))
 ·obtain rfl:k=r.length:=by omega
  rw [ho];rfl
def znj (r:List (BitVec 64)) (s:BitVec 64):BitVec 64:=zaQ r.length &&& ~~~(zeI r (~~~s))
theorem zrd {r:List (BitVec 64)} (s:BitVec 64) (hc0:zae r=0):Fn Tryz.prog T zf9 [.d (dU r),.d (.u64 s)] [] (.d (.u64 (znj r s))) []:=by
 have crc:=zmL (T:=T) r
 rw [hc0] at crc
 have cra:=zhW (T:=T) ((r.map D.u64).length:Int) (by omega)
 have crb:=zgd (T:=T) (r:=r) (~~~s) hc0
 refine zf zu zld (by show 2≤18;decide) ?_
 (repeat' ((conv=>whnf);first|refine vA ?_|refine vJ fun hg=>?_|refine vT ?_));all_goals try conv=>whnf
 refine zS.data (crc) (by (repeat refine ⟨⟨rfl,rfl⟩,?_⟩);rfl) rfl ?_
 (repeat' ((conv=>whnf);first|refine vH ?_|refine vJ fun hg=>?_|refine vT ?_|refine vY ?_|refine yD cra ⟨⟨rfl,rfl⟩,rfl⟩ rfl ?_|refine yD crb ⟨⟨rfl,rfl⟩,⟨rfl,rfl⟩,rfl⟩ rfl ?_));all_goals try conv=>whnf
 rw [znj,List.length_map]
def zxG (r:List (BitVec 64)) (c s:BitVec 64) (w:Nat):Prop := ∀ u,CPt (fun a b=>rb r a b=true) (fun u=>c.getLsbD u=true) w u→s.getLsbD u=true
noncomputable def zng (r:List (BitVec 64)) (c s:BitVec 64):BitVec 64:=zbc (fun w => @decide (zxG r c s w) (Classical.propDecidable _)) r.length
theorem CPt.pre {S:Nat→Nat→Prop} {c:Nat→Prop} {w u v:Nat} (h1:S w u) (h2:c u) (h:CPt S c u v):CPt S c w v:=by
 induction h with
 | one a b=>exact .more (.one h1 h2) a b
 | more _ a b ih=>exact .more ih a b
theorem zm6 {r:List (BitVec 64)} {s:BitVec 64} (hl:r.length≤64) {w:Nat} : (zeI r s).getLsbD w=true↔w < r.length ∧ ∀ u,rb r w u=true→s.getLsbD u=true:=by
 unfold zeI
 rw [zbU hl,decide_eq_true_eq,ztd];rfl
def zid (r:List (BitVec 64)) (c s o:BitVec 64):BitVec 64:=zeI r ((zaQ r.length &&& ~~~c)|||(s&&&o))
theorem zeJ {r:List (BitVec 64)} {c s o:BitVec 64} (hc0:zae r=0) {w:Nat} : (zid r c s o).getLsbD w=true↔w < r.length ∧ ∀ u,rb r w u=true→c.getLsbD u=true→s.getLsbD u=true∧o.getLsbD u=true:=by
 obtain ⟨hl,hin⟩:=zbv.1 hc0
 unfold zid
 rw [zm6 hl]
 refine and_congr Iff.rfl (forall_congr' fun u=>forall_congr' fun hu=>?_)
 have hul:=hin w u hu
 have ha:(zaQ r.length).getLsbD u=true:=by rw [zeF (by omega) (by omega),decide_eq_true_eq];omega
 rw [BitVec.getLsbD_or,BitVec.getLsbD_and,BitVec.getLsbD_and,BitVec.getLsbD_not,ha,decide_eq_true (show u < 64 by omega)]
 cases c.getLsbD u<;>simp
structure zh8 (r:List (BitVec 64)) (c s o:BitVec 64):Prop where
 sup : ∀ w,w < r.length→zxG r c s w→o.getLsbD w=true
 dec : ∀ w,(zid r c s o).getLsbD w=true→o.getLsbD w=true
 ins : ∀ w,o.getLsbD w=true→w < r.length
theorem zh8.start {r:List (BitVec 64)} (c s:BitVec 64) (hc0:zae r=0):zh8 r c s (zaQ r.length):=by
 obtain ⟨hl,hin⟩:=zbv.1 hc0
 have ha : ∀ w,w < r.length→(zaQ r.length).getLsbD w=true:=fun w hw=>by rw [zeF (by omega) (by omega),decide_eq_true_eq];omega
 refine ⟨fun w hw _=>ha w hw,fun w h=>ha w ((zeJ hc0).1 h).1,fun w h=>?_⟩
 have hw64:w < 64:=by
  refine Nat.lt_of_not_le fun h2=>?_
  rw [BitVec.getLsbD_of_ge _ _ h2] at h;exact absurd h (by decide)
 rw [zeF (by omega) hw64,decide_eq_true_eq] at h
 omega
theorem zh8.next {r:List (BitVec 64)} {c s o:BitVec 64} (hc0:zae r=0) (h:zh8 r c s o):zh8 r c s (zid r c s o):=by
 obtain ⟨hl,hin⟩:=zbv.1 hc0
 refine ⟨fun w hw hp=>(zeJ hc0).2 ⟨hw,fun u hu hcu=>⟨hp u (.one hu hcu),h.sup u (hin w u hu) fun v hv=>hp v (hv.pre hu hcu)⟩⟩,fun w hw=>?_,fun w hw=>((zeJ hc0).1 hw).1⟩
 obtain ⟨h1,h2⟩:=(zeJ hc0).1 hw
 exact (zeJ hc0).2 ⟨h1,fun u hu hcu=>⟨(h2 u hu hcu).1,h.dec u (h2 u hu hcu).2⟩⟩
theorem zh8.done {r:List (BitVec 64)} {c s o:BitVec 64} (hc0:zae r=0) (h:zh8 r c s o) (e:zid r c s o=o):o=zng r c s:=by
 obtain ⟨hl,hin⟩:=zbv.1 hc0
 refine BitVec.eq_of_getLsbD_eq fun w _=>?_
 rw [Bool.eq_iff_iff,zng,zbU hl,@decide_eq_true_eq _ (Classical.propDecidable _)]
 constructor
 ·intro hw
  refine ⟨h.ins w hw,fun u hu=>?_⟩
  have key : ∀ u,CPt (fun a b=>rb r a b=true) (fun u=>c.getLsbD u=true) w u→s.getLsbD u=true∧o.getLsbD u=true:=fun u hu=>by
   induction hu with
   | one a b=>rw [← e] at hw;exact ((zeJ hc0).1 hw).2 _ a b
   | more _ a b ih =>
    have:=ih.2
    rw [← e] at this
    exact ((zeJ hc0).1 this).2 _ a b
  exact (key u hu).1
 ·rintro ⟨h1,h2⟩
  exact h.sup w h1 h2
theorem zh8.less {r:List (BitVec 64)} {c s o:BitVec 64} (h:zh8 r c s o) (e:zid r c s o≠o):(zR (zid r c s o)).length < (zR o).length:=by
 unfold zR
 refine (zeX (fun i hi=>h.dec i hi) _).2 ?_
 refine Classical.byContradiction fun hn=>e (BitVec.eq_of_getLsbD_eq fun i hi=>?_)
 cases ho:o.getLsbD i with
 | true =>
  cases hf:(zid r c s o).getLsbD i with
  | true=>rfl
  | false=>exact absurd ⟨i,List.mem_range.2 hi,hf,ho⟩ hn
 | false =>
  cases hf:(zid r c s o).getLsbD i with
  | true=>rw [h.dec i hf] at ho;cases ho
  | false=>rfl
theorem zwf {r:List (BitVec 64)} (c s:BitVec 64) (hc0:zae r=0):Fn Tryz.prog T zhd [.d (dU r),.d (.u64 (zaQ r.length)),.d (.u64 c),.d (.u64 s)] [] (.d (.u64 (zng r c s))) []:=by
 have cb:=fun x=>zgd (T:=T) (r:=r) x hc0
 refine zf zu znA (by show 4≤26;decide) ?_
 (repeat' ((conv=>whnf);refine vT ?_));all_goals try conv=>whnf
 refine zaw (fun (o:BitVec 64)=>[(0,.d (dU r)),(1,.d (.u64 ((zaQ r.length)))),(2,.d (.u64 (c))),(3,.d (.u64 (s))),(9,.d (.u64 (o)))]) (fun (o:BitVec 64)=>zh8 r c s o) (fun (o:BitVec 64)=>(zR o).length) (zaQ r.length) (.start c s hc0) (by (repeat' first|exact trivial|exact rfl|refine And.intro ?_ ?_)) ?_
 rintro o hI
 (repeat' ((conv=>whnf);first|refine vA ?_|(refine vF ?_ ?_<;>intro hc)|refine vT ?_|refine vY ?_|refine yD (cb _) (by (repeat refine ⟨⟨rfl,rfl⟩,?_⟩);rfl) rfl ?_));all_goals try conv=>whnf
 ·exact hI.done hc0 hc
 ·refine ⟨zid r c s o,[],[],?_,?_,by (refine ⟨rfl,rfl,rfl,?_,?_⟩;repeat' first|exact trivial|exact rfl|refine And.intro ?_ ?_)⟩
  ·exact hI.next hc0
  ·exact hI.less hc
end Go.Ab
namespace Go.Ab
open Go Go.Proofs
set_option maxRecDepth 10000
set_option maxHeartbeats 4000000
variable {T:Nat→Obj→Prop}
def zlW (m:KM) (i v:Nat):BitVec 64:=(m.rel.getD i []).getD v 0#64
end Go.Ab
namespace Go.Ab
open Go
theorem zwY {m:KM} {i v u:Nat} {r:Nat→Nat→Bool} (h:(zm m)[i]? = some r):(zlW m i v).getLsbD u=r v u:=by
 unfold zm at h
 rw [List.getElem?_map,Option.map_eq_some_iff] at h
 obtain ⟨s,hs,rfl⟩:=h
 unfold zlW rb
 simp [List.getD,hs]
theorem zjL {m:KM} (g:zc6 m) {i v u:Nat} (h:(zlW m i v).getLsbD u=true):u < m.W.toNat:=by
 have w1:=g.w1
 unfold zlW at h
 by_cases hi:i < m.rel.length
 ·by_cases hv:v < (m.rel[i]).length
  ·have e:(m.rel.getD i []).getD v 0#64=(m.rel[i])[v]:=by simp [List.getD,hi,hv]
   rw [e] at h
   exact (zeT (by omega)).1 (g.rel _ (List.getElem_mem hi) _ (List.getElem_mem hv)) u h
  ·simp [List.getD,hi,hv] at h
 ·simp [List.getD,hi] at h
theorem zyP {m:KM} {q:Nat→Nat} (hn:m.W.toNat≤64):zh9 (zD m.W.toNat q) (zlo m.W.toNat q (zV m)) (zV (zap m q)) ((zm m).map (zdE m.W.toNat q)) (zm (zap m q)) fun x=>x :=
 ⟨⟨fun _ h=>h,fun _ _ _ _ e=>e⟩,fun i hi=>zuk hn hi,zyQ hn⟩
theorem zwV (m:KM) (q:Nat→Nat):(zap m q).W.toNat=zD m.W.toNat q:=by show ((zD m.W.toNat q:Nat):Int).toNat=_;rw [Int.toNat_natCast]
theorem zAe {m:KM} (hm:zg m=0):zdv m.W.toNat (zap m (cq m)).W.toNat (zm m) (zm (zap m (cq m))) (zV m) (zV (zap m (cq m))) fun w i=>w < m.W.toNat∧i=zI (cq m) w:=by
 have g:=zz hm
 have w1:=g.w1
 have w2:=g.w2
 have S:=ztY (m:=m) (by omega) (by omega)
 have B:=S.quo.trans (zyP (m:=m) (q:=cq m) (by omega)).bis
 rw [zwV]
 refine ⟨B.len,fun {v v'} h=>⟨h.1,?_⟩,fun {v v'} h=>?_,fun {i r r'} h1 h2 {v v' u} h hu hr=>?_,fun {i r r'} h1 h2 {v v' u} h hu hr=>?_⟩
 ·rw [h.2];exact zcZ S.canon h.1
 ·exact B.fac ⟨v',h,by rw [h.2];exact zcZ S.canon h.1,rfl⟩
 ·obtain ⟨u',a1,a2,x,a3,a4,rfl⟩:=B.forth h1 h2 ⟨v',h,by rw [h.2];exact zcZ S.canon h.1,rfl⟩ hu hr
  exact ⟨u',a1,a2,a3⟩
 ·obtain ⟨u',a1,a2,x,a3,a4,rfl⟩:=B.back h1 h2 ⟨v',h,by rw [h.2];exact zcZ S.canon h.1,rfl⟩ hu hr
  exact ⟨u',a1,a2,a3⟩
end Go.Ab
namespace Go.Ab
open Go Go.Proofs
set_option maxRecDepth 10000
set_option maxHeartbeats 4000000
variable {T:Nat→Obj→Prop}
theorem zwd (l:List (BitVec 64)) (h:l≠[]) (hl:l.length≤1000):Fn Tryz.prog T zcl [.d (dU l)] [] (.own 0) [some (.row 1 (l.map D.u64))]:=by
 refine z6 zu zfk (by show 1≤8;decide) _ (fun e env mem n h=>h) ?_
 (repeat' ((conv=>whnf);first|refine vA ?_|refine vB fun b hb=>?_|refine vE ?_|(refine vF ?_ ?_<;>intro hc)|refine vT ?_|(refine vP ?_ ?_;·(simp only [vM] at *;omega))|fail));all_goals try conv=>whnf
 ·refine ⟨trivial,_,[(0,1)],[],rfl,.inl (by (repeat' exact rfl)),⟨by rfl,by rfl,by rfl,trivial,by (repeat' first|exact trivial|exact rfl|refine And.intro ?_ ?_|refine ⟨_,rfl,?_⟩|exact of_decide_eq_true rfl)⟩,by (repeat' exact trivial)⟩
 ·exact absurd (List.map_eq_nil_iff.1 (hb (by simpa using hc))) h
end Go.Ab
namespace Go.Ab
open Go Go.Proofs
set_option maxRecDepth 10000
set_option maxHeartbeats 4000000
variable {T:Nat→Obj→Prop}
theorem zan.yes {b:Bool} {p q:Prop} (hb:b=true) (h:p):zan b p q:=⟨fun _=>h,fun e=>by rw [hb] at e;cases e⟩
theorem zan.no {b:Bool} {p q:Prop} (hb:b=false) (h:q):zan b p q:=⟨fun e=>(by rw [hb] at e;cases e),fun _=>h⟩
theorem zan.decY {x:Prop} [Decidable x] {p q:Prop} (hx:x) (h:p):zan (decide x) p q := .yes (decide_eq_true hx) h
theorem zan.decN {x:Prop} [Decidable x] {p q:Prop} (hx : ¬x) (h:q):zan (decide x) p q := .no (decide_eq_false hx) h
abbrev dNd (n:Nd):D := .agg [.int .i64 n.op,.int .i64 n.i,.int .i64 n.e,.int .i64 n.g,.int .i64 n.x,.int .i64 n.y]
abbrev dF (f:List Nd):D := .arr 6 (f.map dNd)
abbrev znh (op:Int):D := .agg [.bool (zaq op),.bool (zaf op),.bool (zZ op),.bool (zJ op),.bool (zN op),.bool (zK op),.int .i64 (zaS op)]
theorem zpR (op:Int):Fn Tryz.prog T zU [.d (.int .i64 op)] [] (.d (.tup [znh op,.bool (zcA op)])) []:=by
 by_cases h:1≤op∧op≤21
 ·have:op=1∨op=2∨op=3∨op=4∨op=5∨op=6∨op=7∨op=8∨op=9∨op=10∨op=11∨op=12∨op=13∨op=14∨op=15∨op=16∨op=17∨op=18∨op=19∨op=20∨op=21:=by omega
  clear h
  rcases this with rfl|rfl|rfl|rfl|rfl|rfl|rfl|rfl|rfl|rfl|rfl|rfl|rfl|rfl|rfl|rfl|rfl|rfl|rfl|rfl|rfl
  all_goals refine zf zu ziS (by show 1≤55;decide) ?_
  all_goals (repeat' ((conv=>whnf);first|refine zan.decN (by omega) ?_|refine zan.decY (by omega) ?_|refine vA ?_|refine vT ?_));all_goals try conv=>whnf
  all_goals first|rfl|kernel_rfl|skip
 ·refine zf zu ziS (by show 1≤55;decide) ?_
  (repeat' ((conv=>whnf);first|refine zan.decN (by omega) ?_|refine vA ?_|refine vT ?_));all_goals try conv=>whnf
  have e1:zcA op=false:=by simp only [zcA,decide_eq_false_iff_not];omega
  have e2:zaq op=false:=by simp only [zaq,decide_eq_false_iff_not];omega
  have e3:zaf op=false:=by simp only [zaf,decide_eq_false_iff_not];omega
  have e4:zZ op=false:=by simp only [zZ,decide_eq_false_iff_not];omega
  have e5:zJ op=false:=by simp only [zJ,decide_eq_false_iff_not];omega
  have e6:zN op=false:=by simp only [zN,decide_eq_false_iff_not];omega
  have e7:zK op=false:=by simp only [zK,decide_eq_false_iff_not];omega
  have e8:zaS op=0:=by unfold zaS; (repeat' rw [if_neg (by omega)])
  rw [e1,znh,e2,e3,e4,e5,e6,e7,e8]
  first|rfl|skip
theorem zu8 (u:Bool) (f a:Int):Fn Tryz.prog T zgx [.d (.bool u),.d (.int .i64 f),.d (.int .i64 a)] [] (.d (.bool (zh0 u f a))) []:=by
 refine zf zu zmp (by show 3≤25;decide) ?_
 (repeat' ((conv=>whnf);first|refine vA ?_|refine vE ?_|((first|refine vF ?_ ?_|refine vI ?_ ?_)<;>intro hc<;>try simp only [vL] at hc)|refine vT ?_|refine vZ ?_));all_goals try conv=>whnf
 all_goals (cases u<;>simp_all [zh0]<;>omega)
theorem zu9 (u:Bool) (v lo hi:Int):Fn Tryz.prog T zcW [.d (.bool u),.d (.int .i64 v),.d (.int .i64 lo),.d (.int .i64 hi)] [] (.d (.bool (zbH u v lo hi))) []:=by
 refine zf zu ziR (by show 4≤20;decide) ?_
 (repeat' ((conv=>whnf);first|refine vA ?_|((first|refine vF ?_ ?_|refine vI ?_ ?_)<;>intro hc<;>try simp only [vL] at hc)|refine vT ?_|refine vZ ?_));all_goals try conv=>whnf
 all_goals (cases u<;>simp_all [zbH]<;>omega)
def zzr (ok ux uy fa ag ev gr:Bool) (n:Nd) (at_:Int):Int :=
 if ok=false then 10 else
 if zh0 ux n.x at_=false∨zh0 uy n.y at_=false then 3 else
 if (!(fa||ag||ev)&&decide (n.i≠0)||(!ev&&decide (n.e≠0))||(!gr&&decide (n.g≠0)))=true then 3 else
 if (zbH fa n.i 0 7||zbH ag n.i 0 3||zbH ev n.i 0 7||zbH ev n.e 0 7||zbH gr n.g 1 15)=true then 2 else 0
set_option maxHeartbeats 40000000 in
theorem ztz (ok ux uy fa ag ev gr:Bool) (fr:Int) (n:Nd) (a:Int) (hu:Fn Tryz.prog T zU [.d (.int .i64 n.op)] [] (.d (.tup [.agg [.bool ux,.bool uy,.bool fa,.bool ag,.bool gr,.bool ev,.int .i64 fr],.bool ok])) []) :
  Fn Tryz.prog T zdy [.d (dNd n),.d (.int .i64 a)] [] (.d (.int .i64 (zzr ok ux uy fa ag ev gr n a))) []:=by
 refine zf zu zkp (by show 2≤106;decide) ?_
 (repeat' ((conv=>whnf);first|refine vA ?_|refine vE ?_|((first|refine vD ?_ ?_|refine vI ?_ ?_)<;>intro hc)|refine vT ?_|refine vX ?_|refine yD hu (by (repeat refine ⟨⟨rfl,rfl⟩,?_⟩);rfl) rfl ?_|refine yD (zu8 _ _ _) ⟨⟨rfl,rfl⟩,⟨rfl,rfl⟩,⟨rfl,rfl⟩,rfl⟩ rfl ?_|refine yD (zu9 _ _ _ _) (by (repeat refine ⟨⟨rfl,rfl⟩,?_⟩);rfl) rfl ?_));all_goals try conv=>whnf
 all_goals (clear hu;simp_all [zzr])
theorem zsl (n:Nd) (a:Int):Fn Tryz.prog T zdy [.d (dNd n),.d (.int .i64 a)] [] (.d (.int .i64 (zd2 n a))) []:=by
 exact ztz _ _ _ _ _ _ _ _ n a (zpR n.op)
theorem zk2 (f:List Nd):Fn Tryz.prog T zhM [.d (dF f)] [] (.d (.int .i64 (zcx f))) []:=by
 refine zf zu zoR (by show 1≤26;decide) ?_
 (repeat' ((conv=>whnf);first|refine vA ?_|(refine vF ?_ ?_<;>intro hc<;>try simp only [vL] at hc)|refine vJ fun hg=>?_|refine vT ?_|refine vX ?_));all_goals try conv=>whnf
 ·simp_all [zcx]
 ·rw [zcx,if_neg (by omega),if_pos (by omega)]
 ·have h0 : ¬f.length=0:=by omega
  refine zaw (fun (k:Nat)=>[(12,.d (dF f)),(13,.d (.int .i64 ((f.map dNd).length:Int))),(14,.d (.int .i64 ((k:Int))))]) (fun (k:Nat)=>k≤f.length∧zcx f=zf6 (f.drop k) k) (fun (k:Nat)=>f.length - k) (0) (⟨by simp,by rw [zcx,if_neg (by omega),if_neg (by omega)];rfl⟩) (by (repeat' first|exact trivial|exact rfl|refine And.intro ?_ ?_)) ?_
  rintro k ⟨hk,hI⟩
  (repeat' ((conv=>whnf);first|refine vA ?_|((first|refine vD ?_ ?_|refine vF ?_ ?_)<;>intro hc<;>try simp only [vL] at hc)|refine vT ?_|(refine vQ ?_ fun x hx=>?_;·omega)|(refine vO ?_ ?_;·omega)|refine vX ?_|refine yD (zsl _ _) ⟨⟨rfl,rfl⟩,⟨rfl,rfl⟩,rfl⟩ rfl ?_));all_goals try conv=>whnf
  ·rw [hI,zar hx,zf6,if_pos hc]
  ·exact ⟨k+1,[],[],⟨by (omega),by rw [hI,zar hx,zf6,if_neg (by simpa using hc)]⟩,by (omega),by (refine ⟨rfl,rfl,rfl,?_,?_⟩;repeat' first|exact trivial|exact rfl|refine And.intro ?_ ?_)⟩
  ·rw [hI,List.drop_eq_nil_of_le (by omega)];rfl
end Go.Ab
namespace Go.Ab
open Go Go.Proofs
set_option maxRecDepth 10000
set_option maxHeartbeats 4000000
variable {T:Nat→Obj→Prop}
abbrev zA (d:List (Nat×Nat)):List (D×D):=d.map fun p=>(D.int .i64 (p.1:Int),D.int .i64 (p.2:Int))
def zaa (l:List Nd) (k:Nat):List (D×D):=match l with
 | []=>[]
 | n::r=>(dNd n,.int .i64 (k:Int))::zaa r (k+1)
theorem zAj (a b:Nd):D.eqk (dNd a) (dNd b)=some (decide (a=b)):=by
 obtain ⟨a1,a2,a3,a4,a5,a6⟩:=a
 obtain ⟨b1,b2,b3,b4,b5,b6⟩:=b
 show some (decide (a1=b1)&&(decide (a2=b2)&&(decide (a3=b3)&&(decide (a4=b4)&&(decide (a5=b5)&&(decide (a6=b6)&&true))))))=_
 simp only [Nd.mk.injEq,Bool.decide_and,Bool.and_true]
theorem zqx (d:List (Nat×Nat)) (i:Nat):zq (zA d) (.int .i64 (i:Int))=some ((d.lookup i).map fun r=>D.int .i64 (r:Int)):=by
 induction d with
 | nil=>rfl
 | cons p d ih =>
  obtain ⟨a,b⟩:=p
  show (match some (decide ((i:Int)=(a:Int))) with
   | some true=>some (some (D.int .i64 (b:Int)))
   | some false=>zq (zA d) (.int .i64 (i:Int))
   | none=>none)=_
  by_cases h:i=a
  ·subst h;simp [List.lookup]
  ·have h1:decide ((i:Int)=(a:Int))=false:=by simp only [decide_eq_false_iff_not];omega
   have h2:(i==a)=false:=by simpa using h
   rw [h1]
   simp only [List.lookup,h2]
   exact ih
theorem znp (x:Nd) : ∀ (l:List Nd) (k:Nat),zq (zaa l k) (dNd x)=some ((l.idxOf? x).map fun r=>D.int .i64 ((k+r:Nat):Int))
 | [],k=>rfl
 | n::r,k=>by
  have ih:=znp x r (k+1)
  show (match D.eqk (dNd x) (dNd n) with
   | some true=>some (some (D.int .i64 (k:Int)))
   | some false=>zq (zaa r (k+1)) (dNd x)
   | none=>none)=_
  rw [zAj]
  by_cases h:x=n
  ·subst h;simp [List.idxOf?,List.findIdx?_cons]
  ·have h2:(n==x)=false:=by simpa using fun e=>h e.symm
   simp only [h,decide_false,ih,List.idxOf?,List.findIdx?_cons,h2]
   cases r.findIdx? (· == x) with
   | none=>rfl
   | some j=>simp;omega
theorem zmC (x:Nd) : ∀ (l:List Nd) (k:Nat),zaa (l++[x]) k=zaa l k++[(dNd x,.int .i64 ((k+l.length:Nat):Int))]
 | [],k=>rfl
 | n::r,k=>by
  show (dNd n,D.int .i64 (k:Int))::zaa (r++[x]) (k+1)=_
  rw [zmC x r (k+1),show k+1+r.length=k+(n::r).length by simp;omega]
  rfl
theorem zcU (x:Nd) (l:List Nd):zaa (l++[x]) 0=zaa l 0++[(dNd x,.int .i64 (((l.map dNd).length:Nat):Int))]:=by
 rw [zmC,List.length_map,Nat.zero_add]
abbrev zaN:V := .fn zj [.ptr 0 0,.ptr 1 0,.ptr 2 0,.ptr 3 0,.ptr 4 0]
abbrev zaW (f:List Nd) (out:V) (s:FSt):List Ob:=[.box [.map 5],.box [.d (dF f)],.box [zaN],.box [.map 6],.box [out],.map (zA s.done),.map (zaa s.out 0)]
abbrev zaX (i:Int):List V:=[.d (.int .i64 i),.ptr 0 0,.ptr 1 0,.ptr 2 0,.ptr 3 0,.ptr 4 0]
abbrev zdj (f:List Nd) (s:FSt):List (Option Ob):=[some (.box [.map 5]),some (.box [.d (dF f)]),some (.box [zaN]),some (.box [.map 6]),some (.box [.own 8]),some (.map (zA s.done)),some (.map (zaa s.out 0)),none,some (.row 6 (s.out.map dNd))]
abbrev zew (f:List Nd) (s:FSt):List (Option Ob):=[some (.box [.map 5]),some (.box [.d (dF f)]),some (.box [zaN]),some (.box [.map 6]),some (.box [.own 7]),some (.map (zA s.done)),some (.map (zaa s.out 0)),some (.row 6 (s.out.map dNd))]
theorem zgZ {op:Int} {x y:Bool} (hx:zaq op=x) (hy:zaf op=y):Fn Tryz.prog T zU [.d (.int .i64 op)] [] (.d (.tup [.agg [.bool x,.bool y,.bool (zZ op),.bool (zJ op),.bool (zN op),.bool (zK op),.int .i64 (zaS op)],.bool (zcA op)])) []:=by
 subst hx;subst hy
 exact zpR op
theorem zaC (d:List (Nat×Nat)) (i r:Nat):zA (d++[(i,r)])=zA d++[(.int .i64 (i:Int),.int .i64 (r:Int))]:=by simp
theorem zdq {x:Nd} {l:List Nd} {j:Nat} (h:l.idxOf? x=some j):zq (zaa l 0) (dNd x)=some (some (.int .i64 (j:Int))):=by
 rw [znp,h];simp
theorem zcf {x:Nd} {l:List Nd} (h:l.idxOf? x=none):zq (zaa l 0) (dNd x)=some none:=by
 rw [znp,h];rfl
theorem zx {d:List (Nat×Nat)} {i:Nat} (h:d.lookup i=none):zq (zA d) (.int .i64 (i:Int))=some none:=by
 rw [zqx,h];rfl
theorem zv6 {f:List Nd} (hf:zaZ f) {k:Nat} {s:FSt} (hk:k < f.length) (hd:s.done.lookup k=none) (hx:zaq (f.getD k default).op=false) (hy:zaf (f.getD k default).op=false) :
  fin f (k+1) k s=((put s.out (f.getD k default)).1,⟨(put s.out (f.getD k default)).2,s.done++[(k,(put s.out (f.getD k default)).1)]⟩):=by
 have hn:=zcC.1 (zgR hf hk)
 rw [fin,hd]
 simp only [hx,hy,cond_false]
 have e0:(((f.getD k default).y.toNat:Nat):Int)=(f.getD k default).y:=by rw [hn.2.2.2.2 hy];rfl
 have e1:(((f.getD k default).x.toNat:Nat):Int)=(f.getD k default).x:=by rw [hn.2.2.1 hx];rfl
 rw [e0,e1]
theorem zv7 {f:List Nd} (hf:zaZ f) {k:Nat} {s:FSt} (hk:k < f.length) (hd:s.done.lookup k=none) {n:Nd} (hn:f.getD k default=n) (hx:zaq n.op=true) (hy:zaf n.op=false) {r:Nat} {s1:FSt} (h1:fin f (n.x.toNat+1) n.x.toNat s=(r,s1)) :
  fin f (k+1) k s=((put s1.out ⟨n.op,n.i,n.e,n.g,(r:Int),n.y⟩).1,⟨(put s1.out ⟨n.op,n.i,n.e,n.g,(r:Int),n.y⟩).2,s1.done++[(k,(put s1.out ⟨n.op,n.i,n.e,n.g,(r:Int),n.y⟩).1)]⟩):=by
 subst hn
 have hn:=zcC.1 (zgR hf hk)
 have e1:=zbn hf hk hx
 rw [fin,hd]
 simp only [hx,hy,cond_false,cond_true]
 rw [zfD hf k ((f.getD k default).x.toNat+1) _ _ (by omega) (by omega) (by omega),h1]
 have e0:(((f.getD k default).y.toNat:Nat):Int)=(f.getD k default).y:=by rw [hn.2.2.2.2 hy];rfl
 simp only [e0]
theorem zv8 {f:List Nd} (hf:zaZ f) {k:Nat} {s:FSt} (hk:k < f.length) (hd:s.done.lookup k=none) {n:Nd} (hn:f.getD k default=n) (hx:zaq n.op=true) (hy:zaf n.op=true) {r r2:Nat} {s1 s2:FSt} (h1:fin f (n.x.toNat+1) n.x.toNat s=(r,s1)) (h2:fin f (n.y.toNat+1) n.y.toNat s1=(r2,s2)) :
  fin f (k+1) k s=((put s2.out ⟨n.op,n.i,n.e,n.g,(r:Int),(r2:Int)⟩).1,⟨(put s2.out ⟨n.op,n.i,n.e,n.g,(r:Int),(r2:Int)⟩).2,s2.done++[(k,(put s2.out ⟨n.op,n.i,n.e,n.g,(r:Int),(r2:Int)⟩).1)]⟩):=by
 subst hn
 have e1:=zbn hf hk hx
 have e2:=zey hf hk hy
 rw [fin,hd]
 simp only [hx,hy,cond_true]
 rw [zfD hf k ((f.getD k default).x.toNat+1) (f.getD k default).x.toNat s (by omega) (by omega) (by omega),h1]
 simp only
 rw [zfD hf k ((f.getD k default).y.toNat+1) (f.getD k default).y.toNat s1 (by omega) (by omega) (by omega),h2]
theorem zgH {f:List Nd} (hf:zaZ f) {j k:Nat} {s:FSt} (hj:j < k) (hjf:j < f.length) (hs:zjl f s) (hd:s.done.lookup k=none):zjl f (fin f (j+1) j s).2∧(fin f (j+1) j s).2.done.lookup k=none:=by
 obtain ⟨h1,h2,h3,l,h4,h5⟩:=zhg hf (j+1) j s (by omega) hjf hs
 refine ⟨h1,?_⟩
 rw [h4]
 exact ztF fun p hp=>by
  rcases List.mem_append.1 hp with hp|hp
  ·exact zo1 hd p hp
  ·have:=h5 p hp;omega
theorem ziG {f:List Nd} {s:FSt} (hs:zjl f s):s.out.length≤f.length:=by
 have h1:=hs.len
 have h2:=zqA hs.keys (n:=f.length) (fun x hx=>by obtain ⟨p,hp,rfl⟩:=List.mem_map.1 hx;exact hs.rng p hp)
 rw [List.length_map] at h2
 omega
theorem zS.objsE {P:Program} {M:Nat→Option Ob} {n f:Nat} {vs lvs:List V} {obs:List Ob} {y:D} {obs':List (Option Ob)} {K:V→Upd→Nat→Prop} (js:List Nat) (hf:Fn P T f lvs obs (.d y) obs') (ha:VPasses M js [] 20 lvs vs)
  (ho:zas M js [] obs js) (hnd:nodup js=true) (hsj:zd9 js (zF M vs)=true) (hle:js.length≤obs'.length) (u:Upd) (hu:zfR js [] n obs' false=u)
  (hK:K (.d y) u (obs'.length - js.length)):zS (zb6 P T) M n f vs K := .objs js hf ha ho hnd hsj hle (by rw [hu];exact hK)
end Go.Ab
namespace Go.Ab
open Go Go.Proofs
set_option maxRecDepth 10000
set_option maxHeartbeats 4000000
set_option maxHeartbeats 40000000
variable {T:Nat→Obj→Prop}
theorem zAQ {f:List Nd} (hL:f.length≤1000) {k:Nat} {n:Nd} (hn:f[k]? = some n) {s:FSt} (hl:s.out.length≤1000) (hfd:zq (zA (FSt.done s)) (.int .i64 (k:Int))=some none) (hu:Fn Tryz.prog T zU [.d (.int .i64 n.op)] [] (.d (.tup [.agg [.bool false,.bool false,.bool (zZ n.op),.bool (zJ n.op),.bool (zN n.op),.bool (zK n.op),.int .i64 (zaS n.op)],.bool (zcA n.op)])) []) {j:Nat} (hfn:zq (zaa (FSt.out s) 0) (dNd n)=some (some (.int .i64 (j:Int)))) :
  Fn Tryz.prog T zj (zaX (k:Int)) (zaW f (.own 7) s++[.row 6 (s.out.map dNd)]) (.d (.int .i64 (j:Int))) [some (.box [.map 5]),some (.box [.d (dF f)]),some (.box [zaN]),some (.box [.map 6]),some (.box [.own 8]),some (.map (zA (FSt.done s)++[(.int .i64 (k:Int),.int .i64 (j:Int))])),some (.map (zaa (FSt.out s) 0)),none,some (.row 6 ((FSt.out s).map dNd))]:=by
 refine z6 zu zL (by show 6≤68;decide) _ (fun e env mem n h=>h) ?_
 (repeat' ((conv=>whnf);first|refine vA ?_|refine vE ?_|refine vG ?_|refine vH ?_|refine vT ?_|refine vN ‹_› ?_|refine yD hu (by (repeat refine ⟨⟨rfl,rfl⟩,?_⟩);rfl) rfl ?_|refine zaD.mk _ ‹_› ?_));all_goals try conv=>whnf
 refine ⟨trivial,_,[(0,0),(1,1),(2,2),(3,3),(4,4),(5,5),(6,6),(8,7)],[],rfl,.inl (by (repeat' exact rfl)),⟨by rfl,by rfl,by rfl,trivial,by (repeat' first|exact trivial|exact rfl|refine And.intro ?_ ?_|refine ⟨_,rfl,?_⟩|exact of_decide_eq_true rfl)⟩,by (repeat' first|exact trivial|exact rfl|refine And.intro ?_ ?_|refine ⟨_,rfl,?_⟩)⟩
theorem zAR {f:List Nd} (hL:f.length≤1000) {k:Nat} {n:Nd} (hn:f[k]? = some n) {s:FSt} (hl:s.out.length≤1000) (hfd:zq (zA (FSt.done s)) (.int .i64 (k:Int))=some none) (hu:Fn Tryz.prog T zU [.d (.int .i64 n.op)] [] (.d (.tup [.agg [.bool false,.bool false,.bool (zZ n.op),.bool (zJ n.op),.bool (zN n.op),.bool (zK n.op),.int .i64 (zaS n.op)],.bool (zcA n.op)])) []) (hfn:zq (zaa (FSt.out s) 0) (dNd n)=some none) :
  Fn Tryz.prog T zj (zaX (k:Int)) (zaW f (.own 7) s++[.row 6 (s.out.map dNd)]) (.d (.int .i64 ((((FSt.out s).map dNd).length:Nat):Int))) [some (.box [.map 5]),some (.box [.d (dF f)]),some (.box [zaN]),some (.box [.map 6]),some (.box [.own 8]),some (.map (zA (FSt.done s)++[(.int .i64 (k:Int),.int .i64 ((((FSt.out s).map dNd).length:Nat):Int))])),some (.map (zaa (FSt.out s) 0++[(dNd n,.int .i64 ((((FSt.out s).map dNd).length:Nat):Int))])),none,some (.row 6 ((FSt.out s).map dNd++[dNd n]))]:=by
 refine z6 zu zL (by show 6≤68;decide) _ (fun e env mem n h=>h) ?_
 (repeat' ((conv=>whnf);first|refine vA ?_|refine vH ?_|refine vJ fun hg=>?_|refine vT ?_|refine vN ‹_› ?_|(refine vP ?_ ?_;·(simp only [vM] at *;omega))|refine yD hu (by (repeat refine ⟨⟨rfl,rfl⟩,?_⟩);rfl) rfl ?_|refine zaD.mk _ ‹_› ?_));all_goals try conv=>whnf
 refine ⟨trivial,_,[(0,0),(1,1),(2,2),(3,3),(4,4),(5,5),(6,6),(8,11)],[],rfl,.inl (by (repeat' exact rfl)),⟨by rfl,by rfl,by rfl,trivial,by (repeat' first|exact trivial|exact rfl|refine And.intro ?_ ?_|refine ⟨_,rfl,?_⟩|exact of_decide_eq_true rfl)⟩,by (repeat' first|exact trivial|exact rfl|refine And.intro ?_ ?_|refine ⟨_,rfl,?_⟩)⟩
end Go.Ab
namespace Go.Ab
open Go Go.Proofs
set_option maxRecDepth 10000
set_option maxHeartbeats 4000000
set_option maxHeartbeats 40000000
variable {T:Nat→Obj→Prop}
theorem zAS {f:List Nd} (hL:f.length≤1000) {k:Nat} {n:Nd} (hn:f[k]? = some n) {s:FSt} (hl:s.out.length≤1000) (hfd:zq (zA (FSt.done s)) (.int .i64 (k:Int))=some none) (hu:Fn Tryz.prog T zU [.d (.int .i64 n.op)] [] (.d (.tup [.agg [.bool true,.bool false,.bool (zZ n.op),.bool (zJ n.op),.bool (zN n.op),.bool (zK n.op),.int .i64 (zaS n.op)],.bool (zcA n.op)])) []) {r1:Nat} {s1:FSt} (hl1:s1.out.length≤1000) (c1:Fn Tryz.prog T zj (zaX n.x) (zaW f (.own 7) s++[.row 6 (s.out.map dNd)]) (.d (.int .i64 (r1:Int))) (zdj f s1)) (hfd1:zq (zA s1.done) (.int .i64 (k:Int))=some none) {j:Nat} (hfn:zq (zaa s1.out 0) (dNd ⟨n.op,n.i,n.e,n.g,(r1:Int),n.y⟩)=some (some (.int .i64 (j:Int)))) :
  Fn Tryz.prog T zj (zaX (k:Int)) (zaW f (.own 7) s++[.row 6 (s.out.map dNd)]) (.d (.int .i64 (j:Int))) [some (.box [.map 5]),some (.box [.d (dF f)]),some (.box [zaN]),some (.box [.map 6]),some (.box [.own 8]),some (.map (zA s1.done++[(.int .i64 (k:Int),.int .i64 (j:Int))])),some (.map (zaa s1.out 0)),none,some (.row 6 (s1.out.map dNd))]:=by
 refine z6 zu zL (by show 6≤68;decide) _ (fun e env mem n h=>h) ?_
 (repeat' ((conv=>whnf);first|refine vA ?_|refine vG ?_|refine vT ?_|refine vN ‹_› ?_|refine yD hu (by (repeat refine ⟨⟨rfl,rfl⟩,?_⟩);rfl) rfl ?_|refine zaD.mk _ ‹_› ?_));all_goals try conv=>whnf
 refine zS.objsE [0,1,2,3,4,5,6,7] (c1) (by (repeat' first|exact rfl|refine And.intro ?_ ?_|refine ⟨_,rfl,?_⟩)) (by (repeat' first|exact rfl|refine And.intro ?_ ?_|refine ⟨_,rfl,?_⟩)) (by rfl) (by kernel_rfl) (by simp) [(0,some (.box [.map 5])),(1,some (.box [.d (dF f)])),(2,some (.box [zaN])),(3,some (.box [.map 6])),(4,some (.box [.own 10])),(5,some (.map (zA s1.done))),(6,some (.map (zaa s1.out 0))),(7,none),(10,some (.row 6 (s1.out.map dNd)))] rfl ?_
 (repeat' ((conv=>whnf);first|refine vA ?_|refine vE ?_|refine vG ?_|refine vH ?_|refine vT ?_|refine zaD.mk _ ‹_› ?_));all_goals try conv=>whnf
 refine ⟨trivial,_,[(0,0),(1,1),(2,2),(3,3),(4,4),(5,5),(6,6),(8,10)],[],rfl,.inl (by (repeat' exact rfl)),⟨by rfl,by rfl,by rfl,trivial,by (repeat' first|exact trivial|exact rfl|refine And.intro ?_ ?_|refine ⟨_,rfl,?_⟩|exact of_decide_eq_true rfl)⟩,by (repeat' first|exact trivial|exact rfl|refine And.intro ?_ ?_|refine ⟨_,rfl,?_⟩)⟩
theorem zAT {f:List Nd} (hL:f.length≤1000) {k:Nat} {n:Nd} (hn:f[k]? = some n) {s:FSt} (hl:s.out.length≤1000) (hfd:zq (zA (FSt.done s)) (.int .i64 (k:Int))=some none) (hu:Fn Tryz.prog T zU [.d (.int .i64 n.op)] [] (.d (.tup [.agg [.bool true,.bool false,.bool (zZ n.op),.bool (zJ n.op),.bool (zN n.op),.bool (zK n.op),.int .i64 (zaS n.op)],.bool (zcA n.op)])) []) {r1:Nat} {s1:FSt} (hl1:s1.out.length≤1000) (c1:Fn Tryz.prog T zj (zaX n.x) (zaW f (.own 7) s++[.row 6 (s.out.map dNd)]) (.d (.int .i64 (r1:Int))) (zdj f s1)) (hfd1:zq (zA s1.done) (.int .i64 (k:Int))=some none) (hfn:zq (zaa s1.out 0) (dNd ⟨n.op,n.i,n.e,n.g,(r1:Int),n.y⟩)=some none) :
  Fn Tryz.prog T zj (zaX (k:Int)) (zaW f (.own 7) s++[.row 6 (s.out.map dNd)]) (.d (.int .i64 (((s1.out.map dNd).length:Nat):Int))) [some (.box [.map 5]),some (.box [.d (dF f)]),some (.box [zaN]),some (.box [.map 6]),some (.box [.own 8]),some (.map (zA s1.done++[(.int .i64 (k:Int),.int .i64 (((s1.out.map dNd).length:Nat):Int))])),some (.map (zaa s1.out 0++[(dNd ⟨n.op,n.i,n.e,n.g,(r1:Int),n.y⟩,.int .i64 (((s1.out.map dNd).length:Nat):Int))])),none,some (.row 6 (s1.out.map dNd++[dNd ⟨n.op,n.i,n.e,n.g,(r1:Int),n.y⟩]))]:=by
 refine z6 zu zL (by show 6≤68;decide) _ (fun e env mem n h=>h) ?_
 (repeat' ((conv=>whnf);first|refine vA ?_|refine vG ?_|refine vT ?_|refine vN ‹_› ?_|refine yD hu (by (repeat refine ⟨⟨rfl,rfl⟩,?_⟩);rfl) rfl ?_|refine zaD.mk _ ‹_› ?_));all_goals try conv=>whnf
 refine zS.objsE [0,1,2,3,4,5,6,7] (c1) (by (repeat' first|exact rfl|refine And.intro ?_ ?_|refine ⟨_,rfl,?_⟩)) (by (repeat' first|exact rfl|refine And.intro ?_ ?_|refine ⟨_,rfl,?_⟩)) (by rfl) (by kernel_rfl) (by simp) [(0,some (.box [.map 5])),(1,some (.box [.d (dF f)])),(2,some (.box [zaN])),(3,some (.box [.map 6])),(4,some (.box [.own 10])),(5,some (.map (zA s1.done))),(6,some (.map (zaa s1.out 0))),(7,none),(10,some (.row 6 (s1.out.map dNd)))] rfl ?_
 (repeat' ((conv=>whnf);first|refine vA ?_|refine vH ?_|refine vJ fun hg=>?_|refine vT ?_|(refine vP ?_ ?_;·(simp only [vM] at *;omega))|refine zaD.mk _ ‹_› ?_));all_goals try conv=>whnf
 refine ⟨trivial,_,[(0,0),(1,1),(2,2),(3,3),(4,4),(5,5),(6,6),(8,12)],[],rfl,.inl (by (repeat' exact rfl)),⟨by rfl,by rfl,by rfl,trivial,by (repeat' first|exact trivial|exact rfl|refine And.intro ?_ ?_|refine ⟨_,rfl,?_⟩|exact of_decide_eq_true rfl)⟩,by (repeat' first|exact trivial|exact rfl|refine And.intro ?_ ?_|refine ⟨_,rfl,?_⟩)⟩
end Go.Ab
namespace Go.Ab
open Go Go.Proofs
set_option maxRecDepth 10000
set_option maxHeartbeats 4000000
set_option maxHeartbeats 40000000
variable {T:Nat→Obj→Prop}
theorem zAU {f:List Nd} (hL:f.length≤1000) {k:Nat} {n:Nd} (hn:f[k]? = some n) {s:FSt} (hl:s.out.length≤1000) (hfd:zq (zA (FSt.done s)) (.int .i64 (k:Int))=some none) (hu:Fn Tryz.prog T zU [.d (.int .i64 n.op)] [] (.d (.tup [.agg [.bool true,.bool true,.bool (zZ n.op),.bool (zJ n.op),.bool (zN n.op),.bool (zK n.op),.int .i64 (zaS n.op)],.bool (zcA n.op)])) []) {r1:Nat} {s1:FSt} (hl1:s1.out.length≤1000) (c1:Fn Tryz.prog T zj (zaX n.x) (zaW f (.own 7) s++[.row 6 (s.out.map dNd)]) (.d (.int .i64 (r1:Int))) (zdj f s1)) (hfd1:zq (zA s1.done) (.int .i64 (k:Int))=some none) {r2:Nat} {s2:FSt} (hl2:s2.out.length≤1000) (c2:Fn Tryz.prog T zj (zaX n.y) (zaW f (.own 7) s1++[.row 6 (s1.out.map dNd)]) (.d (.int .i64 (r2:Int))) (zdj f s2)) (hfd2:zq (zA s2.done) (.int .i64 (k:Int))=some none) {j:Nat} (hfn:zq (zaa s2.out 0) (dNd ⟨n.op,n.i,n.e,n.g,(r1:Int),(r2:Int)⟩)=some (some (.int .i64 (j:Int)))) :
  Fn Tryz.prog T zj (zaX (k:Int)) (zaW f (.own 7) s++[.row 6 (s.out.map dNd)]) (.d (.int .i64 (j:Int))) [some (.box [.map 5]),some (.box [.d (dF f)]),some (.box [zaN]),some (.box [.map 6]),some (.box [.own 8]),some (.map (zA s2.done++[(.int .i64 (k:Int),.int .i64 (j:Int))])),some (.map (zaa s2.out 0)),none,some (.row 6 (s2.out.map dNd))]:=by
 refine z6 zu zL (by show 6≤68;decide) _ (fun e env mem n h=>h) ?_
 (repeat' ((conv=>whnf);first|refine vA ?_|refine vG ?_|refine vT ?_|refine vN ‹_› ?_|refine yD hu (by (repeat refine ⟨⟨rfl,rfl⟩,?_⟩);rfl) rfl ?_|refine zaD.mk _ ‹_› ?_));all_goals try conv=>whnf
 refine zS.objsE [0,1,2,3,4,5,6,7] (c1) (by (repeat' first|exact rfl|refine And.intro ?_ ?_|refine ⟨_,rfl,?_⟩)) (by (repeat' first|exact rfl|refine And.intro ?_ ?_|refine ⟨_,rfl,?_⟩)) (by rfl) (by kernel_rfl) (by simp) [(0,some (.box [.map 5])),(1,some (.box [.d (dF f)])),(2,some (.box [zaN])),(3,some (.box [.map 6])),(4,some (.box [.own 10])),(5,some (.map (zA s1.done))),(6,some (.map (zaa s1.out 0))),(7,none),(10,some (.row 6 (s1.out.map dNd)))] rfl ?_
 (repeat' ((conv=>whnf);first|refine vA ?_|refine vG ?_|refine vT ?_));all_goals try conv=>whnf
 refine zS.objsE [0,1,2,3,4,5,6,10] (c2) (by (repeat' first|exact rfl|refine And.intro ?_ ?_|refine ⟨_,rfl,?_⟩)) (by (repeat' first|exact rfl|refine And.intro ?_ ?_|refine ⟨_,rfl,?_⟩)) (by rfl) (by kernel_rfl) (by simp) [(0,some (.box [.map 5])),(1,some (.box [.d (dF f)])),(2,some (.box [zaN])),(3,some (.box [.map 6])),(4,some (.box [.own 11])),(5,some (.map (zA s2.done))),(6,some (.map (zaa s2.out 0))),(10,none),(11,some (.row 6 (s2.out.map dNd)))] rfl ?_
 (repeat' ((conv=>whnf);first|refine vA ?_|refine vE ?_|refine vG ?_|refine vT ?_|refine zaD.mk _ ‹_› ?_));all_goals try conv=>whnf
 refine ⟨trivial,_,[(0,0),(1,1),(2,2),(3,3),(4,4),(5,5),(6,6),(8,11)],[],rfl,.inl (by (repeat' exact rfl)),⟨by rfl,by rfl,by rfl,trivial,by (repeat' first|exact trivial|exact rfl|refine And.intro ?_ ?_|refine ⟨_,rfl,?_⟩|exact of_decide_eq_true rfl)⟩,by (repeat' first|exact trivial|exact rfl|refine And.intro ?_ ?_|refine ⟨_,rfl,?_⟩)⟩
theorem zAV {f:List Nd} (hL:f.length≤1000) {k:Nat} {n:Nd} (hn:f[k]? = some n) {s:FSt} (hl:s.out.length≤1000) (hfd:zq (zA (FSt.done s)) (.int .i64 (k:Int))=some none) (hu:Fn Tryz.prog T zU [.d (.int .i64 n.op)] [] (.d (.tup [.agg [.bool true,.bool true,.bool (zZ n.op),.bool (zJ n.op),.bool (zN n.op),.bool (zK n.op),.int .i64 (zaS n.op)],.bool (zcA n.op)])) []) {r1:Nat} {s1:FSt} (hl1:s1.out.length≤1000) (c1:Fn Tryz.prog T zj (zaX n.x) (zaW f (.own 7) s++[.row 6 (s.out.map dNd)]) (.d (.int .i64 (r1:Int))) (zdj f s1)) (hfd1:zq (zA s1.done) (.int .i64 (k:Int))=some none) {r2:Nat} {s2:FSt} (hl2:s2.out.length≤1000) (c2:Fn Tryz.prog T zj (zaX n.y) (zaW f (.own 7) s1++[.row 6 (s1.out.map dNd)]) (.d (.int .i64 (r2:Int))) (zdj f s2)) (hfd2:zq (zA s2.done) (.int .i64 (k:Int))=some none) (hfn:zq (zaa s2.out 0) (dNd ⟨n.op,n.i,n.e,n.g,(r1:Int),(r2:Int)⟩)=some none) :
  Fn Tryz.prog T zj (zaX (k:Int)) (zaW f (.own 7) s++[.row 6 (s.out.map dNd)]) (.d (.int .i64 (((s2.out.map dNd).length:Nat):Int))) [some (.box [.map 5]),some (.box [.d (dF f)]),some (.box [zaN]),some (.box [.map 6]),some (.box [.own 8]),some (.map (zA s2.done++[(.int .i64 (k:Int),.int .i64 (((s2.out.map dNd).length:Nat):Int))])),some (.map (zaa s2.out 0++[(dNd ⟨n.op,n.i,n.e,n.g,(r1:Int),(r2:Int)⟩,.int .i64 (((s2.out.map dNd).length:Nat):Int))])),none,some (.row 6 (s2.out.map dNd++[dNd ⟨n.op,n.i,n.e,n.g,(r1:Int),(r2:Int)⟩]))]:=by
 refine z6 zu zL (by show 6≤68;decide) _ (fun e env mem n h=>h) ?_
 (repeat' ((conv=>whnf);first|refine vA ?_|refine vG ?_|refine vT ?_|refine vN ‹_› ?_|refine yD hu (by (repeat refine ⟨⟨rfl,rfl⟩,?_⟩);rfl) rfl ?_|refine zaD.mk _ ‹_› ?_));all_goals try conv=>whnf
 refine zS.objsE [0,1,2,3,4,5,6,7] (c1) (by (repeat' first|exact rfl|refine And.intro ?_ ?_|refine ⟨_,rfl,?_⟩)) (by (repeat' first|exact rfl|refine And.intro ?_ ?_|refine ⟨_,rfl,?_⟩)) (by rfl) (by kernel_rfl) (by simp) [(0,some (.box [.map 5])),(1,some (.box [.d (dF f)])),(2,some (.box [zaN])),(3,some (.box [.map 6])),(4,some (.box [.own 10])),(5,some (.map (zA s1.done))),(6,some (.map (zaa s1.out 0))),(7,none),(10,some (.row 6 (s1.out.map dNd)))] rfl ?_
 (repeat' ((conv=>whnf);first|refine vA ?_|refine vG ?_|refine vT ?_));all_goals try conv=>whnf
 refine zS.objsE [0,1,2,3,4,5,6,10] (c2) (by (repeat' first|exact rfl|refine And.intro ?_ ?_|refine ⟨_,rfl,?_⟩)) (by (repeat' first|exact rfl|refine And.intro ?_ ?_|refine ⟨_,rfl,?_⟩)) (by rfl) (by kernel_rfl) (by simp) [(0,some (.box [.map 5])),(1,some (.box [.d (dF f)])),(2,some (.box [zaN])),(3,some (.box [.map 6])),(4,some (.box [.own 11])),(5,some (.map (zA s2.done))),(6,some (.map (zaa s2.out 0))),(10,none),(11,some (.row 6 (s2.out.map dNd)))] rfl ?_
 (repeat' ((conv=>whnf);first|refine vA ?_|refine vJ fun hg=>?_|refine vT ?_|(refine vP ?_ ?_;·(simp only [vM] at *;omega))|refine zaD.mk _ ‹_› ?_));all_goals try conv=>whnf
 refine ⟨trivial,_,[(0,0),(1,1),(2,2),(3,3),(4,4),(5,5),(6,6),(8,13)],[],rfl,.inl (by (repeat' exact rfl)),⟨by rfl,by rfl,by rfl,trivial,by (repeat' first|exact trivial|exact rfl|refine And.intro ?_ ?_|refine ⟨_,rfl,?_⟩|exact of_decide_eq_true rfl)⟩,by (repeat' first|exact trivial|exact rfl|refine And.intro ?_ ?_|refine ⟨_,rfl,?_⟩)⟩
end Go.Ab
namespace Go.Ab
open Go Go.Proofs
set_option maxRecDepth 10000
set_option maxHeartbeats 4000000
set_option maxHeartbeats 40000000
variable {T:Nat→Obj→Prop}
theorem zAW {f:List Nd} (hL:f.length≤1000) {k:Nat} {n:Nd} (hn:f[k]? = some n) (hfd:zq (zA (FSt.done ⟨[],[]⟩)) (.int .i64 (k:Int))=some none) (hu:Fn Tryz.prog T zU [.d (.int .i64 n.op)] [] (.d (.tup [.agg [.bool false,.bool false,.bool (zZ n.op),.bool (zJ n.op),.bool (zN n.op),.bool (zK n.op),.int .i64 (zaS n.op)],.bool (zcA n.op)])) []) (hfn:zq (zaa (FSt.out ⟨[],[]⟩) 0) (dNd n)=some none) :
  Fn Tryz.prog T zj (zaX (k:Int)) (zaW f (.nils 6) ⟨[],[]⟩) (.d (.int .i64 ((((FSt.out ⟨[],[]⟩).map dNd).length:Nat):Int))) [some (.box [.map 5]),some (.box [.d (dF f)]),some (.box [zaN]),some (.box [.map 6]),some (.box [.own 7]),some (.map (zA (FSt.done ⟨[],[]⟩)++[(.int .i64 (k:Int),.int .i64 ((((FSt.out ⟨[],[]⟩).map dNd).length:Nat):Int))])),some (.map (zaa (FSt.out ⟨[],[]⟩) 0++[(dNd n,.int .i64 ((((FSt.out ⟨[],[]⟩).map dNd).length:Nat):Int))])),some (.row 6 ((FSt.out ⟨[],[]⟩).map dNd++[dNd n]))]:=by
 refine z6 zu zL (by show 6≤68;decide) _ (fun e env mem n h=>h) ?_
 (repeat' ((conv=>whnf);first|refine vA ?_|refine vH ?_|refine vT ?_|refine vN ‹_› ?_|(refine vP ?_ ?_;·(simp only [vM] at *;omega))|refine yD hu (by (repeat refine ⟨⟨rfl,rfl⟩,?_⟩);rfl) rfl ?_|refine zaD.mk _ ‹_› ?_));all_goals try conv=>whnf
 refine ⟨trivial,_,[(0,0),(1,1),(2,2),(3,3),(4,4),(5,5),(6,6),(7,10)],[],rfl,.inl (by (repeat' exact rfl)),⟨by rfl,by rfl,by rfl,trivial,by (repeat' first|exact trivial|exact rfl|refine And.intro ?_ ?_|refine ⟨_,rfl,?_⟩|exact of_decide_eq_true rfl)⟩,by (repeat' first|exact trivial|exact rfl|refine And.intro ?_ ?_|refine ⟨_,rfl,?_⟩)⟩
end Go.Ab
namespace Go.Ab
open Go Go.Proofs
set_option maxRecDepth 10000
set_option maxHeartbeats 4000000
set_option maxHeartbeats 40000000
variable {T:Nat→Obj→Prop}
theorem zAX {f:List Nd} (hL:f.length≤1000) {k:Nat} {n:Nd} (hn:f[k]? = some n) (hfd:zq (zA (FSt.done ⟨[],[]⟩)) (.int .i64 (k:Int))=some none) (hu:Fn Tryz.prog T zU [.d (.int .i64 n.op)] [] (.d (.tup [.agg [.bool true,.bool false,.bool (zZ n.op),.bool (zJ n.op),.bool (zN n.op),.bool (zK n.op),.int .i64 (zaS n.op)],.bool (zcA n.op)])) []) {r1:Nat} {s1:FSt} (hl1:s1.out.length≤1000) (c1:Fn Tryz.prog T zj (zaX n.x) (zaW f (.nils 6) ⟨[],[]⟩) (.d (.int .i64 (r1:Int))) (zew f s1)) (hfd1:zq (zA s1.done) (.int .i64 (k:Int))=some none) {j:Nat} (hfn:zq (zaa s1.out 0) (dNd ⟨n.op,n.i,n.e,n.g,(r1:Int),n.y⟩)=some (some (.int .i64 (j:Int)))) :
  Fn Tryz.prog T zj (zaX (k:Int)) (zaW f (.nils 6) ⟨[],[]⟩) (.d (.int .i64 (j:Int))) [some (.box [.map 5]),some (.box [.d (dF f)]),some (.box [zaN]),some (.box [.map 6]),some (.box [.own 7]),some (.map (zA s1.done++[(.int .i64 (k:Int),.int .i64 (j:Int))])),some (.map (zaa s1.out 0)),some (.row 6 (s1.out.map dNd))]:=by
 refine z6 zu zL (by show 6≤68;decide) _ (fun e env mem n h=>h) ?_
 (repeat' ((conv=>whnf);first|refine vA ?_|refine vG ?_|refine vT ?_|refine vN ‹_› ?_|refine yD hu (by (repeat refine ⟨⟨rfl,rfl⟩,?_⟩);rfl) rfl ?_|refine zaD.mk _ ‹_› ?_));all_goals try conv=>whnf
 refine zS.objsE [0,1,2,3,4,5,6] (c1) (by (repeat' first|exact rfl|refine And.intro ?_ ?_|refine ⟨_,rfl,?_⟩)) (by (repeat' first|exact rfl|refine And.intro ?_ ?_|refine ⟨_,rfl,?_⟩)) (by rfl) (by kernel_rfl) (by simp) [(0,some (.box [.map 5])),(1,some (.box [.d (dF f)])),(2,some (.box [zaN])),(3,some (.box [.map 6])),(4,some (.box [.own 9])),(5,some (.map (zA s1.done))),(6,some (.map (zaa s1.out 0))),(9,some (.row 6 (s1.out.map dNd)))] rfl ?_
 (repeat' ((conv=>whnf);first|refine vA ?_|refine vE ?_|refine vG ?_|refine vH ?_|refine vT ?_|refine zaD.mk _ ‹_› ?_));all_goals try conv=>whnf
 refine ⟨trivial,_,[(0,0),(1,1),(2,2),(3,3),(4,4),(5,5),(6,6),(7,9)],[],rfl,.inl (by (repeat' exact rfl)),⟨by rfl,by rfl,by rfl,trivial,by (repeat' first|exact trivial|exact rfl|refine And.intro ?_ ?_|refine ⟨_,rfl,?_⟩|exact of_decide_eq_true rfl)⟩,by (repeat' first|exact trivial|exact rfl|refine And.intro ?_ ?_|refine ⟨_,rfl,?_⟩)⟩
theorem zAY {f:List Nd} (hL:f.length≤1000) {k:Nat} {n:Nd} (hn:f[k]? = some n) (hfd:zq (zA (FSt.done ⟨[],[]⟩)) (.int .i64 (k:Int))=some none) (hu:Fn Tryz.prog T zU [.d (.int .i64 n.op)] [] (.d (.tup [.agg [.bool true,.bool false,.bool (zZ n.op),.bool (zJ n.op),.bool (zN n.op),.bool (zK n.op),.int .i64 (zaS n.op)],.bool (zcA n.op)])) []) {r1:Nat} {s1:FSt} (hl1:s1.out.length≤1000) (c1:Fn Tryz.prog T zj (zaX n.x) (zaW f (.nils 6) ⟨[],[]⟩) (.d (.int .i64 (r1:Int))) (zew f s1)) (hfd1:zq (zA s1.done) (.int .i64 (k:Int))=some none) (hfn:zq (zaa s1.out 0) (dNd ⟨n.op,n.i,n.e,n.g,(r1:Int),n.y⟩)=some none) :
  Fn Tryz.prog T zj (zaX (k:Int)) (zaW f (.nils 6) ⟨[],[]⟩) (.d (.int .i64 (((s1.out.map dNd).length:Nat):Int))) [some (.box [.map 5]),some (.box [.d (dF f)]),some (.box [zaN]),some (.box [.map 6]),some (.box [.own 7]),some (.map (zA s1.done++[(.int .i64 (k:Int),.int .i64 (((s1.out.map dNd).length:Nat):Int))])),some (.map (zaa s1.out 0++[(dNd ⟨n.op,n.i,n.e,n.g,(r1:Int),n.y⟩,.int .i64 (((s1.out.map dNd).length:Nat):Int))])),some (.row 6 (s1.out.map dNd++[dNd ⟨n.op,n.i,n.e,n.g,(r1:Int),n.y⟩]))]:=by
 refine z6 zu zL (by show 6≤68;decide) _ (fun e env mem n h=>h) ?_
 (repeat' ((conv=>whnf);first|refine vA ?_|refine vG ?_|refine vT ?_|refine vN ‹_› ?_|refine yD hu (by (repeat refine ⟨⟨rfl,rfl⟩,?_⟩);rfl) rfl ?_|refine zaD.mk _ ‹_› ?_));all_goals try conv=>whnf
 refine zS.objsE [0,1,2,3,4,5,6] (c1) (by (repeat' first|exact rfl|refine And.intro ?_ ?_|refine ⟨_,rfl,?_⟩)) (by (repeat' first|exact rfl|refine And.intro ?_ ?_|refine ⟨_,rfl,?_⟩)) (by rfl) (by kernel_rfl) (by simp) [(0,some (.box [.map 5])),(1,some (.box [.d (dF f)])),(2,some (.box [zaN])),(3,some (.box [.map 6])),(4,some (.box [.own 9])),(5,some (.map (zA s1.done))),(6,some (.map (zaa s1.out 0))),(9,some (.row 6 (s1.out.map dNd)))] rfl ?_
 (repeat' ((conv=>whnf);first|refine vA ?_|refine vH ?_|refine vJ fun hg=>?_|refine vT ?_|(refine vP ?_ ?_;·(simp only [vM] at *;omega))|refine zaD.mk _ ‹_› ?_));all_goals try conv=>whnf
 refine ⟨trivial,_,[(0,0),(1,1),(2,2),(3,3),(4,4),(5,5),(6,6),(7,11)],[],rfl,.inl (by (repeat' exact rfl)),⟨by rfl,by rfl,by rfl,trivial,by (repeat' first|exact trivial|exact rfl|refine And.intro ?_ ?_|refine ⟨_,rfl,?_⟩|exact of_decide_eq_true rfl)⟩,by (repeat' first|exact trivial|exact rfl|refine And.intro ?_ ?_|refine ⟨_,rfl,?_⟩)⟩
end Go.Ab
namespace Go.Ab
open Go Go.Proofs
set_option maxRecDepth 10000
set_option maxHeartbeats 4000000
set_option maxHeartbeats 40000000
variable {T:Nat→Obj→Prop}
theorem zAZ {f:List Nd} (hL:f.length≤1000) {k:Nat} {n:Nd} (hn:f[k]? = some n) (hfd:zq (zA (FSt.done ⟨[],[]⟩)) (.int .i64 (k:Int))=some none) (hu:Fn Tryz.prog T zU [.d (.int .i64 n.op)] [] (.d (.tup [.agg [.bool true,.bool true,.bool (zZ n.op),.bool (zJ n.op),.bool (zN n.op),.bool (zK n.op),.int .i64 (zaS n.op)],.bool (zcA n.op)])) []) {r1:Nat} {s1:FSt} (hl1:s1.out.length≤1000) (c1:Fn Tryz.prog T zj (zaX n.x) (zaW f (.nils 6) ⟨[],[]⟩) (.d (.int .i64 (r1:Int))) (zew f s1)) (hfd1:zq (zA s1.done) (.int .i64 (k:Int))=some none) {r2:Nat} {s2:FSt} (hl2:s2.out.length≤1000) (c2:Fn Tryz.prog T zj (zaX n.y) (zaW f (.own 7) s1++[.row 6 (s1.out.map dNd)]) (.d (.int .i64 (r2:Int))) (zdj f s2)) (hfd2:zq (zA s2.done) (.int .i64 (k:Int))=some none) {j:Nat} (hfn:zq (zaa s2.out 0) (dNd ⟨n.op,n.i,n.e,n.g,(r1:Int),(r2:Int)⟩)=some (some (.int .i64 (j:Int)))) :
  Fn Tryz.prog T zj (zaX (k:Int)) (zaW f (.nils 6) ⟨[],[]⟩) (.d (.int .i64 (j:Int))) [some (.box [.map 5]),some (.box [.d (dF f)]),some (.box [zaN]),some (.box [.map 6]),some (.box [.own 7]),some (.map (zA s2.done++[(.int .i64 (k:Int),.int .i64 (j:Int))])),some (.map (zaa s2.out 0)),some (.row 6 (s2.out.map dNd))]:=by
 refine z6 zu zL (by show 6≤68;decide) _ (fun e env mem n h=>h) ?_
 (repeat' ((conv=>whnf);first|refine vA ?_|refine vG ?_|refine vT ?_|refine vN ‹_› ?_|refine yD hu (by (repeat refine ⟨⟨rfl,rfl⟩,?_⟩);rfl) rfl ?_|refine zaD.mk _ ‹_› ?_));all_goals try conv=>whnf
 refine zS.objsE [0,1,2,3,4,5,6] (c1) (by (repeat' first|exact rfl|refine And.intro ?_ ?_|refine ⟨_,rfl,?_⟩)) (by (repeat' first|exact rfl|refine And.intro ?_ ?_|refine ⟨_,rfl,?_⟩)) (by rfl) (by kernel_rfl) (by simp) [(0,some (.box [.map 5])),(1,some (.box [.d (dF f)])),(2,some (.box [zaN])),(3,some (.box [.map 6])),(4,some (.box [.own 9])),(5,some (.map (zA s1.done))),(6,some (.map (zaa s1.out 0))),(9,some (.row 6 (s1.out.map dNd)))] rfl ?_
 (repeat' ((conv=>whnf);first|refine vA ?_|refine vG ?_|refine vT ?_));all_goals try conv=>whnf
 refine zS.objsE [0,1,2,3,4,5,6,9] (c2) (by (repeat' first|exact rfl|refine And.intro ?_ ?_|refine ⟨_,rfl,?_⟩)) (by (repeat' first|exact rfl|refine And.intro ?_ ?_|refine ⟨_,rfl,?_⟩)) (by rfl) (by kernel_rfl) (by simp) [(0,some (.box [.map 5])),(1,some (.box [.d (dF f)])),(2,some (.box [zaN])),(3,some (.box [.map 6])),(4,some (.box [.own 10])),(5,some (.map (zA s2.done))),(6,some (.map (zaa s2.out 0))),(9,none),(10,some (.row 6 (s2.out.map dNd)))] rfl ?_
 (repeat' ((conv=>whnf);first|refine vA ?_|refine vE ?_|refine vG ?_|refine vT ?_|refine zaD.mk _ ‹_› ?_));all_goals try conv=>whnf
 refine ⟨trivial,_,[(0,0),(1,1),(2,2),(3,3),(4,4),(5,5),(6,6),(7,10)],[],rfl,.inl (by (repeat' exact rfl)),⟨by rfl,by rfl,by rfl,trivial,by (repeat' first|exact trivial|exact rfl|refine And.intro ?_ ?_|refine ⟨_,rfl,?_⟩|exact of_decide_eq_true rfl)⟩,by (repeat' first|exact trivial|exact rfl|refine And.intro ?_ ?_|refine ⟨_,rfl,?_⟩)⟩
theorem zA0 {f:List Nd} (hL:f.length≤1000) {k:Nat} {n:Nd} (hn:f[k]? = some n) (hfd:zq (zA (FSt.done ⟨[],[]⟩)) (.int .i64 (k:Int))=some none) (hu:Fn Tryz.prog T zU [.d (.int .i64 n.op)] [] (.d (.tup [.agg [.bool true,.bool true,.bool (zZ n.op),.bool (zJ n.op),.bool (zN n.op),.bool (zK n.op),.int .i64 (zaS n.op)],.bool (zcA n.op)])) []) {r1:Nat} {s1:FSt} (hl1:s1.out.length≤1000) (c1:Fn Tryz.prog T zj (zaX n.x) (zaW f (.nils 6) ⟨[],[]⟩) (.d (.int .i64 (r1:Int))) (zew f s1)) (hfd1:zq (zA s1.done) (.int .i64 (k:Int))=some none) {r2:Nat} {s2:FSt} (hl2:s2.out.length≤1000) (c2:Fn Tryz.prog T zj (zaX n.y) (zaW f (.own 7) s1++[.row 6 (s1.out.map dNd)]) (.d (.int .i64 (r2:Int))) (zdj f s2)) (hfd2:zq (zA s2.done) (.int .i64 (k:Int))=some none) (hfn:zq (zaa s2.out 0) (dNd ⟨n.op,n.i,n.e,n.g,(r1:Int),(r2:Int)⟩)=some none) :
  Fn Tryz.prog T zj (zaX (k:Int)) (zaW f (.nils 6) ⟨[],[]⟩) (.d (.int .i64 (((s2.out.map dNd).length:Nat):Int))) [some (.box [.map 5]),some (.box [.d (dF f)]),some (.box [zaN]),some (.box [.map 6]),some (.box [.own 7]),some (.map (zA s2.done++[(.int .i64 (k:Int),.int .i64 (((s2.out.map dNd).length:Nat):Int))])),some (.map (zaa s2.out 0++[(dNd ⟨n.op,n.i,n.e,n.g,(r1:Int),(r2:Int)⟩,.int .i64 (((s2.out.map dNd).length:Nat):Int))])),some (.row 6 (s2.out.map dNd++[dNd ⟨n.op,n.i,n.e,n.g,(r1:Int),(r2:Int)⟩]))]:=by
 refine z6 zu zL (by show 6≤68;decide) _ (fun e env mem n h=>h) ?_
 (repeat' ((conv=>whnf);first|refine vA ?_|refine vG ?_|refine vT ?_|refine vN ‹_› ?_|refine yD hu (by (repeat refine ⟨⟨rfl,rfl⟩,?_⟩);rfl) rfl ?_|refine zaD.mk _ ‹_› ?_));all_goals try conv=>whnf
 refine zS.objsE [0,1,2,3,4,5,6] (c1) (by (repeat' first|exact rfl|refine And.intro ?_ ?_|refine ⟨_,rfl,?_⟩)) (by (repeat' first|exact rfl|refine And.intro ?_ ?_|refine ⟨_,rfl,?_⟩)) (by rfl) (by kernel_rfl) (by simp) [(0,some (.box [.map 5])),(1,some (.box [.d (dF f)])),(2,some (.box [zaN])),(3,some (.box [.map 6])),(4,some (.box [.own 9])),(5,some (.map (zA s1.done))),(6,some (.map (zaa s1.out 0))),(9,some (.row 6 (s1.out.map dNd)))] rfl ?_
 (repeat' ((conv=>whnf);first|refine vA ?_|refine vG ?_|refine vT ?_));all_goals try conv=>whnf
 refine zS.objsE [0,1,2,3,4,5,6,9] (c2) (by (repeat' first|exact rfl|refine And.intro ?_ ?_|refine ⟨_,rfl,?_⟩)) (by (repeat' first|exact rfl|refine And.intro ?_ ?_|refine ⟨_,rfl,?_⟩)) (by rfl) (by kernel_rfl) (by simp) [(0,some (.box [.map 5])),(1,some (.box [.d (dF f)])),(2,some (.box [zaN])),(3,some (.box [.map 6])),(4,some (.box [.own 10])),(5,some (.map (zA s2.done))),(6,some (.map (zaa s2.out 0))),(9,none),(10,some (.row 6 (s2.out.map dNd)))] rfl ?_
 (repeat' ((conv=>whnf);first|refine vA ?_|refine vJ fun hg=>?_|refine vT ?_|(refine vP ?_ ?_;·(simp only [vM] at *;omega))|refine zaD.mk _ ‹_› ?_));all_goals try conv=>whnf
 refine ⟨trivial,_,[(0,0),(1,1),(2,2),(3,3),(4,4),(5,5),(6,6),(7,12)],[],rfl,.inl (by (repeat' exact rfl)),⟨by rfl,by rfl,by rfl,trivial,by (repeat' first|exact trivial|exact rfl|refine And.intro ?_ ?_|refine ⟨_,rfl,?_⟩|exact of_decide_eq_true rfl)⟩,by (repeat' first|exact trivial|exact rfl|refine And.intro ?_ ?_|refine ⟨_,rfl,?_⟩)⟩
end Go.Ab
namespace Go.Ab
open Go Go.Proofs
set_option maxRecDepth 10000
set_option maxHeartbeats 4000000
variable {T:Nat→Obj→Prop}
theorem zA2 {f:List Nd} (hf:zaZ f) (hL:f.length≤1000) : ∀ (m k:Nat) (i:Int) (s:FSt),k < m→i=k→k < f.length→zjl f s →
  Fn Tryz.prog T zj (zaX i) (zaW f (.own 7) s++[.row 6 (s.out.map dNd)]) (.d (.int .i64 ((fin f (k+1) k s).1:Int))) (zdj f (fin f (k+1) k s).2):=by
 intro m
 induction m with
 | zero=>intro k i s h;omega
 | succ m ih =>
  intro k i s hk hi hkf hs
  subst hi
  have hl:s.out.length≤1000:=Nat.le_trans (ziG hs) hL
  cases hd:s.done.lookup k with
  | some r =>
   have e:fin f (k+1) k s=(r,s):=by rw [fin,hd]
   have hfd:zq (zA s.done) (.int .i64 (k:Int))=some (some (D.int .i64 (r:Int))):=by rw [zqx,hd];rfl
   rw [e]
   refine z6 zu zL (by show 6≤68;decide) _ (fun e env mem n h=>h) ?_
   (repeat' ((conv=>whnf);first|refine vA ?_|refine vG ?_|refine vT ?_|refine zaD.mk _ ‹_› ?_));all_goals try conv=>whnf
   refine ⟨trivial,_,[(0,0),(1,1),(2,2),(3,3),(4,4),(5,5),(6,6),(8,7)],[],rfl,.inl (by (repeat' exact rfl)),⟨by rfl,by rfl,by rfl,trivial,by (repeat' first|exact trivial|exact rfl|refine And.intro ?_ ?_|refine ⟨_,rfl,?_⟩|exact of_decide_eq_true rfl)⟩,by (repeat' first|exact trivial|exact rfl|refine And.intro ?_ ?_|refine ⟨_,rfl,?_⟩)⟩
  | none =>
   obtain ⟨n,hn⟩ : ∃ n,f[k]? = some n:=⟨f[k],by simp [hkf]⟩
   have hn':f.getD k default=n:=by simp [List.getD,hn]
   cases hx:zaq n.op with
   | false =>
    have hy:zaf n.op=false:=by
     cases hy:zaf n.op with
     | true=>rw [zaU hy] at hx;cases hx
     | false=>rfl
    have hu:=zgZ (T:=T) hx hy
    have e:=zv6 hf hkf hd (by rw [hn'];exact hx) (by rw [hn'];exact hy)
    rw [hn'] at e
    cases hp:s.out.idxOf? n with
    | some j =>
     rw [z7 hp] at e
     rw [e]
     simp only [zdj,zaC]
     exact zAQ hL hn hl (zx hd) hu (zdq hp)
    | none =>
     rw [zbf hp,← List.length_map (f:=dNd)] at e
     rw [e]
     simp only [zdj,zaC,zcU,List.map_append,List.map_cons,List.map_nil]
     exact zAR hL hn hl (zx hd) hu (zcf hp)
   | true =>
    have hxk:=zbn hf hkf (by rw [hn'];exact hx)
    rw [hn'] at hxk
    obtain ⟨i1,d1⟩:=zgH hf hxk.2 (by omega) hs hd
    have c1:=ih n.x.toNat n.x s (by omega) (by omega) (by omega) hs
    cases h1:fin f (n.x.toNat+1) n.x.toNat s with
    | mk r1 s1 =>
    rw [h1] at i1 d1 c1
    simp only at i1 d1 c1
    have l1:s1.out.length≤1000:=Nat.le_trans (ziG i1) hL
    cases hy:zaf n.op with
    | false =>
     have hu:=zgZ (T:=T) hx hy
     have e:=zv7 hf hkf hd hn' hx hy h1
     cases hp:s1.out.idxOf? ⟨n.op,n.i,n.e,n.g,(r1:Int),n.y⟩ with
     | some j =>
      rw [z7 hp] at e
      rw [e]
      simp only [zdj,zaC]
      exact zAS hL hn hl (zx hd) hu l1 c1 (zx d1) (zdq hp)
     | none =>
      rw [zbf hp,← List.length_map (f:=dNd)] at e
      rw [e]
      simp only [zdj,zaC,zcU,List.map_append,List.map_cons,List.map_nil]
      exact zAT hL hn hl (zx hd) hu l1 c1 (zx d1) (zcf hp)
    | true =>
     have hyk:=zey hf hkf (by rw [hn'];exact hy)
     rw [hn'] at hyk
     obtain ⟨i2,d2⟩:=zgH hf hyk.2 (by omega) i1 d1
     have c2:=ih n.y.toNat n.y s1 (by omega) (by omega) (by omega) i1
     cases h2:fin f (n.y.toNat+1) n.y.toNat s1 with
     | mk r2 s2 =>
     rw [h2] at i2 d2 c2
     simp only at i2 d2 c2
     have l2:s2.out.length≤1000:=Nat.le_trans (ziG i2) hL
     have hu:=zgZ (T:=T) hx hy
     have e:=zv8 hf hkf hd hn' hx hy h1 h2
     cases hp:s2.out.idxOf? ⟨n.op,n.i,n.e,n.g,(r1:Int),(r2:Int)⟩ with
     | some j =>
      rw [z7 hp] at e
      rw [e]
      simp only [zdj,zaC]
      exact zAU hL hn hl (zx hd) hu l1 c1 (zx d1) l2 c2 (zx d2) (zdq hp)
     | none =>
      rw [zbf hp,← List.length_map (f:=dNd)] at e
      rw [e]
      simp only [zdj,zaC,zcU,List.map_append,List.map_cons,List.map_nil]
      exact zAV hL hn hl (zx hd) hu l1 c1 (zx d1) l2 c2 (zx d2) (zcf hp)
theorem zzZ {f:List Nd} (hf:zaZ f) (hL:f.length≤1000) : ∀ (m k:Nat) (i:Int),k < m→i=k→k < f.length →
  Fn Tryz.prog T zj (zaX i) (zaW f (.nils 6) ⟨[],[]⟩) (.d (.int .i64 ((fin f (k+1) k ⟨[],[]⟩).1:Int))) (zew f (fin f (k+1) k ⟨[],[]⟩).2):=by
 intro m
 induction m with
 | zero=>intro k i h;omega
 | succ m ih =>
  intro k i hk hi hkf
  subst hi
  have hs:=zt8 f
  have hd:(FSt.mk [] []).done.lookup k=none:=rfl
  have hx0:True:=trivial
  cases hx0 with
  | intro =>
   obtain ⟨n,hn⟩ : ∃ n,f[k]? = some n:=⟨f[k],by simp [hkf]⟩
   have hn':f.getD k default=n:=by simp [List.getD,hn]
   cases hx:zaq n.op with
   | false =>
    have hy:zaf n.op=false:=by
     cases hy:zaf n.op with
     | true=>rw [zaU hy] at hx;cases hx
     | false=>rfl
    have hu:=zgZ (T:=T) hx hy
    have e:=zv6 hf hkf hd (by rw [hn'];exact hx) (by rw [hn'];exact hy)
    rw [hn'] at e
    have hp:([]:List Nd).idxOf? n=none:=rfl
    rw [zbf hp,← List.length_map (f:=dNd)] at e
    rw [e]
    simp only [zew,zaC,zcU,List.map_append,List.map_cons,List.map_nil]
    exact zAW hL hn (zx hd) hu (zcf hp)
   | true =>
    have hxk:=zbn hf hkf (by rw [hn'];exact hx)
    rw [hn'] at hxk
    obtain ⟨i1,d1⟩:=zgH hf hxk.2 (by omega) hs hd
    have c1:=ih n.x.toNat n.x (by omega) (by omega) (by omega)
    cases h1:fin f (n.x.toNat+1) n.x.toNat (FSt.mk [] []) with
    | mk r1 s1 =>
    rw [h1] at i1 d1 c1
    simp only at i1 d1 c1
    have l1:s1.out.length≤1000:=Nat.le_trans (ziG i1) hL
    cases hy:zaf n.op with
    | false =>
     have hu:=zgZ (T:=T) hx hy
     have e:=zv7 hf hkf hd hn' hx hy h1
     cases hp:s1.out.idxOf? ⟨n.op,n.i,n.e,n.g,(r1:Int),n.y⟩ with
     | some j =>
      rw [z7 hp] at e
      rw [e]
      simp only [zew,zaC]
      exact zAX hL hn (zx hd) hu l1 c1 (zx d1) (zdq hp)
     | none =>
      rw [zbf hp,← List.length_map (f:=dNd)] at e
      rw [e]
      simp only [zew,zaC,zcU,List.map_append,List.map_cons,List.map_nil]
      exact zAY hL hn (zx hd) hu l1 c1 (zx d1) (zcf hp)
    | true =>
     have hyk:=zey hf hkf (by rw [hn'];exact hy)
     rw [hn'] at hyk
     obtain ⟨i2,d2⟩:=zgH hf hyk.2 (by omega) i1 d1
     have c2:=zA2 (T:=T) hf hL (n.y.toNat+1) n.y.toNat n.y s1 (by omega) (by omega) (by omega) i1
     cases h2:fin f (n.y.toNat+1) n.y.toNat s1 with
     | mk r2 s2 =>
     rw [h2] at i2 d2 c2
     simp only at i2 d2 c2
     have l2:s2.out.length≤1000:=Nat.le_trans (ziG i2) hL
     have hu:=zgZ (T:=T) hx hy
     have e:=zv8 hf hkf hd hn' hx hy h1 h2
     cases hp:s2.out.idxOf? ⟨n.op,n.i,n.e,n.g,(r1:Int),(r2:Int)⟩ with
     | some j =>
      rw [z7 hp] at e
      rw [e]
      simp only [zew,zaC]
      exact zAZ hL hn (zx hd) hu l1 c1 (zx d1) l2 c2 (zx d2) (zdq hp)
     | none =>
      rw [zbf hp,← List.length_map (f:=dNd)] at e
      rw [e]
      simp only [zew,zaC,zcU,List.map_append,List.map_cons,List.map_nil]
      exact zA0 hL hn (zx hd) hu l1 c1 (zx d1) l2 c2 (zx d2) (zcf hp)
end Go.Ab
namespace Go.Ab
def uni (m:Hd→Nat) (c:List Nd):Nat:=c.foldl (fun s n=>s|||m n.hd) 0
theorem zxy (m:Hd→Nat) : ∀ (c:List Nd) (s:Nat) (i:Nat),(c.foldl (fun s n=>s|||m n.hd) s).testBit i=(s.testBit i||c.any fun n=>(m n.hd).testBit i)
 | [],s,i=>by simp
 | n::r,s,i=>by simp only [List.foldl_cons,zxy m r,Nat.testBit_or,List.any_cons,Bool.or_assoc]
theorem zl4 (m:Hd→Nat) (c:List Nd) (i:Nat):(uni m c).testBit i=c.any fun n=>(m n.hd).testBit i:=by
 unfold uni;rw [zxy];simp
theorem zzg (m:Hd→Nat) {c:List Nd} {k:Nat} {n:Nd} (h:c[k]? = some n):uni m (c.take (k+1))=uni m (c.take k)|||m n.hd:=by
 unfold uni
 rw [List.take_add_one,h]
 simp
theorem zlz (m:Hd→Nat) {b:Nat} : ∀ {c:List Nd},uni m c < 2 ^ b ↔ ∀ n∈c,m n.hd < 2 ^ b:=by
 intro c
 constructor
 ·intro h n hn
  refine Nat.lt_pow_two_of_testBit _ fun i hi=>?_
  have h1:=Nat.testBit_lt_two_pow (Nat.lt_of_lt_of_le h (Nat.pow_le_pow_right (by omega) hi))
  rw [zl4] at h1
  exact Bool.eq_false_iff.2 fun h2=>by
   have:(c.any fun n=>(m n.hd).testBit i)=true:=List.any_eq_true.2 ⟨n,hn,h2⟩
   rw [this] at h1;cases h1
 ·intro h
  refine Nat.lt_pow_two_of_testBit _ fun i hi=>?_
  rw [zl4]
  refine List.any_eq_false.2 fun n hn=>?_
  have:=Nat.testBit_lt_two_pow (Nat.lt_of_lt_of_le (h n hn) (Nat.pow_le_pow_right (by omega) hi))
  simp [this]
theorem zrS {a b:Nat} (ha:a < 2 ^ 63) (hb:b < 2 ^ 63):za7 .i64 (fun p q=>p&&&q) (a:Int) (b:Int)=((a&&&b:Nat):Int):=by
 unfold za7
 rw [BitVec.toNat_and,zi4 (k := .i64) (by simp [IntKind.bits];omega),zi4 (k := .i64) (by simp [IntKind.bits];omega)]
 exact znX (Nat.and_lt_two_pow _ hb)
theorem zte {a b:Nat} (ha:a < 2 ^ 63) (hb:b < 2 ^ 63):za7 .i64 (fun p q=>p &&& ~~~q) (a:Int) (b:Int)=0 ↔ ∀ i,a.testBit i=true→b.testBit i=true:=by
 unfold za7
 have h64 : ∀ {a:Nat},a < 2 ^ 63→a < 2 ^ 64:=fun h=>by omega
 have e:(BitVec.ofInt IntKind.i64.bits (a:Int) &&& ~~~BitVec.ofInt IntKind.i64.bits (b:Int)).toNat < 2 ^ 63:=by
  rw [BitVec.toNat_and,zi4 (k := .i64) (h64 ha)]
  exact Nat.lt_of_le_of_lt Nat.and_le_left ha
 rw [znX e]
 have e2:(((BitVec.ofInt IntKind.i64.bits (a:Int) &&& ~~~BitVec.ofInt IntKind.i64.bits (b:Int)).toNat:Nat):Int)=0↔(BitVec.ofInt IntKind.i64.bits (a:Int) &&& ~~~BitVec.ofInt IntKind.i64.bits (b:Int))=0#_:=by
  constructor
  ·intro h;exact BitVec.eq_of_toNat_eq (by simpa using (show (BitVec.ofInt IntKind.i64.bits (a:Int) &&& ~~~BitVec.ofInt IntKind.i64.bits (b:Int)).toNat=0 by omega))
  ·intro h;rw [h];simp
 rw [e2]
 have bit : ∀ {c:Nat},c < 2 ^ 63 → ∀ i,(BitVec.ofInt IntKind.i64.bits (c:Int)).getLsbD i=c.testBit i:=fun {c} hc i=>by
  rw [← BitVec.testBit_toNat,zi4 (k := .i64) (h64 hc)]
 constructor
 ·intro h i hi
  have h2:=congrArg (fun x=>x.getLsbD i) h
  have hlt:i < 64:=by
   refine Nat.lt_of_not_le fun hle=>?_
   have:=Nat.testBit_lt_two_pow (Nat.lt_of_lt_of_le (h64 ha) (Nat.pow_le_pow_right (by omega) hle))
   rw [this] at hi;cases hi
  simp only [BitVec.getLsbD_and,BitVec.getLsbD_not,bit ha,bit hb,hi,Bool.true_and,BitVec.getLsbD_zero] at h2
  have:decide (i < IntKind.i64.bits)=true:=decide_eq_true hlt
  rw [this] at h2
  simpa using h2
 ·intro h
  apply BitVec.eq_of_getLsbD_eq
  intro i hi
  simp only [BitVec.getLsbD_and,BitVec.getLsbD_not,bit ha,bit hb,BitVec.getLsbD_zero]
  cases ha':a.testBit i with
  | false=>simp
  | true=>simp [h i ha']
theorem zur {a n:Nat} : (a:Int).fdiv (2 ^ n)=((a >>> n:Nat):Int):=by
 have e:((2:Int) ^ n)=((2 ^ n:Nat):Int):=by simp
 rw [e,Nat.shiftRight_eq_div_pow,Int.fdiv_eq_ediv_of_nonneg _ (Int.natCast_nonneg _)];rfl
def zb9 (h:Hd):Nat:=(zaS h.op).toNat
def zff (h:Hd):Nat:=if zZ h.op=true then 2 ^ h.i.toNat else 0
def zcQ (h:Hd):Nat:=if zJ h.op=true then 2 ^ h.i.toNat else h.g.toNat
theorem zvb (h:Hd):((zb9 h:Nat):Int)=zaS h.op:=by
 unfold zb9 zaS
 repeat' split
 all_goals rfl
theorem znt (h:Hd):zb9 h < 2 ^ 9:=by
 unfold zb9 zaS
 repeat' split
 all_goals decide
theorem zx9 {h:Hd} (hh:zm1 h):zff h < 2 ^ 8:=by
 unfold zff
 split
 ·rename_i h1
  have:=hh.fact h1
  exact Nat.pow_lt_pow_right (by omega) (by omega)
 ·decide
theorem zvM {h:Hd} (hh:zm1 h):zcQ h < 2 ^ 4:=by
 unfold zcQ
 split
 ·rename_i h1
  have:=hh.agent h1
  exact Nat.pow_lt_pow_right (by omega) (by omega)
 ·cases hg:zN h.op with
  | true=>have:=hh.group hg;omega
  | false=>have:=hh.g0 hg;omega
end Go.Ab
namespace Go.Ab
open Go Go.Proofs
set_option maxRecDepth 10000
set_option maxHeartbeats 4000000
variable {T:Nat→Obj→Prop}
theorem zu5 {f:List Nd} (hf:zaZ f) (hL:f.length≤1000) {k:Nat} {i:Int} (hi:i=k) (hk:k < f.length):Fn Tryz.prog T zgw [.d (dF f),.d (.int .i64 i)] [] (.d (dF (zcw f k))) []:=by
 have c:=zzZ (T:=T) hf hL (k+1) k i (by omega) hi hk
 refine zf zu zmo (by show 2≤16;decide) ?_
 (repeat' ((conv=>whnf);refine vT ?_));all_goals try conv=>whnf
 refine zS.objs [5,0,6,3,1,4,2] (c) (by (repeat' first|exact rfl|refine And.intro ?_ ?_|refine ⟨_,rfl,?_⟩)) (by (repeat' first|exact rfl|refine And.intro ?_ ?_|refine ⟨_,rfl,?_⟩)) (by rfl) (by rfl) (by simp) ?_
 (repeat' ((conv=>whnf);refine vT ?_));all_goals try conv=>whnf
 rfl
def zly (f:List Nd) (i:Int):List Nd:=if zcx f≠0∨i < 0∨(f.length:Int)≤i then [] else zcw f i.toNat
def cL (f:List Nd):List Nd:=if zcx f≠0 then [] else zcw f (f.length - 1)
theorem zBf (f:List Nd):zly f ((f.length:Int) - 1)=cL f:=by
 unfold zly cL
 by_cases h:zcx f=0
 ·have:=(zeW.1 h).1
  rw [if_neg (by omega),if_neg (by omega)]
  congr 1
  omega
 ·rw [if_pos (.inl h),if_pos h]
theorem zA1 (f:List Nd) (i:Int):Fn Tryz.prog T zkf [.d (dF f),.d (.int .i64 i)] [] (.d (dF (zly f i))) []:=by
 refine zf zu zrg (by show 2≤21;decide) ?_
 (repeat' ((conv=>whnf);first|refine vA ?_|((first|refine vD ?_ ?_|refine vF ?_ ?_)<;>intro hc<;>try simp only [vL] at hc)|refine vJ fun hg=>?_|refine vT ?_|refine yD (zk2 _) ⟨⟨rfl,rfl⟩,rfl⟩ rfl ?_));all_goals try conv=>whnf
 ·have hp:zly f i=[]:=if_pos (.inl ‹_›)
  rw [hp];rfl
 ·have hp:zly f i=[]:=if_pos (.inr (.inl ‹_›))
  rw [hp];rfl
 ·have hp:zly f i=[]:=if_pos (.inr (.inr (by omega)))
  rw [hp];rfl
 ·have h0:zcx f=0:=by omega
  have h1:=zeW.1 h0
  have hp:zly f i=zcw f i.toNat:=if_neg (by omega)
  rw [hp]
  have cS:=zu5 (T:=T) (f:=f) h1.2.2 (by omega) (k:=i.toNat) (i:=i) (by omega) (by omega)
  (repeat' ((conv=>whnf);first|refine vT ?_|refine yN cS ⟨⟨rfl,rfl⟩,⟨rfl,rfl⟩,rfl⟩ ?_));all_goals try conv=>whnf
  rfl
theorem ztw (f:List Nd):Fn Tryz.prog T zgv [.d (dF f)] [] (.d (dF (cL f))) []:=by
 refine zf zu zmm (by show 1≤8;decide) ?_
 (repeat' ((conv=>whnf);first|refine vJ fun hg=>?_|refine vT ?_|(refine vO ?_ ?_;·(simp only [vM] at *;omega))|fail));all_goals try conv=>whnf
 have cC:=zA1 (T:=T) f (((f.map dNd).length:Int) - 1)
 rw [show zly f (((f.map dNd).length:Int) - 1)=cL f by rw [List.length_map,zBf]] at cC
 (repeat' ((conv=>whnf);first|refine vT ?_|refine yN cC ⟨⟨rfl,rfl⟩,⟨rfl,rfl⟩,rfl⟩ ?_));all_goals try conv=>whnf
 rfl
theorem zju {f:List Nd} (h:zcx f=0):zux (zaz f (f.length - 1)) (cL f)∧(cL f).length≤f.length:=by
 obtain ⟨h1,h2,h3⟩:=zeW.1 h
 unfold cL
 rw [if_neg (by omega)]
 exact ⟨zpJ h3 (by omega),(zmB h3 (by omega)).2.1⟩
theorem zvX {f:List Nd} (h:zcx f≠0):cL f=[]:=if_pos h
theorem zAJ (f:List Nd):(cL f).length≤200:=by
 by_cases h:zcx f=0
 ·have:=(zju h).2
  have:=(zeW.1 h).2.1
  omega
 ·rw [zvX h];simp
theorem zzD (f:List Nd):zaZ (cL f):=by
 by_cases h:zcx f=0
 ·exact (zju h).1.ok
 ·rw [zvX h];exact zjY
theorem zob {f:List Nd} {n:Nd} (h:n∈cL f):zm1 n.hd:=by
 obtain ⟨i,hi⟩:=List.getElem?_of_mem h
 exact (zcC.1 (zzD f i n hi)).1
theorem zBh (m:Hd→Nat) {b:Nat} (f:List Nd) (h : ∀ n∈cL f,m n.hd < 2 ^ b) (k:Nat):uni m ((cL f).take k) < 2 ^ b :=
 (zlz m).2 fun n hn=>h n (List.mem_of_mem_take hn)
theorem zns (f:List Nd) (g:Nat) (m:Hd→Nat) (hm : ∀ n,n∈cL f→m n.hd < 2 ^ 31∧Fn Tryz.prog T g [.d (dNd n),.d (znh n.op)] [] (.d (.int .i64 (m n.hd:Int))) []) :
  Fn Tryz.prog T zhP [.d (dF f),.d (.fn g [])] [] (.d (.int .i64 (uni m (cL f):Int))) []:=by
 have hlen:=zAJ f
 refine zf zu zoU (by show 2≤31;decide) ?_
 (repeat' ((conv=>whnf);first|refine vA ?_|refine vJ fun hg=>?_|refine vT ?_|refine yN (ztw _) ⟨⟨rfl,rfl⟩,rfl⟩ ?_));all_goals try conv=>whnf
 refine zaw (fun ((k,x):Nat×Int)=>[(1,.d (.fn g [])),(11,.d (dF (cL f))),(12,.d (.int .i64 (((cL f).map dNd).length:Int))),(5,.d (.int .i64 (x))),(13,.d (.int .i64 ((k:Int))))]) (fun ((k,x):Nat×Int)=>k≤(cL f).length∧x=(uni m ((cL f).take k):Nat)) (fun ((k,x):Nat×Int)=>(cL f).length - k) ((0,0)) (⟨by simp,rfl⟩) (by (repeat' first|exact trivial|exact rfl|refine And.intro ?_ ?_)) ?_
 rintro ⟨k,x⟩ ⟨hk,hI⟩
 subst hI
 (repeat' ((conv=>whnf);first|refine vA ?_|(refine vF ?_ ?_<;>intro hc<;>try simp only [vL] at hc)|refine vT ?_|(refine vQ ?_ fun x hx=>?_;·omega)|refine vX ?_|refine yN (zpR _) ⟨⟨rfl,rfl⟩,rfl⟩ ?_));all_goals try conv=>whnf
 ·obtain ⟨h1,h2⟩:=hm _ (List.mem_of_getElem? hx)
  (repeat' ((conv=>whnf);first|refine vT ?_|(refine vO ?_ ?_;·omega)|refine yD h2 (by (repeat refine ⟨⟨rfl,rfl⟩,?_⟩);rfl) rfl ?_));all_goals try conv=>whnf
  refine ⟨(k+1,_),[],[],?_,?_,by (refine ⟨rfl,rfl,rfl,?_,?_⟩;repeat' first|exact trivial|exact rfl|refine And.intro ?_ ?_)⟩
  ·exact ⟨by (omega),by rw [zzg m hx];exact zpv (Nat.lt_trans (zBh m f (fun n hn=>(hm n hn).1) k) (by decide)) (Nat.lt_trans h1 (by decide))⟩
  ·((simp only [vM] at *;omega))
 ·rw [show k=(cL f).length by omega,List.take_length]
theorem zyc (f:List Nd):Fn Tryz.prog T zhO [.d (dF f)] [] (.d (.int .i64 (uni zb9 (cL f):Int))) []:=by
 have cU:=zns (T:=T) f zeq zb9 (fun n hn=>⟨Nat.lt_trans (znt n.hd) (by decide),by
  refine zf zu zmn (by show 2≤7;decide) ?_
  (repeat' ((conv=>whnf);first|refine vT ?_|refine vX ?_));all_goals try conv=>whnf
  exact (zvb n.hd).symm⟩)
 refine zf zu zoT (by show 1≤5;decide) ?_
 (repeat' ((conv=>whnf);first|refine vT ?_|refine vX ?_|refine yD cU ⟨⟨rfl,rfl⟩,⟨rfl,rfl⟩,rfl⟩ rfl ?_));all_goals try conv=>whnf
 all_goals skip
theorem zyb (f:List Nd):Fn Tryz.prog T zhN [.d (dF f)] [] (.d (.int .i64 (uni zff (cL f):Int))) []:=by
 have cU:=zns (T:=T) f zep zff (fun n hn=>⟨Nat.lt_trans (zx9 (zob hn)) (by decide),by
  have hh:=zob hn
  cases hf:zZ n.op with
  | true =>
   obtain ⟨h0,h7⟩:0≤n.i∧n.i≤7:=hh.fact hf
   obtain ⟨h1,h2⟩:=zqR h0 h7
   have e:((zff n.hd:Nat):Int)=1 * 2 ^ min n.i.toNat IntKind.i64.bits:=by rw [zff,if_pos (by exact hf)];exact h2
   rw [e,znh,hf]
   refine zf zu zgC (by show 2≤10;decide) ?_
   (repeat' ((conv=>whnf);first|refine vA ?_|refine vG ?_|refine vT ?_|((first|refine vO ?_ ?_|refine vP ?_ ?_);·omega)|refine vX ?_));all_goals try conv=>whnf
  | false =>
   have e:zff n.hd=0:=by rw [zff,if_neg (by simp [Nd.hd,hf])]
   rw [e,znh,hf]
   refine zf zu zgC (by show 2≤10;decide) ?_
   (repeat' ((conv=>whnf);first|refine vA ?_|refine vH ?_|refine vT ?_|refine vX ?_));all_goals try conv=>whnf
   rfl⟩)
 refine zf zu zoS (by show 1≤5;decide) ?_
 (repeat' ((conv=>whnf);first|refine vT ?_|refine vX ?_|refine yD cU ⟨⟨rfl,rfl⟩,⟨rfl,rfl⟩,rfl⟩ rfl ?_));all_goals try conv=>whnf
theorem zwa (f:List Nd):Fn Tryz.prog T zhe [.d (dF f)] [] (.d (.int .i64 (uni zcQ (cL f):Int))) []:=by
 have cU:=zns (T:=T) f zdU zcQ (fun n hn=>⟨Nat.lt_trans (zvM (zob hn)) (by decide),by
  have hh:=zob hn
  cases hf:zJ n.op with
  | true =>
   obtain ⟨h0,h7⟩:0≤n.i∧n.i≤3:=hh.agent hf
   obtain ⟨h1,h2⟩:=zqR h0 (by omega)
   have e:((zcQ n.hd:Nat):Int)=1 * 2 ^ min n.i.toNat IntKind.i64.bits:=by rw [zcQ,if_pos (by exact hf)];exact h2
   rw [e,znh,hf]
   refine zf zu zgf (by show 2≤12;decide) ?_
   (repeat' ((conv=>whnf);first|refine vA ?_|refine vG ?_|refine vT ?_|((first|refine vO ?_ ?_|refine vP ?_ ?_);·omega)|refine vX ?_));all_goals try conv=>whnf
  | false =>
   have h0:0≤n.g:=by
    cases hg:zN n.op with
    | true=>have:1≤n.g∧n.g≤15:=hh.group hg;omega
    | false=>have:n.g=0:=hh.g0 hg;omega
   have e:((zcQ n.hd:Nat):Int)=n.g:=by rw [zcQ,if_neg (by simp [Nd.hd,hf])];exact Int.toNat_of_nonneg h0
   rw [e,znh,hf]
   refine zf zu zgf (by show 2≤12;decide) ?_
   (repeat' ((conv=>whnf);first|refine vA ?_|refine vH ?_|refine vT ?_|refine vX ?_));all_goals try conv=>whnf⟩)
 refine zf zu znB (by show 1≤5;decide) ?_
 (repeat' ((conv=>whnf);first|refine vT ?_|refine vX ?_|refine yD cU ⟨⟨rfl,rfl⟩,⟨rfl,rfl⟩,rfl⟩ rfl ?_));all_goals try conv=>whnf
def zf2 (m:Nat) (n:Int):Bool:=decide (31≤n∨m < 2 ^ n.toNat)
theorem zyf (m:Nat) (n:Int):Fn Tryz.prog T zeL [.d (.int .i64 (m:Int)),.d (.int .i64 n)] [] (.d (.bool (zf2 m n))) []:=by
 refine zf zu znC (by show 2≤14;decide) ?_
 (repeat' ((conv=>whnf);first|refine vA ?_|(refine vF ?_ ?_<;>intro hc<;>try simp only [vL] at hc)|refine vT ?_|(refine vP ?_ ?_;·omega)|refine vZ ?_));all_goals try conv=>whnf
 ·simp [zf2, *]
 ·show decide ((m:Int).fdiv (2 ^ min (max n 0).toNat IntKind.i64.bits)=0)=_
  have e1:(max n 0).toNat=n.toNat:=by omega
  have e2:min n.toNat IntKind.i64.bits=n.toNat:=Nat.min_eq_left (show n.toNat≤64 by omega)
  rw [e1,e2,zur,zf2,Nat.shiftRight_eq_div_pow]
  refine decide_eq_decide.2 ⟨fun h => .inr ?_,fun h=>?_⟩
  ·have h0:m / 2 ^ n.toNat=0:=by omega
   exact (Nat.div_eq_zero_iff.1 h0).resolve_left (by have:=Nat.two_pow_pos n.toNat;omega)
  ·have h0:m / 2 ^ n.toNat=0:=Nat.div_eq_zero_iff.2 (.inr (h.resolve_left (by omega)))
   rw [h0];rfl
def zjG (f:List Nd) (agents facts:Int):Bool:=decide (zcx f=0)&&zf2 (uni zcQ (cL f)) agents&&zf2 (uni zff (cL f)) facts
theorem zzW (f:List Nd) (agents facts:Int):Fn Tryz.prog T ziA [.d (dF f),.d (.int .i64 agents),.d (.int .i64 facts)] [] (.d (.bool (zjG f agents facts))) []:=by
 refine zf zu zpX (by show 3≤25;decide) ?_
 (repeat' ((conv=>whnf);first|refine vA ?_|(refine vF ?_ ?_<;>intro hc)|refine vT ?_|refine vZ ?_|refine yD (zk2 _) ⟨⟨rfl,rfl⟩,rfl⟩ rfl ?_|refine yD (zwa _) ⟨⟨rfl,rfl⟩,rfl⟩ rfl ?_|refine yD (zyb _) ⟨⟨rfl,rfl⟩,rfl⟩ rfl ?_|refine yD (zyf _ _) ⟨⟨rfl,rfl⟩,⟨rfl,rfl⟩,rfl⟩ rfl ?_));all_goals try conv=>whnf
 ·simp_all [zjG,zf2]
 ·have:zf2 (uni zcQ (cL f)) agents=false:=decide_eq_false ‹_›
  simp [zjG,this]
 ·simp_all [zjG]
end Go.Ab
namespace Go.Ab
open Go Go.Proofs
set_option maxRecDepth 10000
set_option maxHeartbeats 4000000
variable {T:Nat→Obj→Prop}
def zBM (op:BitVec 64→BitVec 64→BitVec 64) (n:Nat):Option (List (BitVec 64))→List (BitVec 64)→Option (List (BitVec 64))
 | none,r=>some r
 | some a,r=>some ((List.range n).map fun w=>op (a.getD w 0#64) (r.getD w 0#64))
def zao (op:BitVec 64→BitVec 64→BitVec 64) (m:KM) (g:Nat):Nat→Option (List (BitVec 64))
 | 0=>none
 | k+1=>if g.testBit k=true then zBM op m.W.toNat (zao op m g k) (m.rel.getD k []) else zao op m g k
def zBN:Option (List (BitVec 64))→V
 | none => .nils 1
 | some _ => .own 0
def zBL:Option (List (BitVec 64))→List D
 | none=>[]
 | some r=>r.map D.u64
theorem zrv {g k:Nat} (hg:g < 2 ^ 63) (hk:k≤64):za7 .i64 (fun p q=>p&&&q) ((g:Int).fdiv (2 ^ (min ((k:Nat):Int).toNat IntKind.i64.bits))) 1=0↔g.testBit k=false:=by
 have e1:min ((k:Nat):Int).toNat IntKind.i64.bits=k:=Nat.min_eq_left (show k≤64 from hk)
 have h1:g >>> k < 2 ^ 63:=Nat.lt_of_le_of_lt (by rw [Nat.shiftRight_eq_div_pow];exact Nat.div_le_self _ _) hg
 rw [e1,zur,show (1:Int)=((1:Nat):Int) from rfl,zrS h1 (by decide)]
 rw [Nat.testBit,Nat.and_one_is_mod,Nat.one_and_eq_mod_two,bne_eq_false_iff_eq]
 omega
theorem zlO {op:BitVec 64→BitVec 64→BitVec 64} {m:KM} (hg:zc6 m) {g:Nat} : ∀ {k:Nat} {r:List (BitVec 64)},k≤m.rel.length→zao op m g k=some r→r.length=m.W.toNat
 | 0,_,_,h=>by cases h
 | k+1,r,hk,h=>by
  rw [zao] at h
  split at h
  ·cases hz:zao op m g k with
   | none =>
    rw [hz] at h
    have e:m.rel.getD k []=r:=Option.some.inj h
    have:=hg.len r (by rw [← e,List.getD,List.getElem?_eq_getElem (by omega)];exact List.getElem_mem _)
    omega
   | some a =>
    rw [hz] at h
    have e:=Option.some.inj h
    rw [← e];simp
  ·exact zlO hg (by omega) h
theorem zqz {m:KM} (hk0:zg m=0) {f:Nat} {op:BitVec 64→BitVec 64→BitVec 64} (hop : ∀ x y,Fn Tryz.prog T f [.d (.u64 x),.d (.u64 y)] [] (.d (.u64 (op x y))) []) {g:Nat} (hg1:1≤g) (hg2:(g:Int) < 2 ^ m.rel.length):Fn Tryz.prog T ziB [.d (dKM m),.d (.int .i64 (g:Int)),.d (.fn f [])] [] (.d (dU ((zao op m g m.rel.length).getD []))) []:=by
 have gm:=zz hk0
 have w1:=gm.w1
 have w2:=gm.w2
 have n4:=gm.n4
 have ck:=za1 (T:=T) m
 rw [hk0] at ck
 refine zf zu zpZ (by show 3≤64;decide) ?_
 have hg63:g < 2 ^ 63:=by
  have h4:(2:Nat) ^ m.rel.length≤2 ^ 4:=Nat.pow_le_pow_right (by decide) n4
  have h6:(2:Nat) ^ 63=9223372036854775808:=by decide
  have h7:((2 ^ m.rel.length:Nat):Int)=(2:Int) ^ m.rel.length:=by simp
  omega
 have hpw : ∀ k:Nat,k≤4→inR .i64 (1 * 2 ^ min ((k:Nat):Int).toNat IntKind.i64.bits:Int)∧(1 * 2 ^ min ((k:Nat):Int).toNat IntKind.i64.bits:Int)=2 ^ k:=fun k hk=>by
  match k,hk with
  | 0,_=>exact ⟨by decide,by decide⟩
  | 1,_=>exact ⟨by decide,by decide⟩
  | 2,_=>exact ⟨by decide,by decide⟩
  | 3,_=>exact ⟨by decide,by decide⟩
  | 4,_=>exact ⟨by decide,by decide⟩
 (repeat' ((conv=>whnf);first|refine vA ?_|refine vH ?_|(refine vF ?_ ?_<;>intro hc<;>try simp only [vL] at hc)|refine vJ fun hg=>?_|refine vT ?_|((first|refine vO ?_ ?_|refine vP ?_ ?_);·omega)|refine yD ck ⟨⟨rfl,rfl⟩,rfl⟩ rfl ?_));all_goals try conv=>whnf
 ·exfalso;omega
 ·have hp1:=hpw (m.rel.map dU).length (by rw [List.length_map];exact n4)
  have hp2:=hp1.2
  rw [List.length_map] at hp2
  refine zjj.fit hp1.1 ?_
  (repeat' ((conv=>whnf);first|refine vA ?_|(refine vF ?_ ?_<;>intro hc<;>try simp only [vL] at hc)|refine vJ fun hg=>?_|refine vT ?_));all_goals try conv=>whnf
  ·exfalso;rw [hp2] at hc;omega
  refine zM (fun ((k,z):Nat×Option (List (BitVec 64)))=>[(1,.d (.int .i64 ((g:Int)))),(2,.d (.fn f [])),(7,zBN z),(27,.d (dUU m.rel)),(28,.d (.int .i64 ((m.rel.map dU).length:Int))),(29,.d (.int .i64 ((k:Int))))]) (fun ((k,z):Nat×Option (List (BitVec 64)))=>[(0,some (.row 1 (zBL z)))]) 1 (fun ((k,z):Nat×Option (List (BitVec 64)))=>k≤m.rel.length∧z=zao op m g k) (fun ((k,z):Nat×Option (List (BitVec 64)))=>m.rel.length - k) ((0,none)) []   [0] (⟨by omega,rfl⟩) (by (refine ⟨rfl,rfl,rfl,?_,?_⟩;repeat' first|exact trivial|exact rfl|exact ⟨_,rfl⟩|refine And.intro ?_ ?_|decide)) ?_
  rintro ⟨k,z⟩ ⟨hk,hz⟩
  by_cases hkl:k < m.rel.length
  ·cases z with
   | none =>
    (repeat' ((conv=>whnf);first|refine vA ?_|(refine vF ?_ ?_<;>intro hc<;>try simp only [vL] at hc)|refine vT ?_|(refine vQ ?_ fun x hx=>?_;·omega)|((first|refine vO ?_ ?_|refine vP ?_ ?_);·omega)|fail));all_goals try conv=>whnf
    ·have hb0:=(zrv hg63 (by omega)).1 hc
     refine ⟨(k+1,none),[] ,  [0],?_,?_,by (refine ⟨rfl,rfl,rfl,?_,?_⟩;repeat' first|exact trivial|exact rfl|exact ⟨_,rfl⟩|refine And.intro ?_ ?_|decide)⟩
     ·exact ⟨by (omega),by rw [zao,if_neg (by rw [hb0];decide),hz]⟩
     ·((simp only [vM] at *;omega))
    ·have hb0:=mt (zrv (k:=k) hg63 (by omega)).2 ‹¬_›
     have hxl:=gm.len _ (List.mem_of_getElem? hx)
     refine zS.res (zwd x (fun e=>by subst e;simp at hxl;omega) (by omega)) (by (repeat refine ⟨⟨rfl,rfl⟩,?_⟩);rfl) ?_
     (repeat' ((conv=>whnf);first|refine vT ?_|(refine vO ?_ ?_;·omega)|fail));all_goals try conv=>whnf
     refine ⟨(k+1,some x),[(0,1)],[],?_,?_,by (refine ⟨rfl,rfl,rfl,?_,?_⟩;repeat' first|exact trivial|exact rfl|refine And.intro ?_ ?_|refine ⟨_,rfl,?_⟩|decide)⟩
     ·refine ⟨by (omega),?_⟩
      have hxk:m.rel.getD k []=x:=by simp [List.getD,hx]
      rw [zao,if_pos (by simpa using hb0),← hz,hxk];rfl
     ·((simp only [vM] at *;omega))
    ·exfalso;omega
   | some a =>
    have hal:=zlO gm hk hz.symm
    (repeat' ((conv=>whnf);first|refine vA ?_|refine vB fun b hb=>?_|refine vE ?_|(refine vF ?_ ?_<;>intro hc<;>try simp only [vL] at hc)|refine vJ fun hg=>?_|refine vT ?_|(refine vQ ?_ fun x hx=>?_;·omega)|((first|refine vO ?_ ?_|refine vP ?_ ?_);·omega)|fail));all_goals try conv=>whnf
    ·have hb0:=(zrv hg63 (by omega)).1 hc
     refine ⟨(k+1,some a),[(0,0)],[],?_,?_,by (refine ⟨rfl,rfl,rfl,?_,?_⟩;repeat' first|exact trivial|exact rfl|refine And.intro ?_ ?_|refine ⟨_,rfl,?_⟩|decide)⟩
     ·exact ⟨by (omega),by rw [zao,if_neg (by rw [hb0];decide),hz]⟩
     ·((simp only [vM] at *;omega))
    ·have hb0:=mt (zrv (k:=k) hg63 (by omega)).2 ‹¬_›
     have hxl:=gm.len _ (List.mem_of_getElem? hx)
     have hxk:m.rel.getD k []=x:=by simp [List.getD,hx]
     refine zM (fun ((j,zs):Nat×List D)=>[(1,.d (.int .i64 ((g:Int)))),(2,.d (.fn f [])),(7,.own 0),(9,.d (dU x)),(27,.d (dUU m.rel)),(28,.d (.int .i64 ((m.rel.map dU).length:Int))),(29,.d (.int .i64 ((k:Int)))),(44,.d (.int .i64 (((a.map D.u64).length:Int)))),(45,.d (.int .i64 ((j:Int))))]) (fun ((j,zs):Nat×List D)=>[(0,some (.row 1 zs))]) 1 (fun ((j,zs):Nat×List D)=>j≤m.W.toNat∧zs=(List.range m.W.toNat).map fun w=>D.u64 (if w < j then op (a.getD w 0#64) (x.getD w 0#64) else a.getD w 0#64)) (fun ((j,zs):Nat×List D)=>m.W.toNat - j) ((0,a.map D.u64)) [(0,0)] [] (⟨by omega,by
      refine List.ext_getElem (by simp [hal]) fun i h1 h2=>?_
      have:i < a.length:=by simpa using h1
      simp [List.getD,this]⟩) (by (refine ⟨rfl,rfl,rfl,?_,?_⟩;repeat' first|exact trivial|exact rfl|refine And.intro ?_ ?_|refine ⟨_,rfl,?_⟩|decide)) ?_
     rintro ⟨j,zs⟩ ⟨hj,hzs⟩
     by_cases hjl:j < m.W.toNat
     ·subst hzs
      (repeat' ((conv=>whnf);first|refine vA ?_|(refine vF ?_ ?_<;>intro hc<;>try simp only [vL] at hc)|refine vT ?_|(refine vQ ?_ fun x hx=>?_;·first|omega|(simp only [vM] at *;omega))|((first|refine vO ?_ ?_|refine vP ?_ ?_);·first|omega|(simp only [vM] at *;omega))|(refine vU ?_ ?_;·kernel_rfl)|refine yD (hop _ _) (by (repeat refine ⟨⟨rfl,rfl⟩,?_⟩);rfl) rfl ?_));all_goals try conv=>whnf
      ·rename_i xn hxn
       rw [Int.toNat_natCast] at hxn
       have hxe:=zwr hxn
       subst hxe
       have hxj:(m.rel.getD k []).getD xn 0#64=x:=by rw [hxk];simp [List.getD,hx]
       refine ⟨(xn+1,_),[(0,0)],[],?_,?_,by (refine ⟨rfl,rfl,rfl,?_,?_⟩;repeat' first|exact trivial|exact rfl|refine And.intro ?_ ?_|refine ⟨_,rfl,?_⟩|decide)⟩
       ·refine ⟨by (omega),(zh4 _).trans (zaj fun u hu=>?_)⟩
        rw [Int.toNat_natCast,if_neg (Nat.lt_irrefl _)]
        by_cases e:u=xn
        ·subst e
         rw [if_pos rfl,if_pos (by omega)]
         rw [hxk] at hxj
         rw [hxj]
        ·rw [if_neg e]
         by_cases e2:u < xn
         ·rw [if_pos e2,if_pos (by omega)]
         ·rw [if_neg e2,if_neg (by omega)]
       ·((simp only [vM] at *;omega))
      ·exfalso;omega
     ·obtain rfl:j=m.W.toNat:=by omega
      obtain rfl:zs=((List.range m.W.toNat).map fun w=>op (a.getD w 0#64) (x.getD w 0#64)).map D.u64:=by
       rw [hzs,List.map_map]
       exact zaj fun u hu=>by rw [if_pos hu];rfl
      clear hzs
      (repeat' ((conv=>whnf);first|refine vA ?_|(refine vF ?_ ?_<;>intro hc<;>try simp only [vL] at hc)|refine vT ?_|(refine vQ ?_ fun x hx=>?_;·omega)|((first|refine vO ?_ ?_|refine vP ?_ ?_);·omega)|fail));all_goals try conv=>whnf
      ·exfalso;omega
      ·refine ⟨(k+1,some ((List.range m.W.toNat).map fun w=>op (a.getD w 0#64) (x.getD w 0#64))),[(0,0)],[],?_,?_,by (refine ⟨rfl,rfl,rfl,?_,?_⟩;repeat' first|exact trivial|exact rfl|refine And.intro ?_ ?_|refine ⟨_,rfl,?_⟩|decide)⟩
       ·refine ⟨by (omega),?_⟩
        rw [zao,if_pos (by simpa using hb0),← hz,hxk];rfl
       ·((simp only [vM] at *;omega))
    ·exfalso
     have hnil:a.map D.u64=[]:=hb (by simpa using hc)
     rw [List.map_eq_nil_iff] at hnil
     rw [hnil] at hal
     simp at hal;omega
    ·exfalso;omega
  ·obtain rfl:k=m.rel.length:=by omega
   cases z with
   | none =>
    (repeat' ((conv=>whnf);first|refine vA ?_|(refine vF ?_ ?_<;>intro hc<;>try simp only [vL] at hc)|refine vT ?_|(refine vQ ?_ fun x hx=>?_;·omega)|((first|refine vO ?_ ?_|refine vP ?_ ?_);·omega)|fail));all_goals try conv=>whnf
    all_goals first|(exfalso;omega)|skip
    rw [← hz];rfl
   | some a =>
    (repeat' ((conv=>whnf);first|refine vA ?_|refine vB fun b hb=>?_|refine vE ?_|(refine vF ?_ ?_<;>intro hc<;>try simp only [vL] at hc)|refine vJ fun hg=>?_|refine vT ?_|(refine vQ ?_ fun x hx=>?_;·omega)|((first|refine vO ?_ ?_|refine vP ?_ ?_);·omega)|fail));all_goals try conv=>whnf
    all_goals first|(exfalso;omega)|skip
    rw [← hz];rfl
theorem zwk {m:KM} (hk0:zg m=0) {g:Nat} (hg1:1≤g) (hg2:(g:Int) < 2 ^ m.rel.length):Fn Tryz.prog T zkg [.d (dKM m),.d (.int .i64 (g:Int))] [] (.d (dU ((zao (fun x y=>x|||y) m g m.rel.length).getD []))) []:=by
 have h1 : ∀ x y,Fn Tryz.prog T zfd [.d (.u64 x),.d (.u64 y)] [] (.d (.u64 (x|||y))) []:=fun x y=>by
  refine zf zu zoX (by show 2≤8;decide) ?_
  (repeat' ((conv=>whnf);first|refine vT ?_|refine vY ?_));all_goals try conv=>whnf
 have c1:=zqz (T:=T) hk0 h1 hg1 hg2
 refine zf zu zrj (by show 2≤8;decide) ?_
 (repeat' ((conv=>whnf);first|refine vT ?_|refine yN c1 ⟨⟨rfl,rfl⟩,⟨rfl,rfl⟩,⟨rfl,rfl⟩,rfl⟩ ?_));all_goals try conv=>whnf
 rfl
theorem zyh {m:KM} (hk0:zg m=0) {g:Nat} (hg1:1≤g) (hg2:(g:Int) < 2 ^ m.rel.length):Fn Tryz.prog T zkS [.d (dKM m),.d (.int .i64 (g:Int))] [] (.d (dU ((zao (fun x y=>x&&&y) m g m.rel.length).getD []))) []:=by
 have h1 : ∀ x y,Fn Tryz.prog T zfC [.d (.u64 x),.d (.u64 y)] [] (.d (.u64 (x&&&y))) []:=fun x y=>by
  refine zf zu zpY (by show 2≤8;decide) ?_
  (repeat' ((conv=>whnf);first|refine vT ?_|refine vY ?_));all_goals try conv=>whnf
 have c1:=zqz (T:=T) hk0 h1 hg1 hg2
 refine zf zu zss (by show 2≤8;decide) ?_
 (repeat' ((conv=>whnf);first|refine vT ?_|refine yN c1 ⟨⟨rfl,rfl⟩,⟨rfl,rfl⟩,⟨rfl,rfl⟩,rfl⟩ ?_));all_goals try conv=>whnf
 rfl
end Go.Ab
namespace Go.Ab
open Go Go.Proofs
set_option maxRecDepth 10000
set_option maxHeartbeats 4000000
variable {T:Nat→Obj→Prop}
theorem zjI {op:BitVec 64→BitVec 64→BitVec 64} {m:KM} {g:Nat} : ∀ {k:Nat},(∃ i,i < k∧g.testBit i=true) → ∃ r,zao op m g k=some r
 | 0,⟨i,hi,_⟩=>absurd hi (by omega)
 | k+1,⟨i,hi,hb⟩=>by
  rw [zao]
  by_cases h:g.testBit k=true
  ·rw [if_pos h]
   cases zao op m g k with
   | none=>exact ⟨_,rfl⟩
   | some a=>exact ⟨_,rfl⟩
  ·rw [if_neg h]
   exact zjI ⟨i,by
    rcases Nat.lt_or_ge i k with h2|h2
    ·exact h2
    ·have:i=k:=by omega
     subst this;exact absurd hb h,hb⟩
theorem zky {g n:Nat} (h1:1≤g) (h2:g < 2 ^ n) : ∃ i,i < n∧g.testBit i=true:=by
 obtain ⟨i,hi⟩:=Nat.exists_testBit_of_ne_zero (x:=g) (by omega)
 refine ⟨i,Nat.lt_of_not_le fun hn=>?_,hi⟩
 rw [Nat.testBit_lt_two_pow (Nat.lt_of_lt_of_le h2 (Nat.pow_le_pow_right (by decide) hn))] at hi
 exact absurd hi (by decide)
def zd6 (m:KM) (i:Int):List (BitVec 64):=m.rel.getD i.toNat []
def zdz (m:KM) (g:Int):List (BitVec 64):=(zao (fun x y=>x|||y) m g.toNat m.rel.length).getD []
def zih (m:KM) (g:Int):List (BitVec 64):=(zao (fun x y=>x&&&y) m g.toNat m.rel.length).getD []
theorem zsn {op:BitVec 64→BitVec 64→BitVec 64} {m:KM} (hg:zc6 m) (hop : ∀ (x y:BitVec 64) i,(op x y).getLsbD i=true→x.getLsbD i=true∨y.getLsbD i=true) {g:Nat} : ∀ {k:Nat} {r:List (BitVec 64)},k≤m.rel.length→zao op m g k=some r→zks r
 | 0,_,_,h=>by cases h
 | k+1,r,hk,h=>by
  have w1:=hg.w1
  have hin:zks (m.rel.getD k []):=fun v w hb=>by
   have hm:m.rel.getD k []∈m.rel:=by rw [List.getD,List.getElem?_eq_getElem (by omega)];exact List.getElem_mem _
   have:=hg.len _ hm
   have:=zjL hg (i:=k) (v:=v) hb
   omega
  rw [zao] at h
  split at h
  ·cases hz:zao op m g k with
   | none =>
    rw [hz] at h
    have e:m.rel.getD k []=r:=Option.some.inj h
    rw [← e];exact hin
   | some a =>
    have hal:=zlO hg (by omega) hz
    have ha:=zsn hg hop (by omega) hz
    rw [hz] at h
    have e:=Option.some.inj h
    intro v w hb
    rw [← e,List.length_map,List.length_range]
    rw [← e] at hb
    unfold rb at hb
    by_cases hv:v < m.W.toNat
    ·rw [List.getD,List.getElem?_map,List.getElem?_range hv] at hb
     rcases hop _ _ _ hb with h1|h1
     ·have:=ha v w h1;omega
     ·have:=hin v w h1
      have hm:m.rel.getD k []∈m.rel:=by rw [List.getD,List.getElem?_eq_getElem (by omega)];exact List.getElem_mem _
      have:=hg.len _ hm
      omega
    ·rw [List.getD,List.getElem?_eq_none (by simp;omega)] at hb
     simp at hb
  ·exact zsn hg hop (by omega) h
theorem ziK {op:BitVec 64→BitVec 64→BitVec 64} {m:KM} (hk0:zg m=0) (hop : ∀ (x y:BitVec 64) i,(op x y).getLsbD i=true→x.getLsbD i=true∨y.getLsbD i=true) {g:Nat} (h1:1≤g) (h2:g < 2 ^ m.rel.length):zae ((zao op m g m.rel.length).getD [])=0∧((zao op m g m.rel.length).getD []).length=m.W.toNat:=by
 have hg:=zz hk0
 have w2:=hg.w2
 obtain ⟨r,hr⟩:=zjI (op:=op) (m:=m) (zky h1 h2)
 have hl:=zlO hg (Nat.le_refl _) hr
 rw [hr]
 exact ⟨zbv.2 ⟨by show r.length≤64;omega,zsn hg hop (Nat.le_refl _) hr⟩,hl⟩
theorem zvm : ∀ (x y:BitVec 64) (i:Nat),(x|||y).getLsbD i=true→x.getLsbD i=true∨y.getLsbD i=true:=fun x y i h=>by
 rwa [BitVec.getLsbD_or,Bool.or_eq_true] at h
theorem zvO : ∀ (x y:BitVec 64) (i:Nat),(x&&&y).getLsbD i=true→x.getLsbD i=true∨y.getLsbD i=true:=fun x y i h=>by
 rw [BitVec.getLsbD_and,Bool.and_eq_true] at h
 exact .inl h.1
noncomputable def zbr (m:KM) (h:Hd) (x y:BitVec 64):BitVec 64×Bool :=
 if h.op=1 then (zaQ m.W,true) else if h.op=2 then (0#64,true) else if h.op=3 then (if (m.val.length:Int)≤h.i then (0#64,false) else (m.val.getD h.i.toNat 0#64,true)) else
 if h.op=4 then (zaQ m.W &&& ~~~x,true) else if h.op=5 then (x&&&y,true) else if h.op=6 then (x|||y,true) else if h.op=7 then (zaQ m.W &&& ~~~x|||y,true) else if h.op=8 then (zaQ m.W &&& ~~~(x ^^^ y),true) else
 if h.op=9 then (if (m.rel.length:Int)≤h.i then (0#64,false) else (zeI (zd6 m h.i) x,true)) else if h.op=10 then (if (m.rel.length:Int)≤h.i then (0#64,false) else (znj (zd6 m h.i) x,true)) else
 if h.op=11 then (if (2:Int) ^ m.rel.length≤h.g then (0#64,false) else (zeI (zdz m h.g) x,true)) else if h.op=12 then (if (2:Int) ^ m.rel.length≤h.g then (0#64,false) else (zeI (zih m h.g) x,true)) else
 if h.op=13 then (if (2:Int) ^ m.rel.length≤h.g then (0#64,false) else (zng (zdz m h.g) x y,true)) else (0#64,false)
end Go.Ab
namespace Go.Ab
open Go Go.Proofs
set_option maxRecDepth 10000
set_option maxHeartbeats 4000000
variable {T:Nat→Obj→Prop}
theorem zxN {W:Int} (h1:1≤W) (h2:W≤64):(18446744073709551615#64) >>> (64 - W).toNat=zaQ W:=by
 apply BitVec.eq_of_getLsbD_eq
 intro i hi
 rw [zeF (by omega) hi,BitVec.getLsbD_ushiftRight,show (18446744073709551615#64)=BitVec.allOnes 64 from rfl,BitVec.getLsbD_allOnes,Bool.eq_iff_iff]
 simp only [decide_eq_true_eq]
 omega
theorem zwg {m:KM} (hk0:zg m=0) (op i e:Int) (g:Nat) (nx ny:Int) (s t:BitVec 64) (h3:op=3∨op=9∨op=10→0≤i) (hg1:11≤op∧op≤13→1≤g) :
  Fn Tryz.prog T zfc [.d (dKM m),.d (.agg [.int .i64 op,.int .i64 i,.int .i64 e,.int .i64 (g:Int),.int .i64 nx,.int .i64 ny]),.d (.u64 s),.d (.u64 t)] [] (.d (.tup [.u64 (zbr m ⟨op,i,e,(g:Int)⟩ s t).1,.bool (zbr m ⟨op,i,e,(g:Int)⟩ s t).2])) []:=by
 have gm:=zz hk0
 have w1:=gm.w1
 have w2:=gm.w2
 have n4:=gm.n4
 have hsh:=zxN w1 w2
 refine zf zu zoP (by show 4≤129;decide) ?_
 have hrow : ∀ {r:List (BitVec 64)},m.rel[i.toNat]? = some r→0≤i→i < m.rel.length→zae r=0∧zd6 m i=r:=fun {r} h h0 h1=>by
  have e:zd6 m i=r:=by unfold zd6;rw [List.getD,h];rfl
  have hm:=List.mem_of_getElem? h
  have h2:=gm.len _ hm
  refine ⟨zbv.2 ⟨by show r.length≤64;omega,fun v w hb=>?_⟩,e⟩
  rw [← e] at hb
  have:w < m.W.toNat:=zjL gm (i:=i.toNat) (v:=v) hb
  omega
 have cgx:=fun h1 h2=>zwk (T:=T) hk0 (g:=g) h1 h2
 have cmx:=fun h1 h2=>zyh (T:=T) hk0 (g:=g) h1 h2
 have hp2:(1 * 2 ^ min ((m.rel.length:Nat):Int).toNat IntKind.i64.bits:Int)=(2:Int) ^ m.rel.length:=by
  rw [show min ((m.rel.length:Nat):Int).toNat IntKind.i64.bits=m.rel.length from Nat.min_eq_left (show m.rel.length≤64 by omega)];omega
 have key : ∀ {a:BitVec 64×Bool} {o:Option D},o=some (D.tup [.u64 a.1,.bool a.2]) → ∀ {b:BitVec 64×Bool},a=b→o=some (D.tup [.u64 b.1,.bool b.2]):=fun h b e=>e▸h
 have hp1:inR .i64 (1 * 2 ^ min ((m.rel.map dU).length:Int).toNat IntKind.i64.bits:Int):=by
  rw [List.length_map]
  have:m.rel.length=0∨m.rel.length=1∨m.rel.length=2∨m.rel.length=3∨m.rel.length=4:=by omega
  rcases this with h|h|h|h|h<;>rw [h]<;>decide
 have hl2:(m.rel.map dU).length=m.rel.length:=List.length_map ..
 have hgg:11≤op∧op≤13→(g:Int) < 2 ^ m.rel.length→1≤g∧(g:Int) < 2 ^ m.rel.length:=fun h1 h2=>⟨hg1 h1,h2⟩
 have hgn:(g:Int) < 2 ^ m.rel.length→g < 2 ^ m.rel.length:=fun h=>by
  have:((2 ^ m.rel.length:Nat):Int)=(2:Int) ^ m.rel.length:=by simp
  omega
 have hgr:1≤g→(g:Int) < 2 ^ m.rel.length→zae (zdz m (g:Int))=0:=fun h1 h2=>(ziK hk0 zvm h1 (hgn h2)).1
 have hgl:1≤g→(g:Int) < 2 ^ m.rel.length→(((zdz m (g:Int)).length:Nat):Int)=m.W:=fun h1 h2=>by
  have:=(ziK hk0 zvm h1 (hgn h2)).2
  rw [show (zdz m (g:Int)).length=m.W.toNat from this];omega
 have hmr:1≤g→(g:Int) < 2 ^ m.rel.length→zae (zih m (g:Int))=0:=fun h1 h2=>(ziK hk0 zvO h1 (hgn h2)).1
 (repeat' ((conv=>whnf);first|refine vA ?_|(refine vF ?_ ?_<;>intro hc<;>try simp only [vL] at hc)|refine vJ fun hg=>?_|refine vT ?_|((first|refine vO ?_ ?_|refine vS ?_ fun x hx=>?_|refine vP ?_ ?_);·omega)|(refine vU ?_ ?_;·kernel_rfl)|fail));all_goals try conv=>whnf
 all_goals first|(exfalso;omega)|(simp only [zbr, *,if_true,if_false];rfl)|skip
 ·refine key (a:=(zaQ m.W,true)) (by rw [← hsh];rfl) ?_
  simp only [zbr, *,if_true]
 ·refine key (a:=(x,true)) rfl ?_
  simp only [zbr, *,if_true,if_false,show ¬(m.val.length:Int)≤i by omega,List.getD];simp
 ·refine key (a:=(zaQ m.W &&& ~~~s,true)) (by rw [← hsh];rfl) ?_
  simp only [zbr, *,if_true,if_false];simp
 ·refine key (a:=(zaQ m.W &&& ~~~s|||t,true)) (by rw [← hsh];rfl) ?_
  simp only [zbr, *,if_true,if_false];simp
 ·refine key (a:=(zaQ m.W &&& ~~~(s ^^^ t),true)) (by rw [← hsh];rfl) ?_
  simp only [zbr, *,if_true,if_false];simp
 ·obtain ⟨r1,r2⟩:=hrow hx (by omega) (by omega)
  refine zS.data (zgd (r:=x) s r1) (by (repeat refine ⟨⟨rfl,rfl⟩,?_⟩);rfl) rfl ?_
  (repeat' ((conv=>whnf);refine vT ?_));all_goals try conv=>whnf
  refine key (a:=(zeI x s,true)) rfl ?_
  simp only [zbr, *,if_true,if_false,show ¬(m.rel.length:Int)≤i by omega];simp
 ·obtain ⟨r1,r2⟩:=hrow hx (by omega) (by omega)
  refine zS.data (zrd (r:=x) s r1) (by (repeat refine ⟨⟨rfl,rfl⟩,?_⟩);rfl) rfl ?_
  (repeat' ((conv=>whnf);refine vT ?_));all_goals try conv=>whnf
  refine key (a:=(znj x s,true)) rfl ?_
  have h10:op=10:=by omega
  subst h10
  rw [show zbr m ⟨10,i,e,(g:Int)⟩ s t=(znj (zd6 m i) s,true) from if_neg (show ¬(m.rel.length:Int)≤i by omega),r2]
 ·refine zjj.fit hp1 ?_
  (repeat' ((conv=>whnf);first|refine vA ?_|(refine vF ?_ ?_<;>intro hc<;>try simp only [vL] at hc)|refine vT ?_|(refine vU ?_ ?_;·kernel_rfl)|fail));all_goals try conv=>whnf
  all_goals first|(exfalso;omega)|skip
  ·refine key (a:=(0#64,false)) rfl ?_
   obtain rfl:op=11:=by omega
   exact (if_pos (show (2:Int) ^ m.rel.length≤(g:Int) by rw [← hp2];assumption)).symm
  ·obtain ⟨g1,g2⟩:=hgg (by omega) (by rw [← hp2];assumption)
   have c1:=cgx g1 g2
   have r1:=hgr g1 g2
   change Fn _ _ _ _ _ (.d (dU (zdz m (g:Int)))) _ at c1
   generalize hG:zdz m (g:Int)=G at c1 r1
   refine zS.dataN (c1) (by (repeat refine ⟨⟨rfl,rfl⟩,?_⟩);rfl) ?_
   (repeat' ((conv=>whnf);first|refine vA ?_|(refine vF ?_ ?_<;>intro hc)|refine vT ?_));all_goals try conv=>whnf
   all_goals first|(exfalso;omega)|skip
   refine zS.data (zgd (r:=G) s r1) (by (repeat refine ⟨⟨rfl,rfl⟩,?_⟩);rfl) rfl ?_
   (repeat' ((conv=>whnf);refine vT ?_));all_goals try conv=>whnf
   subst hG
   refine key (a:=(zeI (zdz m (g:Int)) s,true)) rfl ?_
   obtain rfl:op=11:=by omega
   exact (if_neg (show ¬(2:Int) ^ m.rel.length≤(g:Int) by omega)).symm
 ·refine zjj.fit hp1 ?_
  (repeat' ((conv=>whnf);first|refine vA ?_|(refine vF ?_ ?_<;>intro hc<;>try simp only [vL] at hc)|refine vT ?_|(refine vU ?_ ?_;·kernel_rfl)|fail));all_goals try conv=>whnf
  all_goals first|(exfalso;omega)|skip
  ·refine key (a:=(0#64,false)) rfl ?_
   obtain rfl:op=12:=by omega
   exact (if_pos (show (2:Int) ^ m.rel.length≤(g:Int) by rw [← hp2];assumption)).symm
  ·obtain ⟨g1,g2⟩:=hgg (by omega) (by rw [← hp2];assumption)
   have c1:=cmx g1 g2
   have r1:=hmr g1 g2
   change Fn _ _ _ _ _ (.d (dU (zih m (g:Int)))) _ at c1
   generalize hG:zih m (g:Int)=G at c1 r1
   refine zS.dataN (c1) (by (repeat refine ⟨⟨rfl,rfl⟩,?_⟩);rfl) ?_
   (repeat' ((conv=>whnf);refine vT ?_));all_goals try conv=>whnf
   all_goals first|(exfalso;omega)|skip
   refine zS.data (zgd (r:=G) s r1) (by (repeat refine ⟨⟨rfl,rfl⟩,?_⟩);rfl) rfl ?_
   (repeat' ((conv=>whnf);refine vT ?_));all_goals try conv=>whnf
   subst hG
   refine key (a:=(zeI (zih m (g:Int)) s,true)) rfl ?_
   obtain rfl:op=12:=by omega
   exact (if_neg (show ¬(2:Int) ^ m.rel.length≤(g:Int) by omega)).symm
 ·refine zjj.fit hp1 ?_
  (repeat' ((conv=>whnf);first|refine vA ?_|(refine vF ?_ ?_<;>intro hc<;>try simp only [vL] at hc)|refine vT ?_|(refine vU ?_ ?_;·kernel_rfl)|fail));all_goals try conv=>whnf
  all_goals first|(exfalso;omega)|skip
  ·refine key (a:=(0#64,false)) rfl ?_
   obtain rfl:op=13:=by omega
   exact (if_pos (show (2:Int) ^ m.rel.length≤(g:Int) by rw [← hp2];assumption)).symm
  ·obtain ⟨g1,g2⟩:=hgg (by omega) (by rw [← hp2];assumption)
   have c1:=cgx g1 g2
   have r1:=hgr g1 g2
   have l1:=hgl g1 g2
   change Fn _ _ _ _ _ (.d (dU (zdz m (g:Int)))) _ at c1
   generalize hG:zdz m (g:Int)=G at c1 r1 l1
   refine zS.dataN (c1) (by (repeat refine ⟨⟨rfl,rfl⟩,?_⟩);rfl) ?_
   (repeat' ((conv=>whnf);first|refine vA ?_|(refine vF ?_ ?_<;>intro hc)|refine vT ?_));all_goals try conv=>whnf
   all_goals first|(exfalso;omega)|skip
   have hcm:=zwf (T:=T) (r:=G) s t r1
   rw [l1,← hsh] at hcm
   refine zS.data (hcm) (by (repeat refine ⟨⟨rfl,rfl⟩,?_⟩);rfl) rfl ?_
   (repeat' ((conv=>whnf);refine vT ?_));all_goals try conv=>whnf
   subst hG
   refine key (a:=(zng (zdz m (g:Int)) s t,true)) rfl ?_
   obtain rfl:op=13:=by omega
   exact (if_neg (show ¬(2:Int) ^ m.rel.length≤(g:Int) by omega)).symm
 all_goals skip
end Go.Ab
namespace Go.Ab
open Go Go.Proofs
set_option maxRecDepth 10000
set_option maxHeartbeats 4000000
variable {T:Nat→Obj→Prop}
theorem zpk {β:Type} (v:Hd→β→β→β) (d:β) (n:Nd) : ∀ (l:List Nd) (acc:List β),zcF v d (l++[n]) acc=zcF v d l acc++[v n.hd ((zcF v d l acc).getD n.x.toNat d) ((zcF v d l acc).getD n.y.toNat d)]
 | [],acc=>rfl
 | m::r,acc=>by rw [List.cons_append,zcF,zcF,zpk v d n r]
theorem znu {α:Type} (l:List α) (n:Nat) (d:α) (i:Nat):(l++List.replicate n d).getD i d=l.getD i d:=by
 rcases Nat.lt_or_ge i l.length with h|h
 ·simp [List.getD,List.getElem?_append_left h]
 ·rw [List.getD,List.getElem?_append_right h,List.getD,List.getElem?_eq_none h]
  rcases Nat.lt_or_ge (i - l.length) n with h2|h2
  ·rw [List.getElem?_replicate,if_pos h2];rfl
  ·rw [List.getElem?_eq_none (by simpa using h2)]
noncomputable def vnK (m:KM) (h:Hd) (a b:BitVec 64×Bool):BitVec 64×Bool :=
 if (4≤h.op→a.2=true)∧(5≤h.op∧h.op≤8∨h.op=13→b.2=true) then zbr m h a.1 b.1 else (0#64,false)
noncomputable def zW (m:KM) (f:List Nd) (k:Nat):List (BitVec 64×Bool):=zcF (vnK m) (0#64,false) (f.take k) []++List.replicate (f.length - k) (0#64,false)
theorem zw7 (m:KM) (f:List Nd) {k:Nat} (hk:k≤f.length):(zW m f k).length=f.length:=by
 unfold zW
 rw [List.length_append,zhv,List.length_replicate,List.length_take];simp;omega
theorem zvv (m:KM) {f:List Nd} {k:Nat} {n:Nd} (hn:f[k]? = some n):zW m f (k+1)=(zW m f k).set k (vnK m n.hd ((zW m f k).getD n.x.toNat (0#64,false)) ((zW m f k).getD n.y.toNat (0#64,false))):=by
 have hk:k < f.length:=(List.getElem?_eq_some_iff.1 hn).1
 have hl:(zcF (vnK m) (0#64,false) (f.take k) []).length=k:=by rw [zhv];simp;omega
 have e:f.length - k=(f.length - (k+1))+1:=by omega
 unfold zW
 rw [znu,znu,List.take_add_one,hn,show (some n).toList=[n] from rfl,zpk,e,List.replicate_succ,List.set_append_right _ _ (by omega),hl,Nat.sub_self,List.set_cons_zero,List.append_assoc]
 rfl
theorem zpg (m:KM) (f:List Nd):zW m f 0=List.replicate f.length (0#64,false):=rfl
theorem zw6 (m:KM) (f:List Nd):zW m f f.length=zcF (vnK m) (0#64,false) f []:=by
 unfold zW
 rw [List.take_length,Nat.sub_self];simp
def zbD (m:KM) (f:List Nd):Int :=
 if zg m≠0 then zg m else if zcx f≠0 then zcx f else if za7 .i64 (fun p q=>p &&& ~~~q) (uni zb9 (cL f):Int) 15≠0 then 10 else if zjG f m.rel.length m.val.length=false then 2 else 0
theorem zjb {m:KM} {f:List Nd} (h:zbD m f=0):zg m=0∧zcx f=0∧za7 .i64 (fun p q=>p &&& ~~~q) (uni zb9 (cL f):Int) 15=0∧zjG f m.rel.length m.val.length=true:=by
 unfold zbD at h
 split at h
 ·contradiction
 ·split at h
  ·contradiction
  ·split at h
   ·cases h
   ·split at h
    ·cases h
    ·rename_i h1 h2 h3 h4
     exact ⟨by omega,by omega,by omega,by simpa using h4⟩
noncomputable def zh5 (m:KM) (f:List Nd):List (BitVec 64):=if zbD m f≠0 then [] else (zcF (vnK m) (0#64,false) f []).map Prod.fst
noncomputable def zfj (m:KM) (f:List Nd):BitVec 64×Int:=if zbD m f≠0 then (0#64,zbD m f) else (((zcF (vnK m) (0#64,false) f []).getD (f.length - 1) (0#64,false)).1,0)
theorem zvf {m:KM} {f:List Nd} (h:zbD m f≠0):zfj m f=(0#64,zbD m f):=if_pos h
theorem ztv (m:KM) (f:List Nd):Fn Tryz.prog T zgu [.d (dKM m),.d (dF f)] [] (.d (.int .i64 (zbD m f))) []:=by
 refine zf zu zml (by show 2≤30;decide) ?_
 (repeat' ((conv=>whnf);first|refine vA ?_|refine vE ?_|((first|refine vD ?_ ?_|refine vI ?_ ?_)<;>intro hc<;>try simp only [vL] at hc)|refine vJ fun hg=>?_|refine vT ?_|refine vX ?_|refine yD (za1 _) ⟨⟨rfl,rfl⟩,rfl⟩ rfl ?_|refine yD (zk2 _) ⟨⟨rfl,rfl⟩,rfl⟩ rfl ?_|refine yD (zyc _) ⟨⟨rfl,rfl⟩,rfl⟩ rfl ?_|refine yD (zzW _ _ _) ⟨⟨rfl,rfl⟩,⟨rfl,rfl⟩,⟨rfl,rfl⟩,rfl⟩ rfl ?_));all_goals try conv=>whnf
 ·have e:zbD m f=zg m:=if_pos ‹_›
  rw [e]
 ·have e:zbD m f=zcx f:=by rw [zbD,if_neg (by omega),if_pos ‹_›]
  rw [e]
 ·have e:zbD m f=10:=by rw [zbD,if_neg (by omega),if_neg (by omega),if_pos ‹_›]
  rw [e]
 ·have e:zbD m f=0:=by rw [zbD,if_neg (by omega),if_neg (by omega),if_neg (by omega),if_neg (by simp [*])]
  rw [e]
 ·have e:zbD m f=2:=by rw [zbD,if_neg (by omega),if_neg (by omega),if_neg (by omega),if_pos ‹_›]
  rw [e]
theorem zu6 {m:KM} (hk0:zg m=0) {n:Nd} {k:Int} (hn:zd2 n k=0) (s t:BitVec 64) :
  Fn Tryz.prog T zfc [.d (dKM m),.d (dNd n),.d (.u64 s),.d (.u64 t)] [] (.d (.tup [.u64 (zbr m n.hd s t).1,.bool (zbr m n.hd s t).2])) []:=by
 have hh:=(zcC.1 hn).1
 have hg:0≤n.g∧(11≤n.op∧n.op≤13→1≤n.g):=by
  cases hg:zN n.op with
  | true=>have:1≤n.g∧n.g≤15:=hh.group hg;omega
  | false =>
   have:n.g=0:=hh.g0 hg
   have h2 : ¬(11≤n.op∧n.op≤13):=by simpa [zN] using hg
   omega
 have h3:n.op=3∨n.op=9∨n.op=10→0≤n.i:=fun e=>by
  rcases e with e|e|e
  ·have:0≤n.i∧n.i≤7:=hh.fact (decide_eq_true e)
   omega
  ·have:0≤n.i∧n.i≤3:=hh.agent (decide_eq_true (.inl e))
   omega
  ·have:0≤n.i∧n.i≤3:=hh.agent (decide_eq_true (.inr (.inl e)))
   omega
 clear hh hn
 obtain ⟨op,i,e,g,nx,ny⟩:=n
 dsimp only at hg h3
 obtain ⟨G,rfl⟩ : ∃ G:Nat,g=(G:Int):=⟨g.toNat,by omega⟩
 exact zwg hk0 op i e G nx ny s t h3 (fun h=>by have:=hg.2 h;omega)
theorem zyg (m:KM) (f:List Nd):Fn Tryz.prog T ziz [.d (dKM m),.d (dF f)] [] (.d (.tup [dU (zh5 m f),.int .i64 (zbD m f)])) []:=by
 have cq:=ztv (T:=T) m f
 refine zf zu zpW (by show 2≤85;decide) ?_
 by_cases hr:zbD m f=0
 ·obtain ⟨hk0,hf0,-,-⟩:=zjb hr
  obtain ⟨p1,p2,p3⟩:=zeW.1 hf0
  rw [hr] at cq ⊢
  (repeat' ((conv=>whnf);first|refine vA ?_|refine vH ?_|refine vJ fun hg=>?_|refine vT ?_|(refine vP ?_ ?_;·(simp only [vM] at *;omega))|refine yD cq ⟨⟨rfl,rfl⟩,⟨rfl,rfl⟩,rfl⟩ rfl ?_));all_goals try conv=>whnf
  refine zM (fun ((k,zs,bs):Nat×List D×List D)=>[(2,.ptr 0 0),(7,.own 1),(8,.own 2),(24,.d (dF f)),(25,.d (.int .i64 (((f.map dNd).length:Int)))),(26,.d (.int .i64 ((k:Int))))]) (fun ((k,zs,bs):Nat×List D×List D)=>[(0,some (zcJ m)),(1,some (.row 1 zs)),(2,some (.row 1 bs))]) 3 (fun ((k,zs,bs):Nat×List D×List D)=>k≤f.length∧zs=(zW m f k).map (fun p=>D.u64 p.1)∧bs=(zW m f k).map (fun p=>D.bool p.2)) (fun ((k,zs,bs):Nat×List D×List D)=>f.length - k) ((0,List.replicate ((f.map dNd).length:Int).toNat (.u64 0#64),List.replicate ((f.map dNd).length:Int).toNat (.bool false))) [(0,0),(1,1),(2,2)] [] (⟨by omega,by rw [zpg,List.map_replicate,Int.toNat_natCast,List.length_map],by rw [zpg,List.map_replicate,Int.toNat_natCast,List.length_map]⟩) (by (refine ⟨rfl,rfl,rfl,?_,?_⟩;repeat' first|exact trivial|exact rfl|refine And.intro ?_ ?_|refine ⟨_,rfl,?_⟩|decide)) ?_
  rintro ⟨k,zs,bs⟩ ⟨hk,rfl,rfl⟩
  have hlen:=zw7 m f hk
  have hl1:((zW m f k).map fun p=>D.u64 p.1).length=f.length:=by rw [List.length_map,hlen]
  have hl2:((zW m f k).map fun p=>D.bool p.2).length=f.length:=by rw [List.length_map,hlen]
  by_cases hkl:k < f.length
  ·obtain ⟨n,hn⟩ : ∃ n,f[k]? = some n:=⟨f[k],by simp [hkl]⟩
   have hst:=zvv m hn
   have hne:=p3 k n hn
   have hxy:=zcC.1 hne
   have hxb:0≤n.x∧n.x < f.length:=by
    cases hu:zaq n.op with
    | true=>have:=hxy.2.1 hu;omega
    | false=>have:=hxy.2.2.1 hu;omega
   have hyb:0≤n.y∧n.y < f.length:=by
    cases hu:zaf n.op with
    | true=>have:=hxy.2.2.2.1 hu;omega
    | false=>have:=hxy.2.2.2.2 hu;omega
   clear hxy
   have yes : ∀ {a b:BitVec 64×Bool},(zW m f k)[n.x.toNat]? = some a→(zW m f k)[n.y.toNat]? = some b→(4≤n.op→a.2=true)→(5≤n.op∧n.op≤8∨n.op=13→b.2=true)→zW m f (k+1)=(zW m f k).set k (zbr m n.hd a.1 b.1):=fun {a b} ha hb h1 h2=>by
    rw [hst,List.getD,ha,List.getD,hb]
    exact congrArg ((zW m f k).set k) (if_pos ⟨h1,h2⟩)
   have no:(∀ {a b:BitVec 64×Bool},(zW m f k)[n.x.toNat]? = some a→(zW m f k)[n.y.toNat]? = some b → ¬((4≤n.op→a.2=true)∧(5≤n.op∧n.op≤8∨n.op=13→b.2=true)))→zW m f (k+1)=zW m f k:=fun h=>by
    obtain ⟨a,ha⟩ : ∃ a,(zW m f k)[n.x.toNat]? = some a:=⟨_,List.getElem?_eq_getElem (by omega)⟩
    obtain ⟨b,hb⟩ : ∃ b,(zW m f k)[n.y.toNat]? = some b:=⟨_,List.getElem?_eq_getElem (by omega)⟩
    rw [hst,List.getD,ha,List.getD,hb]
    have e:vnK m n.hd a b=(0#64,false):=if_neg (h ha hb)
    rw [show vnK m n.hd ((some a).getD (0#64,false)) ((some b).getD (0#64,false))=(0#64,false) from e]
    refine List.ext_getElem (by simp) fun i h1 h2=>?_
    rw [List.getElem_set]
    split
    ·rename_i e2
     subst e2
     have:=znu (zcF (vnK m) (0#64,false) (f.take k) []) (f.length - k) (0#64,false) k
     rw [List.getD,List.getD,List.getElem?_eq_none (show (zcF (vnK m) (0#64,false) (f.take k) []).length≤k by rw [zhv,List.length_take];simp;omega)] at this
     rw [show zcF (vnK m) (0#64,false) (f.take k) []++List.replicate (f.length - k) (0#64,false)=zW m f k from rfl,List.getElem?_eq_getElem h2] at this
     exact this.symm
    ·rfl
   (repeat' ((conv=>whnf);first|refine vA ?_|((first|refine vF ?_ ?_|refine vI ?_ ?_)<;>intro hc<;>try simp only [vL] at hc)|refine vT ?_|refine vN ‹_› ?_|(refine vQ ?_ fun x hx=>?_;·omega)|((first|refine vO ?_ ?_|refine vP ?_ ?_);·omega)|(refine vU ?_ ?_;·kernel_rfl)|refine yN (zu6 hk0 hne _ _) (by (repeat refine ⟨⟨rfl,rfl⟩,?_⟩);rfl) ?_));all_goals try conv=>whnf
   all_goals first|(exfalso;omega)|skip
   ·refine ⟨(k+1,_,_),[(0,0),(1,1),(2,2)],[],?_,?_,by (refine ⟨rfl,rfl,rfl,?_,?_⟩;repeat' first|exact trivial|exact rfl|refine And.intro ?_ ?_|refine ⟨_,rfl,?_⟩|decide)⟩
    ·have e:=yes ‹(zW m f k)[n.x.toNat]? = some _› ‹(zW m f k)[n.y.toNat]? = some _› (fun _=>by first|assumption|(exfalso;omega)) (fun _=>by first|assumption|(exfalso;omega))
     exact ⟨by (omega),by rw [e,List.map_set];rfl,by rw [e,List.map_set];rfl⟩
    ·((simp only [vM] at *;omega))
   ·refine ⟨(k+1,_,_),[(0,0),(1,1),(2,2)],[],?_,?_,by (refine ⟨rfl,rfl,rfl,?_,?_⟩;repeat' first|exact trivial|exact rfl|refine And.intro ?_ ?_|refine ⟨_,rfl,?_⟩|decide)⟩
    ·have hX:=‹(zW m f k)[n.y.toNat]? = some _›
     have e:=no fun {a b} ha hb hv=>by
      have e1:=Option.some.inj (hb.symm.trans hX)
      have e2:=hv.2 (by omega)
      rw [e1] at e2
      exact absurd (e2.symm.trans ‹_=false›) (by decide)
     exact ⟨by (omega),by rw [e],by rw [e]⟩
    ·((simp only [vM] at *;omega))
   ·refine ⟨(k+1,_,_),[(0,0),(1,1),(2,2)],[],?_,?_,by (refine ⟨rfl,rfl,rfl,?_,?_⟩;repeat' first|exact trivial|exact rfl|refine And.intro ?_ ?_|refine ⟨_,rfl,?_⟩|decide)⟩
    ·have hX:=‹(zW m f k)[n.x.toNat]? = some _›
     have e:=no fun {a b} ha hb hv=>by
      have e1:=Option.some.inj (ha.symm.trans hX)
      have e2:=hv.1 (by omega)
      rw [e1] at e2
      exact absurd (e2.symm.trans ‹_=false›) (by decide)
     exact ⟨by (omega),by rw [e],by rw [e]⟩
    ·((simp only [vM] at *;omega))
   ·refine ⟨(k+1,_,_),[(0,0),(1,1),(2,2)],[],?_,?_,by (refine ⟨rfl,rfl,rfl,?_,?_⟩;repeat' first|exact trivial|exact rfl|refine And.intro ?_ ?_|refine ⟨_,rfl,?_⟩|decide)⟩
    ·have e:=yes ‹(zW m f k)[n.x.toNat]? = some _› ‹(zW m f k)[n.y.toNat]? = some _› (fun _=>by first|assumption|(exfalso;omega)) (fun _=>by first|assumption|(exfalso;omega))
     exact ⟨by (omega),by rw [e,List.map_set];rfl,by rw [e,List.map_set];rfl⟩
    ·((simp only [vM] at *;omega))
   ·refine ⟨(k+1,_,_),[(0,0),(1,1),(2,2)],[],?_,?_,by (refine ⟨rfl,rfl,rfl,?_,?_⟩;repeat' first|exact trivial|exact rfl|refine And.intro ?_ ?_|refine ⟨_,rfl,?_⟩|decide)⟩
    ·have hX:=‹(zW m f k)[n.y.toNat]? = some _›
     have e:=no fun {a b} ha hb hv=>by
      have e1:=Option.some.inj (hb.symm.trans hX)
      have e2:=hv.2 (by omega)
      rw [e1] at e2
      exact absurd (e2.symm.trans ‹_=false›) (by decide)
     exact ⟨by (omega),by rw [e],by rw [e]⟩
    ·((simp only [vM] at *;omega))
   ·refine ⟨(k+1,_,_),[(0,0),(1,1),(2,2)],[],?_,?_,by (refine ⟨rfl,rfl,rfl,?_,?_⟩;repeat' first|exact trivial|exact rfl|refine And.intro ?_ ?_|refine ⟨_,rfl,?_⟩|decide)⟩
    ·have hX:=‹(zW m f k)[n.x.toNat]? = some _›
     have e:=no fun {a b} ha hb hv=>by
      have e1:=Option.some.inj (ha.symm.trans hX)
      have e2:=hv.1 (by omega)
      rw [e1] at e2
      exact absurd (e2.symm.trans ‹_=false›) (by decide)
     exact ⟨by (omega),by rw [e],by rw [e]⟩
    ·((simp only [vM] at *;omega))
   ·refine ⟨(k+1,_,_),[(0,0),(1,1),(2,2)],[],?_,?_,by (refine ⟨rfl,rfl,rfl,?_,?_⟩;repeat' first|exact trivial|exact rfl|refine And.intro ?_ ?_|refine ⟨_,rfl,?_⟩|decide)⟩
    ·have e:=yes ‹(zW m f k)[n.x.toNat]? = some _› ‹(zW m f k)[n.y.toNat]? = some _› (fun _=>by first|assumption|(exfalso;omega)) (fun _=>by first|assumption|(exfalso;omega))
     exact ⟨by (omega),by rw [e,List.map_set];rfl,by rw [e,List.map_set];rfl⟩
    ·((simp only [vM] at *;omega))
   ·refine ⟨(k+1,_,_),[(0,0),(1,1),(2,2)],[],?_,?_,by (refine ⟨rfl,rfl,rfl,?_,?_⟩;repeat' first|exact trivial|exact rfl|refine And.intro ?_ ?_|refine ⟨_,rfl,?_⟩|decide)⟩
    ·have hX:=‹(zW m f k)[n.x.toNat]? = some _›
     have e:=no fun {a b} ha hb hv=>by
      have e1:=Option.some.inj (ha.symm.trans hX)
      have e2:=hv.1 (by omega)
      rw [e1] at e2
      exact absurd (e2.symm.trans ‹_=false›) (by decide)
     exact ⟨by (omega),by rw [e],by rw [e]⟩
    ·((simp only [vM] at *;omega))
   ·refine ⟨(k+1,_,_),[(0,0),(1,1),(2,2)],[],?_,?_,by (refine ⟨rfl,rfl,rfl,?_,?_⟩;repeat' first|exact trivial|exact rfl|refine And.intro ?_ ?_|refine ⟨_,rfl,?_⟩|decide)⟩
    ·have e:=yes ‹(zW m f k)[n.x.toNat]? = some _› ‹(zW m f k)[n.y.toNat]? = some _› (fun _=>by first|assumption|(exfalso;omega)) (fun _=>by first|assumption|(exfalso;omega))
     exact ⟨by (omega),by rw [e,List.map_set];rfl,by rw [e,List.map_set];rfl⟩
    ·((simp only [vM] at *;omega))
   ·refine ⟨(k+1,_,_),[(0,0),(1,1),(2,2)],[],?_,?_,by (refine ⟨rfl,rfl,rfl,?_,?_⟩;repeat' first|exact trivial|exact rfl|refine And.intro ?_ ?_|refine ⟨_,rfl,?_⟩|decide)⟩
    ·have hX:=‹(zW m f k)[n.x.toNat]? = some _›
     have e:=no fun {a b} ha hb hv=>by
      have e1:=Option.some.inj (ha.symm.trans hX)
      have e2:=hv.1 (by omega)
      rw [e1] at e2
      exact absurd (e2.symm.trans ‹_=false›) (by decide)
     exact ⟨by (omega),by rw [e],by rw [e]⟩
    ·((simp only [vM] at *;omega))
   ·refine ⟨(k+1,_,_),[(0,0),(1,1),(2,2)],[],?_,?_,by (refine ⟨rfl,rfl,rfl,?_,?_⟩;repeat' first|exact trivial|exact rfl|refine And.intro ?_ ?_|refine ⟨_,rfl,?_⟩|decide)⟩
    ·have e:=yes ‹(zW m f k)[n.x.toNat]? = some _› ‹(zW m f k)[n.y.toNat]? = some _› (fun _=>by first|assumption|(exfalso;omega)) (fun _=>by first|assumption|(exfalso;omega))
     exact ⟨by (omega),by rw [e,List.map_set];rfl,by rw [e,List.map_set];rfl⟩
    ·((simp only [vM] at *;omega))
   all_goals skip
  ·obtain rfl:k=f.length:=by omega
   (repeat' ((conv=>whnf);first|refine vA ?_|((first|refine vF ?_ ?_|refine vI ?_ ?_)<;>intro hc<;>try simp only [vL] at hc)|refine vT ?_|refine vN ‹_› ?_|(refine vQ ?_ fun x hx=>?_;·omega)|((first|refine vO ?_ ?_|refine vP ?_ ?_);·omega)|fail));all_goals try conv=>whnf
   all_goals first|(exfalso;omega)|skip
   rw [zh5,if_neg (by omega),zw6]
   exact congrArg (fun l=>some (D.tup [.arr 1 l,.int .i64 0])) (List.map_map (f:=Prod.fst) (g:=D.u64)).symm
 ·(repeat' ((conv=>whnf);first|refine vA ?_|(refine vD ?_ ?_<;>intro hc)|refine vJ fun hg=>?_|refine vT ?_|(refine vP ?_ ?_;·omega)|refine yD cq ⟨⟨rfl,rfl⟩,⟨rfl,rfl⟩,rfl⟩ rfl ?_));all_goals try conv=>whnf
  ·rw [zh5,if_pos hr];rfl
  ·exact absurd hc hr
theorem zBH (m:KM) (f:List Nd):Fn Tryz.prog T zhK [.d (dKM m),.d (dF f)] [] (.d (.tup [.u64 (zfj m f).1,.int .i64 (zfj m f).2])) []:=by
 have cs:=zyg (T:=T) m f
 refine zf zu zoO (by show 2≤23;decide) ?_
 by_cases hr:zbD m f=0
 ·obtain ⟨hk0,hf0,-,-⟩:=zjb hr
  obtain ⟨p1,p2,p3⟩:=zeW.1 hf0
  have hl:(zh5 m f).length=f.length:=by rw [zh5,if_neg (by omega),List.length_map,zhv];simp
  have e:zfj m f=((zh5 m f).getD (f.length - 1) 0#64,0):=by
   rw [zfj,zh5,if_neg (by omega),if_neg (by omega)]
   congr 1
   simp only [List.getD,List.getElem?_map]
   cases (zcF (vnK m) (0#64,false) f [])[f.length - 1]? <;> rfl
  rw [hr] at cs
  rw [e]
  generalize zh5 m f=S at *
  (repeat' ((conv=>whnf);first|refine vA ?_|refine vH ?_|refine vJ fun hg=>?_|refine vT ?_|((first|refine vO ?_ ?_|refine vS ?_ fun x hx=>?_);·(simp only [vM] at *;omega))|refine yN cs ⟨⟨rfl,rfl⟩,⟨rfl,rfl⟩,rfl⟩ ?_));all_goals try conv=>whnf
  all_goals first|(exfalso;omega)|skip
  have e3:S.getD (f.length - 1) 0#64=x:=by
   rw [List.getD,show f.length - 1=(((S.map D.u64).length:Int) - 1).toNat by rw [List.length_map];omega,hx];rfl
  rw [e3]
  rfl
 ·have e:=zvf hr
  rw [e]
  (repeat' ((conv=>whnf);first|refine vA ?_|(refine vD ?_ ?_<;>intro hc)|refine vJ fun hg=>?_|refine vT ?_|((first|refine vO ?_ ?_|refine vS ?_ fun x hx=>?_);·omega)|refine yN cs ⟨⟨rfl,rfl⟩,⟨rfl,rfl⟩,rfl⟩ ?_));all_goals try conv=>whnf
  all_goals first|exact absurd ‹zbD m f=0› hr|rfl
end Go.Ab
namespace Go.Ab
open Go
theorem zzh (m:KM):zAE (vnK m) where
 x h a b c hx:=by
  have hx : ¬(4≤h.op∧h.op≤21):=by simpa [zaq] using hx
  unfold vnK zbr
  by_cases h4:4≤h.op
  ·have e : ∀ k:Int,k≤21 → ¬h.op=k:=fun k hk=>by omega
   simp only [e 1 (by decide),e 2 (by decide),e 3 (by decide),e 4 (by decide),e 5 (by decide),e 6 (by decide),e 7 (by decide),e 8 (by decide),e 9 (by decide),e 10 (by decide),e 11 (by decide),e 12 (by decide),e 13 (by decide),if_false,ite_self]
  ·have e : ∀ k:Int,4≤k → ¬h.op=k:=fun k hk=>by omega
   simp only [h4,e 4 (by decide),e 5 (by decide),e 6 (by decide),e 7 (by decide),e 8 (by decide),e 9 (by decide),e 10 (by decide),e 11 (by decide),e 12 (by decide),e 13 (by decide),if_false,false_imp_iff,true_and]
 y h a b c hy:=by
  have hy : ¬(5≤h.op∧h.op≤8∨h.op=13∨h.op=14∨h.op=16∨h.op=19∨h.op=21):=by simpa [zaf] using hy
  have h5 : ¬(5≤h.op∧h.op≤8∨h.op=13):=by omega
  unfold vnK zbr
  simp only [h5,false_imp_iff,and_true]
  simp only [show ¬h.op=5 by omega,show ¬h.op=6 by omega,show ¬h.op=7 by omega,show ¬h.op=8 by omega,show ¬h.op=13 by omega,if_false]
def zps (m:KM) (t:Tm) (w:Nat):Prop:=ev (znT m.W.toNat (zm m) fun i w=>(m.val.getD i 0#64).getLsbD w=true) (fun _=>False) t w
structure zuA (m:KM) (h:Hd):Prop where
 op:1≤h.op∧h.op≤13
 fact:h.op=3→0≤h.i∧h.i < m.val.length
 agent:h.op=9∨h.op=10→0≤h.i∧h.i < m.rel.length
 group:11≤h.op∧h.op≤13→1≤h.g∧h.g.toNat < 2 ^ m.rel.length
theorem zje {m:KM} {i:Int} {w u:Nat} (hi:0≤i∧i < m.rel.length):rb (zd6 m i) w u=true↔zd4 (zm m) i.toNat w u:=by
 have hl:i.toNat < m.rel.length:=by omega
 unfold zd4 zm zd6
 rw [List.getD,List.getElem?_eq_getElem hl]
 constructor
 ·intro h;exact ⟨_,by rw [List.getElem?_map,List.getElem?_eq_getElem hl];rfl,h⟩
 ·rintro ⟨r,h1,h2⟩
  rw [List.getElem?_map,List.getElem?_eq_getElem hl] at h1
  obtain rfl:=(Option.some.inj h1).symm
  exact h2
theorem zuo {m:KM} (g:zc6 m) {i:Int} (hi:0≤i∧i < m.rel.length):zae (zd6 m i)=0∧(zd6 m i).length=m.W.toNat:=by
 have hl:i.toNat < m.rel.length:=by omega
 have hm:zd6 m i∈m.rel:=by unfold zd6;rw [List.getD,List.getElem?_eq_getElem hl];exact List.getElem_mem _
 have h1:=g.len _ hm
 have w1:=g.w1
 have w2:=g.w2
 refine ⟨zbv.2 ⟨by show (zd6 m i).length≤64;omega,fun v w hb=>?_⟩,by omega⟩
 have:w < m.W.toNat:=zjL g (i:=i.toNat) (v:=v) hb
 omega
theorem zlX {m:KM} (g:zc6 m) {a w u:Nat} (h:zd4 (zm m) a w u):w < m.W.toNat∧u < m.W.toNat∧a < m.rel.length:=by
 obtain ⟨r,h1,h2⟩:=h
 have ha:a < m.rel.length:=by have:=(List.getElem?_eq_some_iff.1 h1).1;rwa [zyS] at this
 have hb:(zlW m a w).getLsbD u=true:=by rw [zwY h1];exact h2
 refine ⟨?_,zjL g hb,ha⟩
 refine Nat.lt_of_not_le fun hw=>?_
 unfold zlW at hb
 rw [List.getD,List.getElem?_eq_none (by
  rw [List.getD,List.getElem?_eq_getElem ha]
  have:=g.len _ (List.getElem_mem ha)
  show (m.rel[a]).length≤w;omega)] at hb
 simp at hb
theorem zwt {m:KM} (hg:zc6 m) {g:Nat} : ∀ {k:Nat},k≤m.rel.length→(zao (fun x y=>x|||y) m g k=none → ∀ a,a < k→g.testBit a=false) ∧ ∀ r,zao (fun x y=>x|||y) m g k=some r → ∀ w u,w < m.W.toNat→(rb r w u=true ↔ ∃ a,a < k∧g.testBit a=true∧zd4 (zm m) a w u)
 | 0,_=>⟨fun _ a h=>by omega,fun r h=>by cases h⟩
 | k+1,hk=>by
  have ih:=zwt hg (g:=g) (k:=k) (by omega)
  have hrow : ∀ w u,rb (m.rel.getD k []) w u=true↔zd4 (zm m) k w u:=fun w u=>by
   have:=zje (m:=m) (i:=(k:Int)) (w:=w) (u:=u) ⟨by omega,by omega⟩
   rwa [zd6,Int.toNat_natCast] at this
  rw [zao]
  by_cases hb:g.testBit k=true
  ·rw [if_pos hb]
   cases hz:zao (fun x y=>x|||y) m g k with
   | none =>
    refine ⟨fun h=>(by cases h),fun r h w u _=>?_⟩
    obtain rfl:=(Option.some.inj h).symm
    rw [hrow]
    constructor
    ·intro h1;exact ⟨k,by omega,hb,h1⟩
    ·rintro ⟨a,h1,h2,h3⟩
     by_cases e:a=k
     ·subst e;exact h3
     ·have:=ih.1 hz a (by omega);rw [h2] at this;cases this
   | some s =>
    refine ⟨fun h=>(by cases h),fun r h w u hw=>?_⟩
    obtain rfl:=(Option.some.inj h).symm
    have e:rb ((List.range m.W.toNat).map fun w=>s.getD w 0#64|||(m.rel.getD k []).getD w 0#64) w u=(rb s w u||rb (m.rel.getD k []) w u):=by
     unfold rb
     rw [List.getD,List.getElem?_map,List.getElem?_range hw]
     show (s.getD w 0#64|||_).getLsbD u=_
     rw [BitVec.getLsbD_or]
    rw [e,Bool.or_eq_true,hrow,ih.2 s hz w u hw]
    constructor
    ·rintro (⟨a,h1,h2⟩|h1)
     ·exact ⟨a,by omega,h2⟩
     ·exact ⟨k,by omega,hb,h1⟩
    ·rintro ⟨a,h1,h2,h3⟩
     by_cases e:a=k
     ·subst e;exact .inr h3
     ·exact .inl ⟨a,by omega,h2,h3⟩
  ·rw [if_neg hb]
   have hb:g.testBit k=false:=by simpa using hb
   refine ⟨fun h a ha=>?_,fun r h w u hw=>?_⟩
   ·by_cases e:a=k
    ·subst e;exact hb
    ·exact ih.1 h a (by omega)
   ·rw [ih.2 r h w u hw]
    constructor
    ·rintro ⟨a,h1,h2⟩;exact ⟨a,by omega,h2⟩
    ·rintro ⟨a,h1,h2,h3⟩
     refine ⟨a,?_,h2,h3⟩
     rcases Nat.lt_or_ge a k with h|h
     ·exact h
     ·have:a=k:=by omega
      subst this;rw [h2] at hb;cases hb
theorem zwI {m:KM} (hg:zc6 m) {g:Nat} : ∀ {k:Nat},k≤m.rel.length→(zao (fun x y=>x&&&y) m g k=none → ∀ a,a < k→g.testBit a=false) ∧ ∀ r,zao (fun x y=>x&&&y) m g k=some r → ∀ w u,w < m.W.toNat→(rb r w u=true ↔ ∀ a,a < k→g.testBit a=true→zd4 (zm m) a w u)
 | 0,_=>⟨fun _ a h=>by omega,fun r h=>by cases h⟩
 | k+1,hk=>by
  have ih:=zwI hg (g:=g) (k:=k) (by omega)
  have hrow : ∀ w u,rb (m.rel.getD k []) w u=true↔zd4 (zm m) k w u:=fun w u=>by
   have:=zje (m:=m) (i:=(k:Int)) (w:=w) (u:=u) ⟨by omega,by omega⟩
   rwa [zd6,Int.toNat_natCast] at this
  rw [zao]
  by_cases hb:g.testBit k=true
  ·rw [if_pos hb]
   cases hz:zao (fun x y=>x&&&y) m g k with
   | none =>
    refine ⟨fun h=>(by cases h),fun r h w u _=>?_⟩
    obtain rfl:=(Option.some.inj h).symm
    rw [hrow]
    constructor
    ·intro h1 a h2 h3
     by_cases e:a=k
     ·subst e;exact h1
     ·have:=ih.1 hz a (by omega);rw [h3] at this;cases this
    ·intro h;exact h k (by omega) hb
   | some s =>
    refine ⟨fun h=>(by cases h),fun r h w u hw=>?_⟩
    obtain rfl:=(Option.some.inj h).symm
    have e:rb ((List.range m.W.toNat).map fun w=>s.getD w 0#64&&&(m.rel.getD k []).getD w 0#64) w u=(rb s w u&&rb (m.rel.getD k []) w u):=by
     unfold rb
     rw [List.getD,List.getElem?_map,List.getElem?_range hw]
     show (s.getD w 0#64&&&_).getLsbD u=_
     rw [BitVec.getLsbD_and]
    rw [e,Bool.and_eq_true,hrow,ih.2 s hz w u hw]
    constructor
    ·rintro ⟨h1,h2⟩ a h3 h4
     by_cases e:a=k
     ·subst e;exact h2
     ·exact h1 a (by omega) h4
    ·intro h;exact ⟨fun a h1 h2=>h a (by omega) h2,h k (by omega) hb⟩
  ·rw [if_neg hb]
   have hb:g.testBit k=false:=by simpa using hb
   refine ⟨fun h a ha=>?_,fun r h w u hw=>?_⟩
   ·by_cases e:a=k
    ·subst e;exact hb
    ·exact ih.1 h a (by omega)
   ·rw [ih.2 r h w u hw]
    constructor
    ·intro H a h1 h2
     refine H a ?_ h2
     rcases Nat.lt_or_ge a k with h|h
     ·exact h
     ·have:a=k:=by omega
      subst this;rw [h2] at hb;cases hb
    ·intro H a h1 h2;exact H a (by omega) h2
theorem zlR {m:KM} (hg:zc6 m) {g:Int} (h:1≤g∧g.toNat < 2 ^ m.rel.length) {w u:Nat} (hw:w < m.W.toNat):rb (zdz m g) w u=true↔zht m.W.toNat (zm m) g.toNat w u:=by
 obtain ⟨r,hr⟩:=zjI (op:=fun x y=>x|||y) (m:=m) (zky (g:=g.toNat) (by omega) h.2)
 unfold zdz
 rw [hr,Option.getD_some,(zwt hg (Nat.le_refl _)).2 r hr w u hw]
 unfold zht
 constructor
 ·rintro ⟨a,h1,h2,h3⟩;exact ⟨(zlX hg h3).2.1,a,h2,h3⟩
 ·rintro ⟨-,a,h2,h3⟩;exact ⟨a,(zlX hg h3).2.2,h2,h3⟩
theorem zuc {m:KM} (hg:zc6 m) {g:Int} (h:1≤g∧g.toNat < 2 ^ m.rel.length) {w u:Nat} (hw:w < m.W.toNat):rb (zih m g) w u=true ↔ ∀ a,g.toNat.testBit a=true→zd4 (zm m) a w u:=by
 obtain ⟨r,hr⟩:=zjI (op:=fun x y=>x&&&y) (m:=m) (zky (g:=g.toNat) (by omega) h.2)
 unfold zih
 rw [hr,Option.getD_some,(zwI hg (Nat.le_refl _)).2 r hr w u hw]
 constructor
 ·intro H a h2
  refine H a (Nat.lt_of_not_le fun hn=>?_) h2
  rw [Nat.testBit_lt_two_pow (Nat.lt_of_lt_of_le h.2 (Nat.pow_le_pow_right (by decide) hn))] at h2
  cases h2
 ·intro H a _ h2;exact H a h2
theorem zwu {m:KM} (hk0:zg m=0) {g:Int} (h:1≤g∧g.toNat < 2 ^ m.rel.length):zae (zdz m g)=0∧(zdz m g).length=m.W.toNat:=ziK hk0 zvm (by omega) h.2
theorem zA7 {m:KM} (hk0:zg m=0) {g:Int} (h:1≤g∧g.toNat < 2 ^ m.rel.length):zae (zih m g)=0∧(zih m g).length=m.W.toNat:=ziK hk0 zvO (by omega) h.2
theorem zmV {r:List (BitVec 64)} (h0:zae r=0) {w u:Nat} (h:rb r w u=true):u < r.length:=(zbv.1 h0).2 w u h
theorem zr0 {S S':Nat→Nat→Prop} {c c':Nat→Prop} {n w:Nat} (hw:w < n) (hS : ∀ a b,a < n→S a b→b < n∧S' a b) (hc : ∀ a,a < n→c a→c' a) {u:Nat} (h:CPt S c w u):u < n∧CPt S' c' w u:=by
 induction h with
 | one a b=>exact ⟨(hS _ _ hw a).1,.one (hS _ _ hw a).2 (hc _ (hS _ _ hw a).1 b)⟩
 | more _ a b ih=>exact ⟨(hS _ _ ih.1 a).1,.more ih.2 (hS _ _ ih.1 a).2 (hc _ (hS _ _ ih.1 a).1 b)⟩
theorem zqf {m:KM} (hk0:zg m=0) {h:Hd} (hf:zuA m h) {x y:BitVec 64} {X Y:Nat→Prop} (hx : ∀ u,x.getLsbD u=true↔u < m.W.toNat∧X u) (hy : ∀ u,y.getLsbD u=true↔u < m.W.toNat∧Y u) :
  (zbr m h x y).2=true ∧ ∀ w,(zbr m h x y).1.getLsbD w=true↔w < m.W.toNat∧znT m.W.toNat (zm m) (fun i w=>(m.val.getD i 0#64).getLsbD w=true) h X Y w:=by
 have g:=zz hk0
 have w1:=g.w1
 have w2:=g.w2
 have hall : ∀ w,(zaQ m.W).getLsbD w=true↔w < m.W.toNat:=fun w=>by
  rcases Nat.lt_or_ge w 64 with h|h
  ·rw [zeF (by omega) h,decide_eq_true_eq];omega
  ·rw [BitVec.getLsbD_of_ge _ _ h];constructor
   ·intro h;cases h
   ·intro _;omega
 have hnx : ∀ (z:BitVec 64) w,w < m.W.toNat→((~~~z).getLsbD w=true ↔ ¬z.getLsbD w=true):=fun z w hw=>by
  rw [BitVec.getLsbD_not,decide_eq_true (show w < 64 by omega)];simp
 have hbox : ∀ {r:List (BitVec 64)} {Rr:Nat→Nat→Prop},zae r=0→r.length=m.W.toNat→(∀ w u,w < m.W.toNat→(rb r w u=true↔Rr w u)) → ∀ w,(zeI r x).getLsbD w=true↔w < m.W.toNat ∧ ∀ u,Rr w u→X u:=fun {r Rr} h0 hl hr w=>by
  rw [zm6 (by omega),hl]
  refine and_congr_right fun hw=>forall_congr' fun u=>?_
  rw [hr w u hw]
  refine forall_congr' fun hu=>?_
  rw [hx]
  have:=zmV h0 ((hr w u hw).2 hu)
  exact ⟨fun h=>h.2,fun h=>⟨by omega,h⟩⟩
 have key : ∀ {P:Prop} {z:BitVec 64} {w:Nat},(w < m.W.toNat→(z.getLsbD w=true↔P))→(z.getLsbD w=true→w < m.W.toNat)→(z.getLsbD w=true↔w < m.W.toNat∧P):=fun h1 h2=>⟨fun h=>⟨h2 h,(h1 (h2 h)).1 h⟩,fun h=>(h1 h.1).2 h.2⟩
 have hxl : ∀ w,x.getLsbD w=true→w < m.W.toNat:=fun w h=>((hx w).1 h).1
 have hyl : ∀ w,y.getLsbD w=true→w < m.W.toNat:=fun w h=>((hy w).1 h).1
 have hxX : ∀ w,w < m.W.toNat→(x.getLsbD w=true↔X w):=fun w hw=>(hx w).trans ⟨fun h=>h.2,fun h=>⟨hw,h⟩⟩
 have hyY : ∀ w,w < m.W.toNat→(y.getLsbD w=true↔Y w):=fun w hw=>(hy w).trans ⟨fun h=>h.2,fun h=>⟨hw,h⟩⟩
 obtain ⟨o1,o2⟩:=hf.op
 have f1:=hf.fact
 have f2:=hf.agent
 have f3:=hf.group
 clear hf
 obtain ⟨op,i,e,G⟩:=h
 dsimp only at o1 o2 f1 f2 f3
 have hop:op=1∨op=2∨op=3∨op=4∨op=5∨op=6∨op=7∨op=8∨op=9∨op=10∨op=11∨op=12∨op=13:=by omega
 rcases hop with rfl|rfl|rfl|rfl|rfl|rfl|rfl|rfl|rfl|rfl|rfl|rfl|rfl
 ·refine ⟨rfl,fun w=>?_⟩
  show (zaQ m.W).getLsbD w=true↔w < m.W.toNat∧True
  rw [hall,and_true]
 ·refine ⟨rfl,fun w=>?_⟩
  show (0#64).getLsbD w=true↔w < m.W.toNat∧False
  simp
 ·have hi:=f1 rfl
  have hil:i.toNat < m.val.length:=by omega
  have hm:m.val.getD i.toNat 0#64∈m.val:=by rw [List.getD,List.getElem?_eq_getElem hil];exact List.getElem_mem _
  have e1:zbr m ⟨3,i,e,G⟩ x y=(m.val.getD i.toNat 0#64,true):=if_neg (show ¬(m.val.length:Int)≤i by omega)
  rw [e1]
  refine ⟨rfl,fun w=>?_⟩
  show (m.val.getD i.toNat 0#64).getLsbD w=true↔w < m.W.toNat∧(m.val.getD i.toNat 0#64).getLsbD w=true
  exact key (fun _=>Iff.rfl) fun h1=>by have:=(zeT (by omega)).1 (g.val _ hm) w h1;omega
 ·refine ⟨rfl,fun w=>?_⟩
  show (zaQ m.W &&& ~~~x).getLsbD w=true↔w < m.W.toNat ∧ ¬X w
  rw [BitVec.getLsbD_and,Bool.and_eq_true,hall]
  exact and_congr_right fun hw=>by rw [hnx x w hw,hxX w hw]
 ·refine ⟨rfl,fun w=>?_⟩
  show (x&&&y).getLsbD w=true↔w < m.W.toNat∧(X w∧Y w)
  rw [BitVec.getLsbD_and,Bool.and_eq_true,hx,hy]
  exact ⟨fun h=>⟨h.1.1,h.1.2,h.2.2⟩,fun h=>⟨⟨h.1,h.2.1⟩,h.1,h.2.2⟩⟩
 ·refine ⟨rfl,fun w=>?_⟩
  show (x|||y).getLsbD w=true↔w < m.W.toNat∧(X w∨Y w)
  rw [BitVec.getLsbD_or,Bool.or_eq_true,hx,hy,and_or_left]
 ·refine ⟨rfl,fun w=>?_⟩
  show (zaQ m.W &&& ~~~x|||y).getLsbD w=true↔w < m.W.toNat∧(X w→Y w)
  rw [BitVec.getLsbD_or,Bool.or_eq_true,BitVec.getLsbD_and,Bool.and_eq_true,hall]
  constructor
  ·rintro (⟨h1,h2⟩|h2)
   ·exact ⟨h1,fun h=>absurd ((hxX w h1).2 h) ((hnx x w h1).1 h2)⟩
   ·exact ⟨hyl w h2,fun _=>((hy w).1 h2).2⟩
  ·rintro ⟨h1,h2⟩
   by_cases h:X w
   ·exact .inr ((hyY w h1).2 (h2 h))
   ·exact .inl ⟨h1,(hnx x w h1).2 fun h3=>h ((hxX w h1).1 h3)⟩
 ·refine ⟨rfl,fun w=>?_⟩
  show (zaQ m.W &&& ~~~(x ^^^ y)).getLsbD w=true↔w < m.W.toNat∧(X w↔Y w)
  rw [BitVec.getLsbD_and,Bool.and_eq_true,hall]
  refine and_congr_right fun hw=>?_
  rw [hnx _ w hw,BitVec.getLsbD_xor,← hxX w hw,← hyY w hw]
  cases x.getLsbD w<;>cases y.getLsbD w<;>decide
 ·have hi:=f2 (.inl rfl)
  obtain ⟨r1,r2⟩:=zuo g hi
  have e1:zbr m ⟨9,i,e,G⟩ x y=(zeI (zd6 m i) x,true):=if_neg (show ¬(m.rel.length:Int)≤i by omega)
  rw [e1]
  refine ⟨rfl,fun w=>?_⟩
  show _↔w < m.W.toNat ∧ ∀ u,u < m.W.toNat→zd4 (zm m) i.toNat w u→X u
  rw [hbox r1 r2 (fun w u _=>zje hi)]
  exact and_congr_right fun hw=>forall_congr' fun u=>⟨fun h _=>h,fun h h2=>h (zlX g h2).2.1 h2⟩
 ·have hi:=f2 (.inr rfl)
  obtain ⟨r1,r2⟩:=zuo g hi
  have e1:zbr m ⟨10,i,e,G⟩ x y=(znj (zd6 m i) x,true):=if_neg (show ¬(m.rel.length:Int)≤i by omega)
  rw [e1]
  refine ⟨rfl,fun w=>?_⟩
  show _↔w < m.W.toNat ∧ ∃ u,u < m.W.toNat∧zd4 (zm m) i.toNat w u∧X u
  unfold znj
  rw [r2,show ((m.W.toNat:Nat):Int)=m.W by omega,BitVec.getLsbD_and,Bool.and_eq_true,hall]
  refine and_congr_right fun hw=>?_
  rw [hnx _ w hw,zm6 (by omega),r2]
  constructor
  ·intro hn
   refine Classical.byContradiction fun hc=>hn ⟨hw,fun u hu=>?_⟩
   have hu2:=(zje hi).1 hu
   have hul:=(zlX g hu2).2.1
   exact (hnx x u hul).2 fun h=>hc ⟨u,hul,hu2,(hxX u hul).1 h⟩
  ·rintro ⟨u,hul,hu,hX⟩ ⟨-,H⟩
   exact (hnx x u hul).1 (H u ((zje hi).2 hu)) ((hxX u hul).2 hX)
 ·have hi:=f3 (by omega)
  obtain ⟨r1,r2⟩:=zwu hk0 hi
  have hp:((2 ^ m.rel.length:Nat):Int)=(2:Int) ^ m.rel.length:=by simp
  have e1:zbr m ⟨11,i,e,G⟩ x y=(zeI (zdz m G) x,true):=if_neg (show ¬(2:Int) ^ m.rel.length≤G by omega)
  rw [e1]
  refine ⟨rfl,fun w=>?_⟩
  show _↔w < m.W.toNat ∧ ∀ u,zht m.W.toNat (zm m) G.toNat w u→X u
  rw [hbox r1 r2 (fun w u hw=>zlR g hi hw)]
 ·have hi:=f3 (by omega)
  obtain ⟨r1,r2⟩:=zA7 hk0 hi
  have hp:((2 ^ m.rel.length:Nat):Int)=(2:Int) ^ m.rel.length:=by simp
  have e1:zbr m ⟨12,i,e,G⟩ x y=(zeI (zih m G) x,true):=if_neg (show ¬(2:Int) ^ m.rel.length≤G by omega)
  rw [e1]
  refine ⟨rfl,fun w=>?_⟩
  show _↔w < m.W.toNat ∧ ∀ u,u < m.W.toNat→(∀ a,G.toNat.testBit a=true→zd4 (zm m) a w u)→X u
  rw [hbox r1 r2 (fun w u hw=>zuc g hi hw)]
  refine and_congr_right fun hw=>forall_congr' fun u=>⟨fun h _=>h,fun h h2=>h ?_ h2⟩
  have:=zmV r1 ((zuc g hi hw).2 h2)
  omega
 ·have hi:=f3 (by omega)
  obtain ⟨r1,r2⟩:=zwu hk0 hi
  have hp:((2 ^ m.rel.length:Nat):Int)=(2:Int) ^ m.rel.length:=by simp
  have e1:zbr m ⟨13,i,e,G⟩ x y=(zng (zdz m G) x y,true):=if_neg (show ¬(2:Int) ^ m.rel.length≤G by omega)
  rw [e1]
  refine ⟨rfl,fun w=>?_⟩
  show _↔w < m.W.toNat ∧ ∀ u,CPt (zht m.W.toNat (zm m) G.toNat) X w u→Y u
  unfold zng
  rw [zbU (by omega),r2,@decide_eq_true_eq _ (Classical.propDecidable _)]
  refine and_congr_right fun hw=>?_
  unfold zxG
  constructor
  ·intro H u hu
   obtain ⟨h1,h2⟩:=zr0 (S':=fun a b=>rb (zdz m G) a b=true) (c':=fun u=>x.getLsbD u=true) hw (fun a b ha hab=>⟨hab.1,(zlR g hi ha).2 hab⟩) (fun a ha h=>(hxX a ha).2 h) hu
   exact (hyY u h1).1 (H u h2)
  ·intro H u hu
   obtain ⟨h1,h2⟩:=zr0 (S':=zht m.W.toNat (zm m) G.toNat) (c':=X) hw (fun a b ha hab=>⟨((zlR g hi ha).1 hab).1,(zlR g hi ha).1 hab⟩) (fun a ha h=>(hxX a ha).1 h) hu
   exact (hyY u h1).2 (H u h2)
theorem zoz {m:KM} (hk0:zg m=0) : ∀ (t:Tm),t.ok→t.all (zuA m)→(ev (vnK m) (0#64,false) t).2=true ∧ ∀ w,(ev (vnK m) (0#64,false) t).1.getLsbD w=true↔w < m.W.toNat∧zps m t w
 | .z h,h1,h2=>by
  have h4 : ¬(4≤h.op∧h.op≤21):=by simpa [zaq] using h1.2.1
  have hop:=h2.op
  have hd : ∀ u,(0#64).getLsbD u=true↔u < m.W.toNat∧False:=fun u=>by simp
  have e:ev (vnK m) (0#64,false) (.z h)=zbr m h 0#64 0#64:=if_pos ⟨fun h=>by omega,fun h=>by omega⟩
  rw [e]
  exact zqf hk0 h2 hd hd
 | .u h x,h1,h2=>by
  obtain ⟨a1,a2⟩:=zoz hk0 x h1.2.2.2 h2.2
  have h5 : ¬(5≤h.op∧h.op≤8∨h.op=13∨h.op=14∨h.op=16∨h.op=19∨h.op=21):=by simpa [zaf] using h1.2.2.1
  have hd : ∀ u,(0#64).getLsbD u=true↔u < m.W.toNat∧False:=fun u=>by simp
  have e:ev (vnK m) (0#64,false) (.u h x)=zbr m h (ev (vnK m) (0#64,false) x).1 0#64:=if_pos ⟨fun _=>a1,fun h=>by omega⟩
  rw [e]
  exact zqf hk0 h2.1 a2 hd
 | .b h x y,h1,h2=>by
  obtain ⟨a1,a2⟩:=zoz hk0 x h1.2.2.2.1 h2.2.1
  obtain ⟨b1,b2⟩:=zoz hk0 y h1.2.2.2.2 h2.2.2
  have e:ev (vnK m) (0#64,false) (.b h x y)=zbr m h (ev (vnK m) (0#64,false) x).1 (ev (vnK m) (0#64,false) y).1:=if_pos ⟨fun _=>a1,fun _=>b1⟩
  rw [e]
  exact zqf hk0 h2.1 a2 b2
def zl1 (f:List Nd):Tm:=zaz f (f.length - 1)
theorem zzV {m:KM} {f:List Nd} (h:zbD m f=0):(zl1 f).ok∧(zl1 f).all (zuA m):=by
 obtain ⟨h1,h2,h3,h4⟩:=zjb h
 obtain ⟨p1,p2,p3⟩:=zeW.1 h2
 have g:=zz h1
 refine ⟨zgV p3 f.length _ (by omega) (by omega),((zju h2).1.all (zuA m)).1 fun n hn=>?_⟩
 have hh:=zob hn
 have ho:1≤n.op∧n.op≤21:=by have:zcA n.op=true:=hh.op;simpa [zcA] using this
 have hlt:uni zb9 (cL f) < 2 ^ 63:=Nat.lt_of_lt_of_le ((zlz zb9 (b:=9)).2 fun n _=>znt n.hd) (by decide)
 have a1:=(zte hlt (b:=15) (by decide)).1 h3
 have a2 : ∀ i,(zb9 n.hd).testBit i=true→(15:Nat).testBit i=true:=fun i hi=>a1 i (by rw [zl4];exact List.any_eq_true.2 ⟨n,hn,hi⟩)
 have key : ∀ (o:Int) (i:Nat),n.op=o→((zaS o).toNat).testBit i=true→(15:Nat).testBit i=true:=fun o i e hi=>a2 i (by rw [zb9];show ((zaS n.op).toNat).testBit i=true;rw [e];exact hi)
 have hop:n.op≤13:=by
  refine Classical.byContradiction fun hn13=>?_
  have:n.op=14∨n.op=15∨n.op=16∨n.op=17∨n.op=18∨n.op=19∨n.op=20∨n.op=21:=by omega
  rcases this with e|e|e|e|e|e|e|e
  ·exact absurd (key _ 4 e (by decide)) (by decide)
  ·exact absurd (key _ 5 e (by decide)) (by decide)
  ·exact absurd (key _ 6 e (by decide)) (by decide)
  ·exact absurd (key _ 7 e (by decide)) (by decide)
  ·exact absurd (key _ 8 e (by decide)) (by decide)
  ·exact absurd (key _ 8 e (by decide)) (by decide)
  ·exact absurd (key _ 8 e (by decide)) (by decide)
  ·exact absurd (key _ 8 e (by decide)) (by decide)
 simp only [zjG,zf2,Bool.and_eq_true,decide_eq_true_eq,Int.toNat_natCast] at h4
 obtain ⟨⟨-,b1⟩,b2⟩:=h4
 have n4:=g.n4
 have v8:=g.v8
 have b1:=(zlz zcQ).1 (b1.resolve_left (by omega)) n hn
 have b2:=(zlz zff).1 (b2.resolve_left (by omega)) n hn
 refine ⟨⟨ho.1,hop⟩,fun e=>?_,fun e=>?_,fun e=>?_⟩
 ·have e':zZ n.hd.op=true:=decide_eq_true e
  have h3:0≤n.i∧n.i≤7:=hh.fact e'
  rw [zff,if_pos e'] at b2
  have b2:2 ^ n.i.toNat < 2 ^ m.val.length:=b2
  have:=(Nat.pow_lt_pow_iff_right (by decide:1 < 2)).1 b2
  show 0≤n.i∧n.i < _
  omega
 ·have e':zJ n.hd.op=true:=decide_eq_true (by rcases e with e|e<;>rw [e]<;>simp)
  have h3:0≤n.i∧n.i≤3:=hh.agent e'
  rw [zcQ,if_pos e'] at b1
  have b1:2 ^ n.i.toNat < 2 ^ m.rel.length:=b1
  have:=(Nat.pow_lt_pow_iff_right (by decide:1 < 2)).1 b1
  show 0≤n.i∧n.i < _
  omega
 ·have e2:11≤n.op∧n.op≤13:=e
  have h3:1≤n.g∧n.g≤15:=hh.group (decide_eq_true e2)
  have e3 : ¬ zJ n.hd.op=true:=by
   simp only [zJ,decide_eq_true_eq];show ¬(n.op=9∨n.op=10∨n.op=14∨n.op=15);omega
  rw [zcQ,if_neg e3] at b1
  exact ⟨h3.1,b1⟩
theorem zBx {m:KM} {f:List Nd} (h:zbD m f=0):(zfj m f).2=0 ∧ ∀ w,(zfj m f).1.getLsbD w=true↔w < m.W.toNat∧zps m (zl1 f) w:=by
 obtain ⟨h1,h2,h3,h4⟩:=zjb h
 obtain ⟨p1,p2,p3⟩:=zeW.1 h2
 have hd:zfj m f=((ev (vnK m) (0#64,false) (zl1 f)).1,0):=by
  unfold zfj zl1
  rw [if_neg (by omega),zuq (zzh m) p3 f [] (by simp) (by simp) (fun i hi=>by simp at hi) (f.length - 1) (by omega)]
 rw [hd]
 obtain ⟨a1,a2⟩:=zzV h
 exact ⟨rfl,(zoz h1 _ a1 a2).2⟩
theorem zBX {f:List Nd} (hf:zcx f=0) (h:za7 .i64 (fun p q=>p&&&q) (uni zb9 (cL f):Int) 4=0):(zl1 f).all fun h=>h.op≠12:=by
 refine ((zju hf).1.all _).1 fun n hn e=>?_
 have hlt:uni zb9 (cL f) < 2 ^ 63:=Nat.lt_of_lt_of_le ((zlz zb9 (b:=9)).2 fun n _=>znt n.hd) (by decide)
 rw [show (4:Int)=((4:Nat):Int) from rfl,zrS hlt (by decide)] at h
 have h0:uni zb9 (cL f)&&&4=0:=by omega
 have h1:(uni zb9 (cL f)).testBit 2=true:=by
  rw [zl4]
  refine List.any_eq_true.2 ⟨n,hn,?_⟩
  rw [zb9,e];decide
 have h2:=congrArg (fun x=>x.testBit 2) h0
 simp only [Nat.testBit_and,h1,Bool.true_and,Nat.zero_testBit] at h2
 exact absurd h2 (by decide)
theorem zBR {m m':KM} {f:List Nd} (h:zbD m f=0) (hk:zg m'=0) (hr:m'.rel.length=m.rel.length) (hv:m'.val.length=m.val.length):zbD m' f=0:=by
 obtain ⟨h1,h2,h3,h4⟩:=zjb h
 unfold zbD
 rw [if_neg (by omega),if_neg (by omega),if_neg (by omega),hr,hv,if_neg (by rw [h4];decide)]
theorem zzU {m m':KM} (hv:m'.val.length=m.val.length) {v v':Nat} (e:zV m v=zV m' v') (i:Nat):(m.val.getD i 0#64).getLsbD v=true↔(m'.val.getD i 0#64).getLsbD v'=true:=by
 have hb:=fun j=>congrArg (fun x:Nat=>x.testBit j) (Int.ofNat.inj e)
 rcases Nat.lt_or_ge i m.val.length with h|h
 ·have h1:=zgb m.val v (i:=i) m.val.length
  have h2:=zgb m'.val v' (i:=i) m'.val.length
  have e1:(zaB m.val v m.val.length).testBit i=(zaB m'.val v' m'.val.length).testBit i:=hb i
  exact ⟨fun h3=>(h2.1 (by rw [← e1];exact h1.2 ⟨h,h3⟩)).2,fun h3=>(h1.1 (by rw [e1];exact h2.2 ⟨by omega,h3⟩)).2⟩
 ·simp [List.getD,List.getElem?_eq_none h,List.getElem?_eq_none (show m'.val.length≤i by omega)]
theorem zAk {m m':KM} (hv:m'.val.length=m.val.length) {Z:Nat→Nat→Prop} (B:zdv m.W.toNat m'.W.toNat (zm m) (zm m') (zV m) (zV m') Z) {t:Tm} (ht:t.all fun h=>h.op≠12) {v v':Nat} (hz:Z v v'):zps m t v↔zps m' t v' :=
 zl0 B (fun i v v' hz=>zzU hv (B.fac hz) i) t ht v v' hz
end Go.Ab
namespace Go.Ab
open Go
theorem zBS {m m':KM} (hv:m'.val.length=m.val.length) {v v':Nat} (h:zg1 (ptM m v) (ptM m' v')) {t:Tm} (ht:t.all fun h=>h.op≠12):zps m t v↔zps m' t v':=by
 obtain ⟨Z,B,hz⟩:=h
 exact zAk hv B ht hz
theorem zBP {m:KM} (hk0:zg m=0) {w:Nat} (hw:w < m.W.toNat):zg (zb3 m (w:Int)).1=0∧(zb3 m (w:Int)).2.2=0∧(∃ r:Nat,(zb3 m (w:Int)).2.1=(r:Int)∧r < (zb3 m (w:Int)).1.W.toNat∧zg1 (ptM m w) (ptM (zb3 m (w:Int)).1 r))∧(zb3 m (w:Int)).1.val.length=m.val.length∧(zb3 m (w:Int)).1.rel.length=m.rel.length∧(zb3 m (w:Int)).1.W≤m.W:=by
 obtain ⟨h1,h2,h3,h4⟩:=zAd hk0 hw
 have hr:(ptM m w).min.root < (ptM m w).min.n:=zyO hk0 hw
 have hok:=zwT (m:=m) hk0 (w:=(w:Int)) (by omega)
 have hlen:=zlP (n:=m.W.toNat) (R:=zm m) (w:=w)
 have hle:=zcT (zX m w).W.toNat (cq (zX m w))
 obtain ⟨hp0,hpW,hpI,hp1⟩:=zt3 hk0 hw
 rw [Int.toNat_natCast] at hok
 have hWq:(zb3 m (w:Int)).1.W.toNat=zD (zX m w).W.toNat (cq (zX m w)):=by rw [hok];exact zwV _ _
 have q1:=(zz h2).w1
 refine ⟨h2,by rw [hok],⟨_,h3,by rw [h1];exact hr,?_⟩,by rw [hok];simp [zap,zX,zc9],by rw [hok];simp [zap,zX,zc9],by omega⟩
 have hb:=h4.bis
 refine (zsE (m:=ptM m w) hw).trans (m2:=ptM (zb3 m (w:Int)).1 (ptM m w).min.root) ⟨fun v v'=>v < (ptM m w).min.n∧v'=v,?_,hr,rfl⟩
 rw [show (ptM (zb3 m (w:Int)).1 (ptM m w).min.root).n=(ptM m w).min.n from h1]
 exact hb
theorem zBQ {m:KM} (hk0:zg m=0) {w:Nat} (hw:w < m.W.toNat):zg1 (ptM m w) (ptM (zap m (cq m)) (zI (cq m) w)):=⟨_,zAe hk0,hw,rfl⟩
end Go.Ab
namespace Go.Ab
open Go Go.Proofs Go.RowKit Go.Lib Go.Sort
theorem zzs:bits BinOp.and IntKind.i64 16 15=0:=by decide
abbrev zdx:UInt8→Value:=fun b=>Value.int .u8 (b.toNat:Int)
theorem zwv {P:Program} (t:TypeId) (ht:P.underlying t=some .string) (k:IntKind) (x:Nat) (hx:x < 16) (w:World) :
  (Instr.index t (.string { data := #[48,49,50,51,52,53,54,55,56,57,97,98,99,100,101,102,103,104,105,106,107,108,109,110,111,112,113,114,115,116,117,118,119,120,121,122] }) (.int k (x:Int))).run P w = .ok (.int .u8 ((zag x).toNat:Int)) w:=by
 rw [run_index_string w t _ k _ ht,dif_pos ⟨by omega,by show (x:Int) < 36;omega⟩]
 have:x=0∨x=1∨x=2∨x=3∨x=4∨x=5∨x=6∨x=7∨x=8∨x=9∨x=10∨x=11∨x=12∨x=13∨x=14∨x=15:=by omega
 rcases this with rfl|rfl|rfl|rfl|rfl|rfl|rfl|rfl|rfl|rfl|rfl|rfl|rfl|rfl|rfl|rfl<;>rfl
theorem zyp (x:Nat) (hx:x < 16) (h:x < (ByteArray.mk #[48,49,50,51,52,53,54,55,56,57,97,98,99,100,101,102,103,104,105,106,107,108,109,110,111,112,113,114,115,116,117,118,119,120,121,122]).size) :
  (ByteArray.mk #[48,49,50,51,52,53,54,55,56,57,97,98,99,100,101,102,103,104,105,106,107,108,109,110,111,112,113,114,115,116,117,118,119,120,121,122])[x]=zag x:=by
 have:x=0∨x=1∨x=2∨x=3∨x=4∨x=5∨x=6∨x=7∨x=8∨x=9∨x=10∨x=11∨x=12∨x=13∨x=14∨x=15:=by omega
 rcases this with rfl|rfl|rfl|rfl|rfl|rfl|rfl|rfl|rfl|rfl|rfl|rfl|rfl|rfl|rfl|rfl<;>rfl
theorem zw8 (dk:Array UInt8) (i:Nat) (x:UInt8) (hi:i < dk.size):(dk.setIfInBounds i x)[i]! = x:=by simp [hi]
theorem zw9 (dk:Array UInt8) (i j:Nat) (x:UInt8) (h:i≠j):(dk.setIfInBounds i x)[j]! = dk[j]! := by rw [getElem!_def,getElem!_def,Array.getElem?_setIfInBounds_ne h]
theorem zz0 (w:World) (t:TypeId):Holds zdx (w.alloc (.cells Tryz.zeroCells222 t)) w.heap.size 0 (Array.replicate 65 0):=by
 intro j hj
 have hj:j < 65:=by simpa using hj
 refine ⟨?_,World.frozen?_alloc_new _ _ _ _⟩
 rw [World.cell?_alloc_new,Nat.zero_add]
 have h:Tryz.zeroCells222=Array.replicate 65 (Value.int .u8 0):=by kernel_rfl
 rw [h]
 simp [hj]
theorem zws {w w1:World} {o:Obj} {d:Array UInt8} (h:w.alloc o=w1):w.grownBy (putRow zdx w1 w.heap.size 0 d) none:=by
 subst h
 refine ⟨rfl,rfl,rfl,by simp,fun b hb _=>?_⟩
 have:(putRow zdx (w.alloc o) w.heap.size 0 d).heap[b]? = (w.alloc o).heap[b]? := by
  unfold putRow mapBlock
  rw [Array.getElem?_modify,if_neg (by omega)]
 rw [this]
 exact heap_alloc_old _ _ hb
theorem zz2 (w:World):Calls Tryz.prog 202 #[.int .i64 16] w fun e w'=>e = .returned (.bool true)∧w'=w:=by
 have hp:=zzs
 go_enter Tryz.func202,Tryz.ntmps202
 go_wp2
 go_ret
 exact ⟨rfl,rfl⟩
theorem zBU (w:World) (T:Nat→Obj→Prop) (hw : ∀ b o,T b o→w.heap[b]? = some o)
  (hz : ∀ w':World,(∀ b o,T b o→w'.heap[b]? = some o)→Calls Tryz.prog 64 #[.int .u64 16] w' fun e w''=>e = .returned (.int .i64 4)∧w''=w') :
  Calls Tryz.prog 203 #[.int .u64 16] w fun e w'=>e = .returned (.int .i64 4)∧w'=w:=by
 go_enter Tryz.func203,Tryz.ntmps203
 go_wp2_with (go_at_call 64;refine (hz _ hw).mono ?_;rintro e w' ⟨rfl,rfl⟩)
 go_ret
 exact ⟨rfl,rfl⟩
set_option maxHeartbeats 4000000 in
set_option maxRecDepth 100000 in
theorem zAH (u:Nat) (hu:u < 18446744073709551616) (w:World) (T:Nat→Obj→Prop) (hw : ∀ b o,T b o→w.heap[b]? = some o)
  (hz : ∀ w':World,(∀ b o,T b o→w'.heap[b]? = some o)→Calls Tryz.prog 64 #[.int .u64 16] w' fun e w''=>e = .returned (.int .i64 4)∧w''=w') :
  Calls Tryz.prog 190 #[.slice none 0 0,.int .u64 u,.int .i64 16,.bool false,.bool false] w fun e w'=>e = .returned (.tuple #[.slice none 0 0,.string ⟨(zdA 15 u).toArray⟩])∧w.grownBy w' none:=by
 have hp:=zzs
 go_enter Tryz.func190,Tryz.ntmps190
 go_wp2_with (first|(go_at_call 202;refine (zz2 _).mono ?_;rintro e w' ⟨rfl,rfl⟩)|(go_at_call 203;refine (zBU _ T ?_ hz).mono ?_;rotate_left;rintro e w' ⟨rfl,rfl⟩))
 ·generalize hw1:w.alloc (Obj.cells Tryz.zeroCells222 222)=w1
  have hH:=zz0 w 222
  rw [hw1] at hH
  have hix:=zwv (P:=Tryz.prog) 9 Tryz.underlying9 .u64
  go_loopw [1,13] (fun vu vi wr => ∃ (k v:Nat) (dk:Array UInt8) (ds:List UInt8),vu = .int .u64 v∧vi = .int .i64 (50+k:Nat)∧k≤15∧v < 16 ^ (k+1)∧zdA 15 u=zdA k v++ds∧wr=putRow zdx w1 w.heap.size 0 dk∧dk.size=65∧ds.length=15 - k ∧ ∀ j (hj:j < ds.length),dk[50+k+j]! = ds[j]) (fun _ vi _=>(RowKit.intOf vi).toNat)
  case atStart=>exact ⟨15,u,Array.replicate 65 0,[],rfl,rfl,Nat.le_refl _,by simpa using hu,by simp,(putRow_self _ _ _ _ _ hH).symm,by simp,rfl,fun j hj=>by simp at hj⟩
  case round =>
   obtain ⟨k,v,dk,ds,rfl,rfl,hk,hv,hx,rfl,hs,hdl,hd⟩:=hrel
   have hHk:Holds zdx (putRow zdx w1 w.heap.size 0 dk) w.heap.size 0 dk:=holds_putRow zdx w1 w.heap.size 0 (Array.replicate 65 0) dk hH (by simp [hs])
   obtain ⟨G,hG⟩ : ∃ G:Nat→Int,∀ t,G t=(dk[t]!.toNat:Int):=⟨_,fun _=>rfl⟩
   have hc0 : ∀ t,t < 65→(putRow zdx w1 w.heap.size 0 dk).cell? ⟨w.heap.size,t,none⟩=some (.int .u8 (G t)):=fun t ht=>by have:=(hHk t (by omega)).1;rw [Nat.zero_add] at this;rw [hG];exact this
   have hf0 : ∀ t,t < 65→(putRow zdx w1 w.heap.size 0 dk).frozen? ⟨w.heap.size,t,none⟩=false:=fun t ht=>by have:=(hHk t (by omega)).2;rw [Nat.zero_add] at this;exact this
   by_cases h16:16≤v
   ·obtain ⟨k,rfl⟩ : ∃ k',k=k'+1:=⟨k - 1,by
     rcases Nat.eq_zero_or_pos k with rfl|h
     ·simp at hv;omega
     ·omega⟩
    have hand0:bits BinOp.and IntKind.u64 (v:Int) 15=(v:Int) % 16:=by
     have h0:(0:Int)≤v:=by omega
     have h1:(v:Int) < 18446744073709551616:=by
      have:16 ^ (k+1+1)≤16 ^ 16:=Nat.pow_le_pow_right (by omega) (by omega)
      omega
     go_bits2
    have hand:bits BinOp.and IntKind.u64 (v:Int) 15=((v % 16:Nat):Int):=by rw [hand0];omega
    clear hand0
    have hc1:=hc0 (50+k) (by omega)
    have hf1:=hf0 (50+k) (by omega)
    have hm16:v % 16 < 16:=Nat.mod_lt _ (by omega)
    generalize hW:putRow zdx w1 w.heap.size 0 dk=W at *
    go_wp2
    rw [zyp (v % 16) hm16]
    have hset:W.setCell { block:=w.heap.size,off:=50+k } (Value.int IntKind.u8 ((zag (v % 16)).toNat:Int))=putRow zdx w1 w.heap.size 0 (dk.setIfInBounds (50+k) (zag (v % 16))):=by
     rw [← hW,← putRow_set zdx w1 w.heap.size 0 dk (50+k) (zag (v % 16)) (by omega),Nat.zero_add]
    refine ⟨⟨k,v / 16,dk.setIfInBounds (50+k) (zag (v % 16)),zag (v % 16)::ds,by simp,by go_num,by omega,by rw [Nat.pow_succ] at hv;omega,?_,hset,by simp [hs],by simp;omega,fun j hj=>?_⟩,by simp [RowKit.intOf];omega⟩
    ·rw [hx,zdA,if_neg (by omega)];simp
    ·cases j with
     | zero=>rw [Nat.add_zero,zw8 _ _ _ (by omega)];rfl
     | succ j =>
      rw [zw9 _ _ _ _ (by omega)]
      have:=hd j (by simpa using hj)
      rw [show 50+k+(j+1)=50+(k+1)+j by omega,this];rfl
   ·have h15:v < 16:=by omega
    have hc1:=hc0 (49+k) (by omega)
    have hf1:=hf0 (49+k) (by omega)
    have hal:Tryz.prog.arrayLen 222=65:=by kernel_rfl
    generalize hW:putRow zdx w1 w.heap.size 0 dk=W at *
    have hl:(zag v::ds).length=16 - k:=by simp [hdl];omega
    have hxx:zdA 15 u=zag v::ds:=by
     rw [hx]
     cases k with
     | zero=>rw [zdA,Nat.mod_eq_of_lt h15];rfl
     | succ k=>rw [zdA,if_pos h15];rfl
    have hsl : ∀ W,(Instr.sliceAt 222 (.pointer (some ⟨w.heap.size,0,none⟩)) (some (.int .i64 (50+(k:Int) - 1))) none none).run Tryz.prog W = .ok (.slice (some ⟨w.heap.size,49+k,none⟩) (16 - k) (16 - k)) W:=fun W=>by
     rw [run_sliceAt_array_l W 222 ⟨w.heap.size,0,none⟩ (by simp [Program.arrayLen,Program.elem,Tryz.underlying222]) .i64 (50+(k:Int) - 1) (by omega) (by rw [hal];omega)]
     go_simp
     rw [show (50+(k:Int)).toNat=50+k by omega,if_neg (by omega)]
     exact ⟨by rw [show 50+k - 1=49+k by omega],by omega⟩
    have hset:W.setCell { block:=w.heap.size,off:=49+k } (Value.int IntKind.u8 ((zag v).toNat:Int))=putRow zdx w1 w.heap.size 0 (dk.setIfInBounds (49+k) (zag v)):=by
     rw [← hW,← putRow_set zdx w1 w.heap.size 0 dk (49+k) (zag v) (by omega),Nat.zero_add]
    have hH2:Holds zdx (putRow zdx w1 w.heap.size 0 (dk.setIfInBounds (49+k) (zag v))) w.heap.size 0 (dk.setIfInBounds (49+k) (zag v)):=holds_putRow zdx w1 w.heap.size 0 (Array.replicate 65 0) _ hH (by simp [hs])
    have hcv:(convert 208 9 (.slice (some ⟨w.heap.size,49+k,none⟩) (16 - k) (16 - k))).run Tryz.prog (W.setCell { block:=w.heap.size,off:=49+k } (Value.int IntKind.u8 ((zag v).toNat:Int))) = .ok (.string ⟨(zag v::ds).toArray⟩) (W.setCell { block:=w.heap.size,off:=49+k } (Value.int IntKind.u8 ((zag v).toNat:Int))):=by
     have h:=run_convert_bytes_back (P:=Tryz.prog) (W.setCell { block:=w.heap.size,off:=49+k } (Value.int IntKind.u8 ((zag v).toNat:Int))) 208 9 5 ⟨w.heap.size,49+k,none⟩ (16 - k) (zag v::ds) Tryz.underlying208 Tryz.underlying5 Tryz.underlying9 (fun j hj=>by
      rw [Addr.add_lit,hset]
      have h1:=(hH2 (49+k+j) (by simp [hs];omega)).1
      rw [Nat.zero_add] at h1
      rw [h1]
      cases j with
      | zero=>rw [Nat.add_zero,zw8 _ _ _ (by omega)];rfl
      | succ j =>
       rw [zw9 _ _ _ _ (by omega)]
       have:=hd j (by simpa using hj)
       rw [show 49+k+(j+1)=50+k+j by omega,this];rfl)
     rw [hl] at h
     exact h
    rw [hset] at hcv
    go_wp2
    go_ret2
    refine ⟨?_,zws hw1⟩
    rw [← hx,hxx];rfl
 ·intro b o ht
  exact (heap_alloc_old _ _ (by have:=hw b o ht;exact zp this)).trans (hw b o ht)
theorem zBs (u:Nat) (hu:u < 18446744073709551616) (w:World) (T:Nat→Obj→Prop) (hw : ∀ b o,T b o→w.heap[b]? = some o)
  (hz : ∀ w':World,(∀ b o,T b o→w'.heap[b]? = some o)→Calls Tryz.prog 64 #[.int .u64 16] w' fun e w''=>e = .returned (.int .i64 4)∧w''=w') :
  Calls Tryz.prog 164 #[.int .u64 u,.int .i64 16] w fun e w'=>e = .returned (.string ⟨(zdA 15 u).toArray⟩)∧w.grownBy w' none:=by
 go_enter Tryz.func164,Tryz.ntmps164
 go_wp2_with (go_at_call 190;refine (zAH u hu _ T hw hz).mono ?_;rintro e w' ⟨rfl,hg⟩)
 go_ret
 exact ⟨rfl,hg⟩
theorem zA3 {T:Nat→Obj→Prop} (hz : ∀ w':World,(∀ b o,T b o→w'.heap[b]? = some o)→Calls Tryz.prog 64 #[.int .u64 16] w' fun e w''=>e = .returned (.int .i64 4)∧w''=w') (x:BitVec 64) :
  Fn Tryz.prog T zcI [.d (.u64 x),.d (.int .i64 16)] [] (.d (.str (zfE x))) []:=by
 refine zmK ⟨_,Tryz.func164,by decide,rfl⟩ fun B σ a w args hT hS hsz hargs=>?_
 have ha:args = #[args.getD 0 undef,args.getD 1 undef]:=by
  apply Array.ext
  ·simpa using hsz
  ·intro i h1 h2
   match i,h2 with
   | 0,_=>simp [Array.getD,show 0 < args.size by omega]
   | 1,_=>simp [Array.getD,show 1 < args.size by omega]
 have h0:=hargs 0 (by simp)
 have h1:=hargs 1 (by simp)
 rw [ha]
 have e0:([V.d (D.u64 x),V.d (D.int .i64 16)].getD 0 .undef) = .d (D.u64 x):=rfl
 have e1:([V.d (D.u64 x),V.d (D.int .i64 16)].getD 1 .undef) = .d (D.int .i64 16):=rfl
 rw [e0] at h0
 rw [e1] at h1
 generalize args.getD 0 undef=va at h0
 generalize args.getD 1 undef=vb at h1
 cases h0 with
 | d _ _ hd0 =>
 cases h1 with
 | d _ _ hd1 =>
 cases hd0
 cases hd1
 refine (zBs x.toNat x.isLt w T (fun b o ht=>hS.pins b o (hT b o ht)) hz).mono ?_
 rintro e w' ⟨he,hg⟩
 refine ⟨_,σ,he,⟨fun t => .undef _,fun id ob h=>by simp [zy] at h,fun i j b h=>absurd (by simp [zy]) h,fun id b h=>absurd (by simp [zy]) h,fun _ _=>by simp [zy],?_,hS.nt,fun b hb=>Nat.lt_of_lt_of_le (hS.olt b hb) hg.size,fun b o hp=>(hg.block b (zp (hS.pins b o hp)) (by simp)).trans (hS.pins b o hp),fun id l h=>by simp [zy] at h⟩,.d _ _ ?_,fun i ob h=>by simp at h⟩
 ·refine ⟨hg.os.trans hS.kept.os,hg.tape.trans hS.kept.tape,hg.output.trans hS.kept.output,Nat.le_trans hS.kept.size hg.size,fun b hb hR=>(hg.block b (Nat.lt_of_lt_of_le hb hS.kept.size) (by simp)).trans (hS.kept.block b hb hR),fun b c e h=>?_⟩
  obtain ⟨c',h1,h2⟩:=hS.kept.cells b c e h
  exact ⟨c',(hg.block b (zp h1) (by simp)).trans h1,h2⟩
 ·exact .str _
end Go.Ab
namespace Go.Ab
open Go Go.Proofs
set_option maxRecDepth 10000
set_option maxHeartbeats 4000000
variable {T:Nat→Obj→Prop}
theorem zrb (x:BitVec 64) (h:Fn Tryz.prog T zcI [.d (.u64 x),.d (.int .i64 16)] [] (.d (.str (zfE x))) []):Fn Tryz.prog T zdh [.d (.u64 x),.d (.int .i64 16)] [] (.d (.str (zfE x))) []:=by
 refine zf zu zjT (by show 2≤8;decide) ?_
 (repeat' ((conv=>whnf);first|refine vA ?_|refine vB fun b hb=>?_|refine vC (fun hl=>?_) fun i kv vv hi=>?_|refine vE ?_|refine vG ?_|refine vH ?_|((first|refine vD ?_ ?_|refine vF ?_ ?_|refine vI ?_ ?_)<;>intro hc<;>try simp only [vL] at hc)|refine vJ fun hg=>?_|refine vK fun hg=>?_|refine vT ?_|refine vN ‹_› ?_|(refine vQ ?_ fun x hx=>?_;·first|omega|(simp only [vM] at *;omega))|((first|refine vO ?_ ?_|refine vR ?_ ‹_› ?_|refine vS ?_ fun x hx=>?_|refine vP ?_ ?_);·first|omega|(simp only [vM] at *;omega))|refine vW ⟨by omega,by omega⟩ ?_|(refine vU ?_ ?_;·kernel_rfl)|refine vX ?_|refine vY ?_|refine vZ ?_|refine yD h (by (repeat refine ⟨⟨rfl,rfl⟩,?_⟩);rfl) rfl ?_|refine yN h (by (repeat refine ⟨⟨rfl,rfl⟩,?_⟩);rfl) ?_|refine zaD.mk _ ‹_› ?_|refine vP (show (_:BitVec 64)≠_ by decide) ?_));all_goals try conv=>whnf
 rfl
end Go.Ab
