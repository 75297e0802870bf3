/- A part of the proofs of this seat: functions and their contracts. -/
import Derived.Test.YtnmoepbhlbebkaaDoorME
set_option linter.unusedVariables false
set_option linter.unusedSimpArgs false
set_option linter.unusedSectionVars false
namespace Go.Ab
open Go Go.Proofs
set_option maxRecDepth 10000
set_option maxHeartbeats 4000000
variable {T:Nat→Obj→Prop}
def zAQ (T:Nat→Obj→Prop) (f:List Nd) (i:Nat):Prop := ∀ (m:KM) (es:List (Nat×BitVec 64)),zi m=0→(∀ n∈f,zhK m n.hd)→zkj f m es →
 Fn Tryd.prog T zaq [.ptr 0 0,.d (.int .i64 (i:Int))] [zbP m f 1 2,.map (zbp es),zb8] (.d (.u64 (zA (zt f i) m))) [some (zbP m f 1 2),some (.map (zbp (zaY f m (i+1) i es))),some zb8]
noncomputable def xM (f:List Nd) (m:KM) (n:Nd) (es:List (Nat×BitVec 64)):List (Nat×BitVec 64):=cond (zG n.op) (zaY f m (n.x.toNat+1) n.x.toNat es) es
noncomputable def yM (f:List Nd) (m:KM) (n:Nd) (es:List (Nat×BitVec 64)):List (Nat×BitVec 64):=cond (zH n.op && !decide (n.op=16)) (zaY f m (n.y.toNat+1) n.y.toNat (xM f m n es)) (xM f m n es)
set_option maxHeartbeats 40000000 in
theorem zw2 (hT:zcl T) {f:List Nd} (hf:zaf f) {i:Nat} {n:Nd} (hn:f[i]? = some n) (ih : ∀ j,j < i→zAQ T f j) {m:KM} {es:List (Nat×BitVec 64)} (hk0:zi m=0) (hfit : ∀ n∈f,zhK m n.hd) (hes:zkj f m es) :
  Fn Tryd.prog T zde [.ptr 0 0,.d (dNd n)] [zbP m f 1 2,.map (zbp es),zb8] (.d (.u64 (zA (zt f i) m))) [some (zbP m f 1 2),some (.map (zbp (yM f m n es))),some zb8]:=by
 have hi:i < f.length:=(List.getElem?_eq_some_iff.1 hn).1
 have hgn:f.getD i default=n:=by simp [List.getD,hn]
 have hne:=zaG.1 (hf i n hn)
 have hh:=hne.1
 have hfn:=hfit n (List.mem_of_getElem? hn)
 have htm:=zdx hf hi
 rw [hgn] at htm
 have gm:=zw hk0
 have w1:=gm.w1
 have w2:=gm.w2
 have hcases:(zhL m n.hd∧1≤n.op∧n.op≤13)∨n.op=16:=by
  rcases hfn with h|h
  ·exact .inl ⟨h,h.op⟩
  ·exact .inr h
 clear hfn
 have hX:zG n.op=true→Fn Tryd.prog T zaq [.ptr 0 0,.d (.int .i64 n.x)] [zbP m f 1 2,.map (zbp es),zb8] (.d (.u64 (zA (zt f n.x.toNat) m))) [some (zbP m f 1 2),some (.map (zbp (xM f m n es))),some zb8]:=fun hu=>by
  have:=hne.2.1 hu
  have c:=ih n.x.toNat (by omega) m es hk0 hfit hes
  rw [show ((n.x.toNat:Nat):Int)=n.x by omega] at c
  rw [xM,hu,cond_true];exact c
 have hXok:zkj f m (xM f m n es):=by
  rw [xM]
  cases zG n.op with
  | true=>exact zsP _ _ es hes
  | false=>exact hes
 have hY:zH n.op=true→n.op≠16→Fn Tryd.prog T zaq [.ptr 0 0,.d (.int .i64 n.y)] [zbP m f 1 2,.map (zbp (xM f m n es)),zb8] (.d (.u64 (zA (zt f n.y.toNat) m))) [some (zbP m f 1 2),some (.map (zbp (yM f m n es))),some zb8]:=fun hu h16=>by
  have:=hne.2.2.2.1 hu
  have c:=ih n.y.toNat (by omega) m (xM f m n es) hk0 hfit hXok
  rw [show ((n.y.toNat:Nat):Int)=n.y by omega] at c
  rw [yM,hu,decide_eq_false h16,Bool.not_false,Bool.and_true,cond_true];exact c
 have hnoY:zH n.op=false→yM f m n es=xM f m n es:=fun h=>by rw [yM,h,Bool.false_and,cond_false]
 have hnoX:zG n.op=false→xM f m n es=es:=fun h=>by rw [xM,h,cond_false]
 have hxin:zG n.op=true → ∀ v,(zA (zt f n.x.toNat) m).getLsbD v=true→v < m.W.toNat:=fun hu=>by
  have hxl:=hne.2.1 hu
  have hall : ∀ (k j:Nat),j < k→j < f.length→(zt f j).all (zhK m):=fun k=>by
   induction k with
   | zero=>intro j h;omega
   | succ k ihk =>
    intro j hj hjl
    have hjn:f.getD j default∈f:=by rw [List.getD,List.getElem?_eq_getElem hjl];exact List.getElem_mem _
    rw [zdx hf hjl]
    cases hy:zH (f.getD j default).op with
    | true =>
     have e1:=zax hf hjl (zal hy)
     have e2:=zb7 hf hjl hy
     exact ⟨hfit _ hjn,ihk _ (by omega) (by omega),ihk _ (by omega) (by omega)⟩
    | false =>
     cases hx:zG (f.getD j default).op with
     | true =>
      have e1:=zax hf hjl hx
      exact ⟨hfit _ hjn,ihk _ (by omega) (by omega)⟩
     | false=>exact hfit _ hjn
  exact zjv _ hk0 (zfz hf (n.x.toNat+1) _ (by omega) (by omega)) (hall (n.x.toNat+1) _ (by omega) (by omega))
 have hat16 : ∀ a:BitVec 64,n.op=16→a≠0#64→Fn Tryd.prog T zaq [.ptr 0 0,.d (.int .i64 n.y)] [zbP (zaE m (za a)) f 1 2,.map [],zb8] (.d (.u64 (zA (zt f n.y.toNat) (zaE m (za a))))) [some (zbP (zaE m (za a)) f 1 2),some (.map (zbp (zaY f (zaE m (za a)) (n.y.toNat+1) n.y.toNat []))),some zb8]:=fun a e ha=>by
  obtain ⟨l1,l2⟩:=zj1 ha
  have:=hne.2.2.2.1 (by rw [e];decide)
  have c:=ih n.y.toNat (by omega) (zaE m (za a)) [] (zhr (znW (zw hk0) l1 l2)) (fun n hn=>(hfit n hn).imp (fun h=>h.same (zei m _).1 (zei m _).2) id) (fun p hp=>by cases hp)
  rw [show ((n.y.toNat:Nat):Int)=n.y by omega] at c
  exact c
 clear ih hne
 generalize hyM:yM f m n es=e2 at *
 generalize hxM:xM f m n es=e1 at *
 generalize hxs:zA (zt f n.x.toNat) m=xs at *
 obtain ⟨op,ii,ee,g,nx,ny⟩:=n
 dsimp only [Nd.hd] at *
 refine zB zk zgb (by show 2≤152;decide) _ (fun e env mem n h=>h) ?_
 have hG:11≤op∧op≤13→zhL m ⟨op,ii,ee,g⟩ → ∃ G:Nat,g=(G:Int)∧1≤G∧(G:Int) < 2 ^ m.rel.length ∧ ¬(2:Int) ^ m.rel.length≤g:=fun h hF=>by
  have h3:=hF.group h
  dsimp only at h3
  have hp:((2 ^ m.rel.length:Nat):Int)=(2:Int) ^ m.rel.length:=by simp
  exact ⟨g.toNat,by omega,by omega,by omega,by omega⟩
 rcases hcases with ⟨hfn,o1,o2⟩|rfl
 ·have:op=1∨op=2∨op=3∨op=4∨op=5∨op=6∨op=7∨op=8∨op=9∨op=10∨op=11∨op=12∨op=13:=by omega
  rcases this with rfl|rfl|rfl|rfl|rfl|rfl|rfl|rfl|rfl|rfl|rfl|rfl|rfl
  ·have hv:zA (zt f i) m=z2 m.W:=by
    rw [htm]
    rfl
   rw [hnoY (by decide),hnoX (by decide),hv]
   (repeat' ((conv=>whnf);first|refine vA ?_|refine vG ?_|refine vT ?_));all_goals try conv=>whnf
   refine ⟨trivial,_,[(0,0),(1,1),(2,2)],[],rfl,.inl (by (repeat' exact rfl)),⟨by rfl,by rfl,by rfl,trivial,by (repeat' first|exact trivial|exact rfl|refine And.intro ?_ ?_|refine ⟨_,rfl,?_⟩|exact of_decide_eq_true rfl)⟩,by (repeat' first|exact trivial|exact rfl|refine And.intro ?_ ?_|refine ⟨_,rfl,?_⟩)⟩
  ·have hv:zA (zt f i) m=0#64:=by
    rw [htm]
    rfl
   rw [hnoY (by decide),hnoX (by decide),hv]
   (repeat' ((conv=>whnf);first|refine vA ?_|refine vG ?_|refine vH ?_|refine vT ?_));all_goals try conv=>whnf
   refine ⟨trivial,_,[(0,0),(1,1),(2,2)],[],rfl,.inl (by (repeat' exact rfl)),⟨by rfl,by rfl,by rfl,trivial,by (repeat' first|exact trivial|exact rfl|refine And.intro ?_ ?_|refine ⟨_,rfl,?_⟩|exact of_decide_eq_true rfl)⟩,by (repeat' first|exact trivial|exact rfl|refine And.intro ?_ ?_|refine ⟨_,rfl,?_⟩)⟩
  ·have hi3:=hfn.fact rfl
   (repeat' ((conv=>whnf);first|refine vA ?_|refine vG ?_|refine vH ?_|refine vT ?_|(refine vS ?_ fun x hx=>?_;·omega)|(refine vU ?_ ?_;·kernel_rfl)|fail));all_goals try conv=>whnf
   ·have hv:zA (zt f i) m=x:=by
     rw [htm]
     show (zad m ⟨3,ii,ee,g⟩ 0#64 0#64).1=x
     rw [show zad m ⟨3,ii,ee,g⟩ 0#64 0#64=(m.val.getD ii.toNat 0#64,true) from if_neg (show ¬(m.val.length:Int)≤ii by have:=hi3.2;dsimp only at this;omega),List.getD,hx];rfl
    rw [hnoY (by decide),hnoX (by decide),hv]
    refine ⟨trivial,_,[(0,0),(1,1),(2,2)],[],rfl,.inl (by (repeat' exact rfl)),⟨by rfl,by rfl,by rfl,trivial,by (repeat' first|exact trivial|exact rfl|refine And.intro ?_ ?_|refine ⟨_,rfl,?_⟩|exact of_decide_eq_true rfl)⟩,by (repeat' first|exact trivial|exact rfl|refine And.intro ?_ ?_|refine ⟨_,rfl,?_⟩)⟩
   all_goals skip
  ·have hv:zA (zt f i) m=z2 m.W &&& ~~~xs:=by
    rw [htm]
    rw [← hxs];rfl
   rw [hnoY (by decide),hv]
   have cx:=hX (by decide)
   (repeat' ((conv=>whnf);first|refine vA ?_|refine vG ?_|refine vH ?_|refine vT ?_));all_goals try conv=>whnf
   refine zo.objs [0,1,2] (cx) (by (repeat' first|exact rfl|refine And.intro ?_ ?_|refine ⟨_,rfl,?_⟩)) (by (repeat' first|exact rfl|refine And.intro ?_ ?_|refine ⟨_,rfl,?_⟩)) (by rfl) (by rfl) (by simp) ?_
   (repeat' ((conv=>whnf);refine vT ?_))
   refine vUE [(3,7)] (by kernel_rfl) (by repeat' ((conv=>whnf);first|refine And.intro ?_ ?_|exact True.intro|exact rfl|exact ⟨_,rfl,rfl⟩)) ?_
   (repeat' ((conv=>whnf);refine vT ?_));all_goals try conv=>whnf
   refine ⟨trivial,_,[(0,0),(1,1),(2,2)],[],rfl,.inl (by (repeat' exact rfl)),⟨by rfl,by rfl,by rfl,trivial,by (repeat' first|exact trivial|exact rfl|refine And.intro ?_ ?_|refine ⟨_,rfl,?_⟩|exact of_decide_eq_true rfl)⟩,by (repeat' first|exact trivial|exact rfl|refine And.intro ?_ ?_|refine ⟨_,rfl,?_⟩)⟩
  ·have hv:zA (zt f i) m=(zad m ⟨5,ii,ee,g⟩ xs (zA (zt f ny.toNat) m)).1:=by
    rw [htm]
    rw [← hxs];rfl
   rw [hv]
   have cx:=hX (by decide)
   have cy:=hY (by decide) (by decide)
   generalize zA (zt f ny.toNat) m=ys at *
   have cb:=zho (T:=T) m f (zbp e2) 5 ii ee g xs ys (by decide)
   (repeat' ((conv=>whnf);first|refine vA ?_|refine vG ?_|refine vH ?_|refine vT ?_));all_goals try conv=>whnf
   refine zo.objs [0,1,2] (cx) (by (repeat' first|exact rfl|refine And.intro ?_ ?_|refine ⟨_,rfl,?_⟩)) (by (repeat' first|exact rfl|refine And.intro ?_ ?_|refine ⟨_,rfl,?_⟩)) (by rfl) (by rfl) (by simp) ?_
   (repeat' ((conv=>whnf);refine vT ?_));all_goals try conv=>whnf
   refine zo.objs [0,1,2] (cy) (by (repeat' first|exact rfl|refine And.intro ?_ ?_|refine ⟨_,rfl,?_⟩)) (by (repeat' first|exact rfl|refine And.intro ?_ ?_|refine ⟨_,rfl,?_⟩)) (by rfl) (by rfl) (by simp) ?_
   (repeat' ((conv=>whnf);refine vT ?_));all_goals try conv=>whnf
   refine zo.objs [0,1,2] (cb) (by (repeat' first|exact rfl|refine And.intro ?_ ?_|refine ⟨_,rfl,?_⟩)) (by (repeat' first|exact rfl|refine And.intro ?_ ?_|refine ⟨_,rfl,?_⟩)) (by rfl) (by rfl) (by simp) ?_
   (repeat' ((conv=>whnf);first|refine vT ?_|(refine vU ?_ ?_;·kernel_rfl)|fail));all_goals try conv=>whnf
   refine ⟨trivial,_,[(0,0),(1,1),(2,2)],[],rfl,.inl (by (repeat' exact rfl)),⟨by rfl,by rfl,by rfl,trivial,by (repeat' first|exact trivial|exact rfl|refine And.intro ?_ ?_|refine ⟨_,rfl,?_⟩|exact of_decide_eq_true rfl)⟩,by (repeat' first|exact trivial|exact rfl|refine And.intro ?_ ?_|refine ⟨_,rfl,?_⟩)⟩
  ·have hv:zA (zt f i) m=(zad m ⟨6,ii,ee,g⟩ xs (zA (zt f ny.toNat) m)).1:=by
    rw [htm]
    rw [← hxs];rfl
   rw [hv]
   have cx:=hX (by decide)
   have cy:=hY (by decide) (by decide)
   generalize zA (zt f ny.toNat) m=ys at *
   have cb:=zho (T:=T) m f (zbp e2) 6 ii ee g xs ys (by decide)
   (repeat' ((conv=>whnf);first|refine vA ?_|refine vG ?_|refine vH ?_|refine vT ?_));all_goals try conv=>whnf
   refine zo.objs [0,1,2] (cx) (by (repeat' first|exact rfl|refine And.intro ?_ ?_|refine ⟨_,rfl,?_⟩)) (by (repeat' first|exact rfl|refine And.intro ?_ ?_|refine ⟨_,rfl,?_⟩)) (by rfl) (by rfl) (by simp) ?_
   (repeat' ((conv=>whnf);refine vT ?_));all_goals try conv=>whnf
   refine zo.objs [0,1,2] (cy) (by (repeat' first|exact rfl|refine And.intro ?_ ?_|refine ⟨_,rfl,?_⟩)) (by (repeat' first|exact rfl|refine And.intro ?_ ?_|refine ⟨_,rfl,?_⟩)) (by rfl) (by rfl) (by simp) ?_
   (repeat' ((conv=>whnf);refine vT ?_));all_goals try conv=>whnf
   refine zo.objs [0,1,2] (cb) (by (repeat' first|exact rfl|refine And.intro ?_ ?_|refine ⟨_,rfl,?_⟩)) (by (repeat' first|exact rfl|refine And.intro ?_ ?_|refine ⟨_,rfl,?_⟩)) (by rfl) (by rfl) (by simp) ?_
   (repeat' ((conv=>whnf);first|refine vT ?_|(refine vU ?_ ?_;·kernel_rfl)|fail));all_goals try conv=>whnf
   refine ⟨trivial,_,[(0,0),(1,1),(2,2)],[],rfl,.inl (by (repeat' exact rfl)),⟨by rfl,by rfl,by rfl,trivial,by (repeat' first|exact trivial|exact rfl|refine And.intro ?_ ?_|refine ⟨_,rfl,?_⟩|exact of_decide_eq_true rfl)⟩,by (repeat' first|exact trivial|exact rfl|refine And.intro ?_ ?_|refine ⟨_,rfl,?_⟩)⟩
  ·have hv:zA (zt f i) m=(zad m ⟨7,ii,ee,g⟩ xs (zA (zt f ny.toNat) m)).1:=by
    rw [htm]
    rw [← hxs];rfl
   rw [hv]
   have cx:=hX (by decide)
   have cy:=hY (by decide) (by decide)
   generalize zA (zt f ny.toNat) m=ys at *
   have cb:=zho (T:=T) m f (zbp e2) 7 ii ee g xs ys (by decide)
   (repeat' ((conv=>whnf);first|refine vA ?_|refine vG ?_|refine vH ?_|refine vT ?_));all_goals try conv=>whnf
   refine zo.objs [0,1,2] (cx) (by (repeat' first|exact rfl|refine And.intro ?_ ?_|refine ⟨_,rfl,?_⟩)) (by (repeat' first|exact rfl|refine And.intro ?_ ?_|refine ⟨_,rfl,?_⟩)) (by rfl) (by rfl) (by simp) ?_
   (repeat' ((conv=>whnf);refine vT ?_));all_goals try conv=>whnf
   refine zo.objs [0,1,2] (cy) (by (repeat' first|exact rfl|refine And.intro ?_ ?_|refine ⟨_,rfl,?_⟩)) (by (repeat' first|exact rfl|refine And.intro ?_ ?_|refine ⟨_,rfl,?_⟩)) (by rfl) (by rfl) (by simp) ?_
   (repeat' ((conv=>whnf);refine vT ?_));all_goals try conv=>whnf
   refine zo.objs [0,1,2] (cb) (by (repeat' first|exact rfl|refine And.intro ?_ ?_|refine ⟨_,rfl,?_⟩)) (by (repeat' first|exact rfl|refine And.intro ?_ ?_|refine ⟨_,rfl,?_⟩)) (by rfl) (by rfl) (by simp) ?_
   (repeat' ((conv=>whnf);first|refine vT ?_|(refine vU ?_ ?_;·kernel_rfl)|fail));all_goals try conv=>whnf
   refine ⟨trivial,_,[(0,0),(1,1),(2,2)],[],rfl,.inl (by (repeat' exact rfl)),⟨by rfl,by rfl,by rfl,trivial,by (repeat' first|exact trivial|exact rfl|refine And.intro ?_ ?_|refine ⟨_,rfl,?_⟩|exact of_decide_eq_true rfl)⟩,by (repeat' first|exact trivial|exact rfl|refine And.intro ?_ ?_|refine ⟨_,rfl,?_⟩)⟩
  ·have hv:zA (zt f i) m=(zad m ⟨8,ii,ee,g⟩ xs (zA (zt f ny.toNat) m)).1:=by
    rw [htm]
    rw [← hxs];rfl
   rw [hv]
   have cx:=hX (by decide)
   have cy:=hY (by decide) (by decide)
   generalize zA (zt f ny.toNat) m=ys at *
   have cb:=zho (T:=T) m f (zbp e2) 8 ii ee g xs ys (by decide)
   (repeat' ((conv=>whnf);first|refine vA ?_|refine vG ?_|refine vH ?_|refine vT ?_));all_goals try conv=>whnf
   refine zo.objs [0,1,2] (cx) (by (repeat' first|exact rfl|refine And.intro ?_ ?_|refine ⟨_,rfl,?_⟩)) (by (repeat' first|exact rfl|refine And.intro ?_ ?_|refine ⟨_,rfl,?_⟩)) (by rfl) (by rfl) (by simp) ?_
   (repeat' ((conv=>whnf);refine vT ?_));all_goals try conv=>whnf
   refine zo.objs [0,1,2] (cy) (by (repeat' first|exact rfl|refine And.intro ?_ ?_|refine ⟨_,rfl,?_⟩)) (by (repeat' first|exact rfl|refine And.intro ?_ ?_|refine ⟨_,rfl,?_⟩)) (by rfl) (by rfl) (by simp) ?_
   (repeat' ((conv=>whnf);refine vT ?_));all_goals try conv=>whnf
   refine zo.objs [0,1,2] (cb) (by (repeat' first|exact rfl|refine And.intro ?_ ?_|refine ⟨_,rfl,?_⟩)) (by (repeat' first|exact rfl|refine And.intro ?_ ?_|refine ⟨_,rfl,?_⟩)) (by rfl) (by rfl) (by simp) ?_
   (repeat' ((conv=>whnf);first|refine vT ?_|(refine vU ?_ ?_;·kernel_rfl)|fail));all_goals try conv=>whnf
   refine ⟨trivial,_,[(0,0),(1,1),(2,2)],[],rfl,.inl (by (repeat' exact rfl)),⟨by rfl,by rfl,by rfl,trivial,by (repeat' first|exact trivial|exact rfl|refine And.intro ?_ ?_|refine ⟨_,rfl,?_⟩|exact of_decide_eq_true rfl)⟩,by (repeat' first|exact trivial|exact rfl|refine And.intro ?_ ?_|refine ⟨_,rfl,?_⟩)⟩
  ·have hi3:=hfn.agent (.inl rfl)
   dsimp only at hi3
   obtain ⟨r1,r2⟩:=zmX gm hi3
   have hv:zA (zt f i) m=zcC (zb4 m ii) xs:=by
    rw [htm,← hxs]
    show (zad m ⟨9,ii,ee,g⟩ (zA (zt f nx.toNat) m) 0#64).1=_
    rw [show zad m ⟨9,ii,ee,g⟩ (zA (zt f nx.toNat) m) 0#64=(zcC (zb4 m ii) (zA (zt f nx.toNat) m),true) from if_neg (show ¬(m.rel.length:Int)≤ii by omega)]
   rw [hnoY (by decide),hv]
   have cx:=hX (by decide)
   (repeat' ((conv=>whnf);first|refine vA ?_|refine vG ?_|refine vH ?_|refine vT ?_|(refine vS ?_ fun x hx=>?_;·omega)|fail));all_goals try conv=>whnf
   have er:zb4 m ii=x:=by rw [zb4,List.getD,hx];rfl
   rw [er] at r1 ⊢
   refine zo.objs [0,1,2] (cx) (by (repeat' first|exact rfl|refine And.intro ?_ ?_|refine ⟨_,rfl,?_⟩)) (by (repeat' first|exact rfl|refine And.intro ?_ ?_|refine ⟨_,rfl,?_⟩)) (by rfl) (by rfl) (by simp) ?_
   (repeat' ((conv=>whnf);refine vT ?_));all_goals try conv=>whnf
   refine zo.objs [] (zcS (r:=x) xs r1) (by (repeat' first|exact rfl|refine And.intro ?_ ?_)) (by (repeat' exact rfl)) (by rfl) (by rfl) (by simp) ?_
   (repeat' ((conv=>whnf);refine vT ?_))
   refine vUE [(4,12)] (by kernel_rfl) (by repeat' ((conv=>whnf);first|refine And.intro ?_ ?_|exact True.intro|exact rfl|exact ⟨_,rfl,rfl⟩)) ?_
   (repeat' ((conv=>whnf);refine vT ?_));all_goals try conv=>whnf
   refine ⟨trivial,_,[(0,0),(1,1),(2,2)],[],rfl,.inl (by (repeat' exact rfl)),⟨by rfl,by rfl,by rfl,trivial,by (repeat' first|exact trivial|exact rfl|refine And.intro ?_ ?_|refine ⟨_,rfl,?_⟩|exact of_decide_eq_true rfl)⟩,by (repeat' first|exact trivial|exact rfl|refine And.intro ?_ ?_|refine ⟨_,rfl,?_⟩)⟩
   all_goals skip
  ·have hi3:=hfn.agent (.inr rfl)
   dsimp only at hi3
   obtain ⟨r1,r2⟩:=zmX gm hi3
   have hv:zA (zt f i) m=zkw (zb4 m ii) xs:=by
    rw [htm,← hxs]
    show (zad m ⟨10,ii,ee,g⟩ (zA (zt f nx.toNat) m) 0#64).1=_
    rw [show zad m ⟨10,ii,ee,g⟩ (zA (zt f nx.toNat) m) 0#64=(zkw (zb4 m ii) (zA (zt f nx.toNat) m),true) from if_neg (show ¬(m.rel.length:Int)≤ii by omega)]
   rw [hnoY (by decide),hv]
   have cx:=hX (by decide)
   (repeat' ((conv=>whnf);first|refine vA ?_|refine vG ?_|refine vH ?_|refine vT ?_|(refine vS ?_ fun x hx=>?_;·omega)|fail));all_goals try conv=>whnf
   have er:zb4 m ii=x:=by rw [zb4,List.getD,hx];rfl
   rw [er] at r1 ⊢
   refine zo.objs [0,1,2] (cx) (by (repeat' first|exact rfl|refine And.intro ?_ ?_|refine ⟨_,rfl,?_⟩)) (by (repeat' first|exact rfl|refine And.intro ?_ ?_|refine ⟨_,rfl,?_⟩)) (by rfl) (by rfl) (by simp) ?_
   (repeat' ((conv=>whnf);refine vT ?_));all_goals try conv=>whnf
   refine zo.objs [] (zla (r:=x) xs r1) (by (repeat' first|exact rfl|refine And.intro ?_ ?_)) (by (repeat' exact rfl)) (by rfl) (by rfl) (by simp) ?_
   (repeat' ((conv=>whnf);refine vT ?_))
   refine vUE [(4,12)] (by kernel_rfl) (by repeat' ((conv=>whnf);first|refine And.intro ?_ ?_|exact True.intro|exact rfl|exact ⟨_,rfl,rfl⟩)) ?_
   (repeat' ((conv=>whnf);refine vT ?_));all_goals try conv=>whnf
   refine ⟨trivial,_,[(0,0),(1,1),(2,2)],[],rfl,.inl (by (repeat' exact rfl)),⟨by rfl,by rfl,by rfl,trivial,by (repeat' first|exact trivial|exact rfl|refine And.intro ?_ ?_|refine ⟨_,rfl,?_⟩|exact of_decide_eq_true rfl)⟩,by (repeat' first|exact trivial|exact rfl|refine And.intro ?_ ?_|refine ⟨_,rfl,?_⟩)⟩
   all_goals skip
  ·obtain ⟨G,rfl,g1,g2,g3⟩:=hG (by decide) hfn
   have hgn:G < 2 ^ m.rel.length:=by
    have:((2 ^ m.rel.length:Nat):Int)=(2:Int) ^ m.rel.length:=by simp
    omega
   have hv:zA (zt f i) m=zcC (zbj m (G:Int)) xs:=by
    rw [htm,← hxs]
    show (zad m ⟨11,ii,ee,(G:Int)⟩ (zA (zt f nx.toNat) m) 0#64).1=_
    rw [show zad m ⟨11,ii,ee,(G:Int)⟩ (zA (zt f nx.toNat) m) 0#64=(zcC (zbj m (G:Int)) (zA (zt f nx.toNat) m),true) from if_neg g3]
   rw [hnoY (by decide),hv]
   have cx:=hX (by decide)
   have c1:=zl1 (T:=T) hk0 g1 g2
   have r1:=(zfv hk0 zpW g1 hgn).1
   change Fn _ _ _ _ _ (.d (dU (zbj m (G:Int)))) _ at c1
   change zai (zbj m (G:Int))=0 at r1
   generalize zbj m (G:Int)=r at *
   (repeat' ((conv=>whnf);first|refine vA ?_|refine vG ?_|refine vH ?_|refine vT ?_));all_goals try conv=>whnf
   refine zo.dataN (c1) (by (repeat refine ⟨⟨rfl,rfl⟩,?_⟩);rfl) ?_
   (repeat' ((conv=>whnf);refine vT ?_));all_goals try conv=>whnf
   refine zo.objs [0,1,2] (cx) (by (repeat' first|exact rfl|refine And.intro ?_ ?_|refine ⟨_,rfl,?_⟩)) (by (repeat' first|exact rfl|refine And.intro ?_ ?_|refine ⟨_,rfl,?_⟩)) (by rfl) (by rfl) (by simp) ?_
   (repeat' ((conv=>whnf);refine vT ?_));all_goals try conv=>whnf
   refine zo.objs [] (zcS (r:=r) xs r1) (by (repeat' first|exact rfl|refine And.intro ?_ ?_)) (by (repeat' exact rfl)) (by rfl) (by rfl) (by simp) ?_
   (repeat' ((conv=>whnf);refine vT ?_))
   refine vUE [(3,10)] (by kernel_rfl) (by repeat' ((conv=>whnf);first|refine And.intro ?_ ?_|exact True.intro|exact rfl|exact ⟨_,rfl,rfl⟩)) ?_
   (repeat' ((conv=>whnf);refine vT ?_));all_goals try conv=>whnf
   refine ⟨trivial,_,[(0,0),(1,1),(2,2)],[],rfl,.inl (by (repeat' exact rfl)),⟨by rfl,by rfl,by rfl,trivial,by (repeat' first|exact trivial|exact rfl|refine And.intro ?_ ?_|refine ⟨_,rfl,?_⟩|exact of_decide_eq_true rfl)⟩,by (repeat' first|exact trivial|exact rfl|refine And.intro ?_ ?_|refine ⟨_,rfl,?_⟩)⟩
  ·obtain ⟨G,rfl,g1,g2,g3⟩:=hG (by decide) hfn
   have hgn:G < 2 ^ m.rel.length:=by
    have:((2 ^ m.rel.length:Nat):Int)=(2:Int) ^ m.rel.length:=by simp
    omega
   have hv:zA (zt f i) m=zcC (zfj m (G:Int)) xs:=by
    rw [htm,← hxs]
    show (zad m ⟨12,ii,ee,(G:Int)⟩ (zA (zt f nx.toNat) m) 0#64).1=_
    rw [show zad m ⟨12,ii,ee,(G:Int)⟩ (zA (zt f nx.toNat) m) 0#64=(zcC (zfj m (G:Int)) (zA (zt f nx.toNat) m),true) from if_neg g3]
   rw [hnoY (by decide),hv]
   have cx:=hX (by decide)
   have c1:=ztg (T:=T) hk0 g1 g2
   have r1:=(zfv hk0 zsw g1 hgn).1
   change Fn _ _ _ _ _ (.d (dU (zfj m (G:Int)))) _ at c1
   change zai (zfj m (G:Int))=0 at r1
   generalize zfj m (G:Int)=r at *
   (repeat' ((conv=>whnf);first|refine vA ?_|refine vG ?_|refine vH ?_|refine vT ?_));all_goals try conv=>whnf
   refine zo.dataN (c1) (by (repeat refine ⟨⟨rfl,rfl⟩,?_⟩);rfl) ?_
   (repeat' ((conv=>whnf);refine vT ?_));all_goals try conv=>whnf
   refine zo.objs [0,1,2] (cx) (by (repeat' first|exact rfl|refine And.intro ?_ ?_|refine ⟨_,rfl,?_⟩)) (by (repeat' first|exact rfl|refine And.intro ?_ ?_|refine ⟨_,rfl,?_⟩)) (by rfl) (by rfl) (by simp) ?_
   (repeat' ((conv=>whnf);refine vT ?_));all_goals try conv=>whnf
   refine zo.objs [] (zcS (r:=r) xs r1) (by (repeat' first|exact rfl|refine And.intro ?_ ?_)) (by (repeat' exact rfl)) (by rfl) (by rfl) (by simp) ?_
   (repeat' ((conv=>whnf);refine vT ?_))
   refine vUE [(3,10)] (by kernel_rfl) (by repeat' ((conv=>whnf);first|refine And.intro ?_ ?_|exact True.intro|exact rfl|exact ⟨_,rfl,rfl⟩)) ?_
   (repeat' ((conv=>whnf);refine vT ?_));all_goals try conv=>whnf
   refine ⟨trivial,_,[(0,0),(1,1),(2,2)],[],rfl,.inl (by (repeat' exact rfl)),⟨by rfl,by rfl,by rfl,trivial,by (repeat' first|exact trivial|exact rfl|refine And.intro ?_ ?_|refine ⟨_,rfl,?_⟩|exact of_decide_eq_true rfl)⟩,by (repeat' first|exact trivial|exact rfl|refine And.intro ?_ ?_|refine ⟨_,rfl,?_⟩)⟩
  ·obtain ⟨G,rfl,g1,g2,g3⟩:=hG (by decide) hfn
   have hv:zA (zt f i) m=zi6 (zbj m (G:Int)) xs (zA (zt f ny.toNat) m):=by
    rw [htm,← hxs]
    show (zad m ⟨13,ii,ee,(G:Int)⟩ (zA (zt f nx.toNat) m) (zA (zt f ny.toNat) m)).1=_
    rw [show zad m ⟨13,ii,ee,(G:Int)⟩ (zA (zt f nx.toNat) m) (zA (zt f ny.toNat) m)=(zi6 (zbj m (G:Int)) (zA (zt f nx.toNat) m) (zA (zt f ny.toNat) m),true) from if_neg g3]
   rw [hv]
   have cx:=hX (by decide)
   have cy:=hY (by decide) (by decide)
   generalize zA (zt f ny.toNat) m=ys at *
   have cb:=ztd (T:=T) hk0 f (zbp e2) G g1 g2 xs ys
   (repeat' ((conv=>whnf);first|refine vA ?_|refine vG ?_|refine vH ?_|refine vT ?_));all_goals try conv=>whnf
   refine zo.objs [0,1,2] (cx) (by (repeat' first|exact rfl|refine And.intro ?_ ?_|refine ⟨_,rfl,?_⟩)) (by (repeat' first|exact rfl|refine And.intro ?_ ?_|refine ⟨_,rfl,?_⟩)) (by rfl) (by rfl) (by simp) ?_
   (repeat' ((conv=>whnf);refine vT ?_));all_goals try conv=>whnf
   refine zo.objs [0,1,2] (cy) (by (repeat' first|exact rfl|refine And.intro ?_ ?_|refine ⟨_,rfl,?_⟩)) (by (repeat' first|exact rfl|refine And.intro ?_ ?_|refine ⟨_,rfl,?_⟩)) (by rfl) (by rfl) (by simp) ?_
   (repeat' ((conv=>whnf);refine vT ?_));all_goals try conv=>whnf
   refine zo.objs [0,1,2] (cb) (by (repeat' first|exact rfl|refine And.intro ?_ ?_|refine ⟨_,rfl,?_⟩)) (by (repeat' first|exact rfl|refine And.intro ?_ ?_|refine ⟨_,rfl,?_⟩)) (by rfl) (by rfl) (by simp) ?_
   (repeat' ((conv=>whnf);first|refine vT ?_|(refine vU ?_ ?_;·kernel_rfl)|fail));all_goals try conv=>whnf
   refine ⟨trivial,_,[(0,0),(1,1),(2,2)],[],rfl,.inl (by (repeat' exact rfl)),⟨by rfl,by rfl,by rfl,trivial,by (repeat' first|exact trivial|exact rfl|refine And.intro ?_ ?_|refine ⟨_,rfl,?_⟩|exact of_decide_eq_true rfl)⟩,by (repeat' first|exact trivial|exact rfl|refine And.intro ?_ ?_|refine ⟨_,rfl,?_⟩)⟩
 ·have h0:zG 16=true:=by decide
  have hv:zA (zt f i) m=zkq m xs (zA (zt f ny.toNat) (zaE m (za xs))):=by
   rw [htm,← hxs];rfl
  have he:e2=e1:=by rw [← hyM,← hxM,yM];rfl
  rw [hv,he]
  have cx:=hX h0
  have ca:=zw0 (T:=T) hT hk0 f (zbp e1) (zbp (zaY f (zaE m (za xs)) (ny.toNat+1) ny.toNat [])) (hxin h0) ny (hat16 xs rfl)
  (repeat' ((conv=>whnf);first|refine vA ?_|refine vG ?_|refine vH ?_|refine vT ?_));all_goals try conv=>whnf
  refine zo.objs [0,1,2] (cx) (by (repeat' first|exact rfl|refine And.intro ?_ ?_|refine ⟨_,rfl,?_⟩)) (by (repeat' first|exact rfl|refine And.intro ?_ ?_|refine ⟨_,rfl,?_⟩)) (by rfl) (by rfl) (by simp) ?_
  (repeat' ((conv=>whnf);refine vT ?_));all_goals try conv=>whnf
  refine zo.objs [0,1,2] (ca) (by (repeat' first|exact rfl|refine And.intro ?_ ?_|refine ⟨_,rfl,?_⟩)) (by (repeat' first|exact rfl|refine And.intro ?_ ?_|refine ⟨_,rfl,?_⟩)) (by rfl) (by rfl) (by simp) ?_
  (repeat' ((conv=>whnf);first|refine vT ?_|(refine vU ?_ ?_;·kernel_rfl)|fail));all_goals try conv=>whnf
  refine ⟨trivial,_,[(0,0),(1,1),(2,2)],[],rfl,.inl (by (repeat' exact rfl)),⟨by rfl,by rfl,by rfl,trivial,by (repeat' first|exact trivial|exact rfl|refine And.intro ?_ ?_|refine ⟨_,rfl,?_⟩|exact of_decide_eq_true rfl)⟩,by (repeat' first|exact trivial|exact rfl|refine And.intro ?_ ?_|refine ⟨_,rfl,?_⟩)⟩
end Go.Ab
namespace Go.Ab
open Go Go.Proofs
set_option maxRecDepth 10000
set_option maxHeartbeats 4000000
variable {T:Nat→Obj→Prop}
theorem zsO {f:List Nd} (hf:zaf f) {m:KM} : ∀ (i k:Nat) (es:List (Nat×BitVec 64)),i < f.length→i < k→zaY f m k i es=zaY f m (i+1) i es:=by
 intro i
 induction i using Nat.strongRecOn with
 | _ i ih =>
  intro k es hi hk
  obtain ⟨k,rfl⟩ : ∃ j,k=j+1:=⟨k - 1,by omega⟩
  have ex : ∀ es,cond (zG (f.getD i default).op) (zaY f m k (f.getD i default).x.toNat es) es=cond (zG (f.getD i default).op) (zaY f m i (f.getD i default).x.toNat es) es:=fun es=>by
   cases hu:zG (f.getD i default).op with
   | true =>
    have:=zax hf hi hu
    rw [cond_true,cond_true,ih _ (by omega) k es (by omega) (by omega),ih _ (by omega) i es (by omega) (by omega)]
   | false=>rfl
  have ey : ∀ es,cond (zH (f.getD i default).op && !decide ((f.getD i default).op=16)) (zaY f m k (f.getD i default).y.toNat es) es=cond (zH (f.getD i default).op && !decide ((f.getD i default).op=16)) (zaY f m i (f.getD i default).y.toNat es) es:=fun es=>by
   cases hu:zH (f.getD i default).op with
   | true =>
    have:=zb7 hf hi hu
    rw [ih _ (by omega) k es (by omega) (by omega),ih _ (by omega) i es (by omega) (by omega)]
   | false=>rfl
  rw [zaY,zaY]
  cases es.lookup i with
  | some s=>rfl
  | none =>
   dsimp only
   rw [ex,ey]
theorem zA9 {f:List Nd} (hf:zaf f) {m:KM} {i:Nat} {n:Nd} (hn:f[i]? = some n) {es:List (Nat×BitVec 64)} (hl:es.lookup i=none):zaY f m (i+1) i es=yM f m n es++[(i,zA (zt f i) m)]:=by
 have hi:i < f.length:=(List.getElem?_eq_some_iff.1 hn).1
 have hgn:f.getD i default=n:=by simp [List.getD,hn]
 have ex : ∀ es,cond (zG n.op) (zaY f m i n.x.toNat es) es=cond (zG n.op) (zaY f m (n.x.toNat+1) n.x.toNat es) es:=fun es=>by
  cases hu:zG n.op with
  | true =>
   have:=zax hf hi (by rw [hgn];exact hu)
   rw [hgn] at this
   rw [cond_true,cond_true,zsO hf _ i es (by omega) (by omega)]
  | false=>rfl
 have ey : ∀ es,cond (zH n.op && !decide (n.op=16)) (zaY f m i n.y.toNat es) es=cond (zH n.op && !decide (n.op=16)) (zaY f m (n.y.toNat+1) n.y.toNat es) es:=fun es=>by
  cases hu:zH n.op with
  | true =>
   have:=zb7 hf hi (by rw [hgn];exact hu)
   rw [hgn] at this
   rw [zsO hf _ i es (by omega) (by omega)]
  | false=>rfl
 rw [zaY,hl]
 dsimp only
 rw [hgn,ex,ey]
 rfl
theorem zAM {f:List Nd} (hf:zaf f) {m:KM} {i:Nat} {n:Nd} (hn:f[i]? = some n) {es:List (Nat×BitVec 64)} (hl:es.lookup i=none):(yM f m n es).lookup i=none:=by
 have hi:i < f.length:=(List.getElem?_eq_some_iff.1 hn).1
 have hgn:f.getD i default=n:=by simp [List.getD,hn]
 have h1:(xM f m n es).lookup i=none:=by
  rw [xM]
  cases hu:zG n.op with
  | true =>
   have:=zax hf hi (by rw [hgn];exact hu)
   rw [hgn] at this
   exact zkx hf _ _ es i (by omega) (by omega) hl
  | false=>exact hl
 rw [yM]
 cases hu:zH n.op with
 | true =>
  have:=zb7 hf hi (by rw [hgn];exact hu)
  rw [hgn] at this
  cases decide (n.op=16) with
  | true=>exact h1
  | false=>exact zkx hf _ _ _ i (by omega) (by omega) h1
 | false=>exact h1
theorem zA0 (hT:zcl T) {f:List Nd} (hf:zaf f) : ∀ i,i < f.length→zAQ T f i:=by
 intro i
 induction i using Nat.strongRecOn with
 | _ i ih =>
  intro hi m es hk0 hfit hes
  have hn:f[i]? = some f[i]:=List.getElem?_eq_getElem hi
  have cv:=zw2 hT hf hn (fun j hj=>ih j hj (by omega)) hk0 hfit hes
  have hfd:=zrh es i
  cases hl:es.lookup i with
  | some s =>
   rw [hl] at hfd
   have hs:=hes.look hl
   have hm:zaY f m (i+1) i es=es:=by rw [zaY,hl]
   rw [hm,← hs]
   clear cv ih
   generalize zbp es=de at *
   refine zB zk zdU (by show 2≤43;decide) _ (fun e env mem n h=>h) ?_
   (repeat' ((conv=>whnf);first|refine vA ?_|refine vE ?_|refine vG ?_|refine vT ?_|refine zT.mk _ ‹_› ?_));all_goals try conv=>whnf
   refine ⟨trivial,_,[(0,0),(1,1),(2,2)],[],rfl,.inl (by (repeat' exact rfl)),⟨by rfl,by rfl,by rfl,trivial,by (repeat' first|exact trivial|exact rfl|refine And.intro ?_ ?_|refine ⟨_,rfl,?_⟩|exact of_decide_eq_true rfl)⟩,by (repeat' first|exact trivial|exact rfl|refine And.intro ?_ ?_|refine ⟨_,rfl,?_⟩)⟩
  | none =>
   rw [hl] at hfd
   have hfd2:=zrh (yM f m f[i] es) i
   rw [zAM hf hn hl] at hfd2
   rw [zA9 hf hn hl]
   have ed:zbp (yM f m f[i] es++[(i,zA (zt f i) m)])=zbp (yM f m f[i] es)++[(D.int .i64 (i:Int),D.u64 (zA (zt f i) m))]:=by simp
   rw [ed]
   have hx:(f.map dNd)[i]? = some (dNd f[i]):=by simp [hi]
   clear ih
   generalize zbp es=de at *
   generalize zbp (yM f m f[i] es)=dy at *
   generalize f[i]=n at *
   refine zB zk zdU (by show 2≤43;decide) _ (fun e env mem n h=>h) ?_
   (repeat' ((conv=>whnf);first|refine vA ?_|refine vG ?_|refine vT ?_|refine vN ‹_› ?_|refine zT.mk _ ‹_› ?_));all_goals try conv=>whnf
   refine zo.objs [0,1,2] (cv) (by (repeat' first|exact rfl|refine And.intro ?_ ?_|refine ⟨_,rfl,?_⟩)) (by (repeat' first|exact rfl|refine And.intro ?_ ?_|refine ⟨_,rfl,?_⟩)) (by rfl) (by rfl) (by simp) ?_
   (repeat' ((conv=>whnf);first|refine vT ?_|refine zT.mk _ ‹_› ?_));all_goals try conv=>whnf
   refine ⟨trivial,_,[(0,0),(1,1),(2,2)],[],rfl,.inl (by (repeat' exact rfl)),⟨by rfl,by rfl,by rfl,trivial,by (repeat' first|exact trivial|exact rfl|refine And.intro ?_ ?_|refine ⟨_,rfl,?_⟩|exact of_decide_eq_true rfl)⟩,by (repeat' first|exact trivial|exact rfl|refine And.intro ?_ ?_|refine ⟨_,rfl,?_⟩)⟩
end Go.Ab
namespace Go.Ab
def zay (k:Nat) (n:Nd):Nd := { n with x:=if zG n.op=true then n.x+k else n.x,y:=if zH n.op=true then n.y+k else n.y }
def zag (f c:List Nd):List Nd:=f++c.map (zay f.length)
theorem zv4 {n:Nd} {j:Int} {k:Nat} (hj:0≤j) (h:zbW n j=0):zbW (zay k n) (k+j)=0:=by
 obtain ⟨h1,h2,h3,h4,h5⟩:=zaG.1 h
 refine zaG.2 ⟨h1,fun e=>?_,fun e=>?_,fun e=>?_,fun e=>?_⟩
 ·have e:zG n.op=true:=e
  have:=h2 e
  simp only [zay,e,if_true];omega
 ·have e:zG n.op=false:=e
  have:=h3 e
  simp only [zay,e];simpa using this
 ·have e:zH n.op=true:=e
  have:=h4 e
  simp only [zay,e,if_true];omega
 ·have e:zH n.op=false:=e
  have:=h5 e
  simp only [zay,e];simpa using this
theorem zgI {f c:List Nd} (hf:zaf f) (hc:zaf c):zaf (zag f c):=by
 intro k n hk
 unfold zag at hk
 rw [List.getElem?_append] at hk
 split at hk
 ·exact hf k n hk
 ·rename_i h
  rw [List.getElem?_map,Option.map_eq_some_iff] at hk
  obtain ⟨m,hm,rfl⟩:=hk
  have:=zv4 (k:=f.length) (by omega) (hc _ m hm)
  rwa [show ((f.length:Nat):Int)+((k - f.length:Nat):Int)=k by omega] at this
theorem zfq {f c:List Nd} (hf:zaf f) (hc:zaf c) : ∀ (m j:Nat),j < m→j < c.length→zt (zag f c) (f.length+j)=zt c j
 | 0,j,h,_=>by omega
 | m+1,j,h,hj=>by
  have ho:=zgI hf hc
  have hl:f.length+j < (zag f c).length:=by simp [zag];omega
  have hg:(zag f c).getD (f.length+j) default=zay f.length (c.getD j default):=by
   simp [zag,List.getD,hj]
  rw [zdx ho hl,zdx hc hj,hg]
  have eo:(zay f.length (c.getD j default)).op=(c.getD j default).op:=rfl
  have eh:(zay f.length (c.getD j default)).hd=(c.getD j default).hd:=rfl
  rw [eo,eh]
  cases hy:zH (c.getD j default).op with
  | true =>
   have hx:=zal hy
   have e1:=zax hc hj hx
   have e2:=zb7 hc hj hy
   have x1:(zay f.length (c.getD j default)).x.toNat=f.length+(c.getD j default).x.toNat:=by simp only [zay,hx,if_true];omega
   have y1:(zay f.length (c.getD j default)).y.toNat=f.length+(c.getD j default).y.toNat:=by simp only [zay,hy,if_true];omega
   simp only [cond_true]
   rw [x1,y1,zfq hf hc m _ (by omega) (by omega),zfq hf hc m _ (by omega) (by omega)]
  | false =>
   cases hx:zG (c.getD j default).op with
   | true =>
    have e1:=zax hc hj hx
    have x1:(zay f.length (c.getD j default)).x.toNat=f.length+(c.getD j default).x.toNat:=by simp only [zay,hx,if_true];omega
    simp only [cond_true,cond_false]
    rw [x1,zfq hf hc m _ (by omega) (by omega)]
   | false=>rfl
theorem zyf {f c:List Nd} (hf:zaf f) {j:Nat} (hj:j < f.length):zt (zag f c) j=zt f j:=zaT hf hj
def zeF:Nat→List Nd→Nd→List (List Nd)→Option (Nd×List Nd)
 | _,f,x,[]=>some (x,f)
 | k,f,x,o::r=>if zbq o≠0 then none else
  zeF (k+1) (zag f (cL o)) (if k=0 then { x with x:=((zag f (cL o)).length:Int) - 1 } else { x with y:=((zag f (cL o)).length:Int) - 1 }) r
def zci (x:Nd) (f:List Nd):List Nd:=if zbW x f.length≠0 then [] else if 200 < (zbo (f++[x]) f.length).length then [] else zbo (f++[x]) f.length
def zbB (x:Nd) (os:List (List Nd)):List Nd:=match zeF 0 [] x os with
 | none=>[]
 | some (x,f)=>zci x f
structure IsF (f:List Nd) (t:Tm):Prop where
 ok:zbq f=0
 tree:zt f (f.length - 1)=t
theorem zCw {f:List Nd} (h:zbq f=0):IsF f (zt f (f.length - 1)):=⟨h,rfl⟩
theorem IsF.canon {f:List Nd} {t:Tm} (h:IsF f t):zr8 t (cL f)∧(cL f).length≤f.length:=by
 have:=zhS h.ok
 rwa [h.tree] at this
theorem IsF.tok {f:List Nd} {t:Tm} (h:IsF f t):t.ok:=by
 obtain ⟨h1,h2,h3⟩:=zds.1 h.ok
 rw [← h.tree]
 exact zfz h3 f.length _ (by omega) (by omega)
theorem zkE {x:Nd} {f:List Nd} (hf:zaf f) (hx:zbW x f.length=0) (hl:f.length≤199):IsF (zci x f) (zt (f++[x]) f.length)∧(zci x f).length≤f.length+1:=by
 have hok:zaf (f++[x]):=by
  intro k n hk
  rw [List.getElem?_append] at hk
  split at hk
  ·exact hf k n hk
  ·rename_i h1
   have:k=f.length:=by have:=(List.getElem?_eq_some_iff.1 hk).1;simp at this;omega
   subst this
   simp at hk;subst hk;exact hx
 have hlt:f.length < (f++[x]).length:=by simp
 have h1:=zjr hok hlt
 have h2:=(zi7 hok hlt).2.1
 simp only [List.length_append,List.length_cons,List.length_nil] at h2
 have e:zci x f=zbo (f++[x]) f.length:=by
  unfold zci
  rw [if_neg (by omega),if_neg (by omega)]
 rw [e]
 exact ⟨⟨zds.2 ⟨h1.pos,by omega,h1.ok⟩,h1.tree⟩,h2⟩
theorem zqU {x:Nd} {f:List Nd} (hf:zaf f) (hx:zbW x f.length=0):zt (f++[x]) f.length=cond (zH x.op) (.b x.hd (zt f x.x.toNat) (zt f x.y.toNat)) (cond (zG x.op) (.u x.hd (zt f x.x.toNat)) (.z x.hd)):=by
 have hok:zaf (f++[x]):=by
  intro k n hk
  rw [List.getElem?_append] at hk
  split at hk
  ·exact hf k n hk
  ·rename_i h1
   have:k=f.length:=by have:=(List.getElem?_eq_some_iff.1 hk).1;simp at this;omega
   subst this
   simp at hk;subst hk;exact hx
 have hg:(f++[x]).getD f.length default=x:=by simp [List.getD]
 obtain ⟨-,h2,-,h4,-⟩:=zaG.1 hx
 rw [zdx hok (by simp),hg]
 cases hy:zH x.op with
 | true =>
  have hxx:=zal hy
  have e1:=h2 hxx
  have e2:=h4 hy
  simp only [cond_true]
  rw [zaT hf (by omega),zaT hf (by omega)]
 | false =>
  cases hxx:zG x.op with
  | true =>
   have e1:=h2 hxx
   simp only [cond_true,cond_false]
   rw [zaT hf (by omega)]
  | false=>rfl
theorem zBU {h:Hd} (hh:zi3 h) (hx:zG h.op=false) (hy:zH h.op=false):IsF (zbB ⟨h.op,h.i,h.e,h.g,0,0⟩ []) (.z h)∧(zbB ⟨h.op,h.i,h.e,h.g,0,0⟩ []).length≤1:=by
 have hn:zbW ⟨h.op,h.i,h.e,h.g,0,0⟩ ([]:List Nd).length=0:=zaG.2 ⟨hh,fun e=>by simp [hx] at e,fun _=>rfl,fun e=>by simp [hy] at e,fun _=>rfl⟩
 have h1:=zkE zcr hn (by simp)
 rw [zqU zcr hn] at h1
 simp only [hx,hy,cond_false] at h1
 exact h1
theorem zCa {h:Hd} (hh:zi3 h) (hx:zG h.op=true) (hy:zH h.op=false) {o:List Nd} {t:Tm} (ho:IsF o t) (hl:o.length≤199):IsF (zbB ⟨h.op,h.i,h.e,h.g,0,0⟩ [o]) (.u h t)∧(zbB ⟨h.op,h.i,h.e,h.g,0,0⟩ [o]).length≤o.length+1:=by
 obtain ⟨c1,c2⟩:=ho.canon
 have hp:=c1.pos
 have e0:(zag [] (cL o)).length=(cL o).length:=by simp [zag]
 have hok:=zgI zcr c1.ok
 have ht:zt (zag [] (cL o)) ((cL o).length - 1)=t:=by
  have:=zfq (f:=[]) zcr c1.ok (cL o).length ((cL o).length - 1) (by omega) (by omega)
  rw [List.length_nil,Nat.zero_add] at this
  rw [this];exact c1.tree
 have hn:zbW ⟨h.op,h.i,h.e,h.g,((zag [] (cL o)).length:Int) - 1,0⟩ (zag [] (cL o)).length=0:=zaG.2 ⟨hh,fun _=>by simp only;omega,fun e=>by simp [hx] at e,fun e=>by simp [hy] at e,fun _=>rfl⟩
 have e:zbB ⟨h.op,h.i,h.e,h.g,0,0⟩ [o]=zci ⟨h.op,h.i,h.e,h.g,((zag [] (cL o)).length:Int) - 1,0⟩ (zag [] (cL o)):=by
  simp [zbB,zeF,ho.ok]
 have h1:=zkE hok hn (by omega)
 rw [zqU hok hn] at h1
 simp only [hx,hy,cond_false,cond_true] at h1
 rw [show (((zag [] (cL o)).length:Int) - 1).toNat=(cL o).length - 1 by omega,ht] at h1
 rw [e]
 exact ⟨h1.1,by have:=h1.2;omega⟩
theorem zCb {h:Hd} (hh:zi3 h) (hy:zH h.op=true) {o q:List Nd} {t u:Tm} (ho:IsF o t) (hq:IsF q u) (hl:o.length+q.length≤199):IsF (zbB ⟨h.op,h.i,h.e,h.g,0,0⟩ [o,q]) (.b h t u)∧(zbB ⟨h.op,h.i,h.e,h.g,0,0⟩ [o,q]).length≤o.length+q.length+1:=by
 have hx:=zal hy
 obtain ⟨c1,c2⟩:=ho.canon
 obtain ⟨d1,d2⟩:=hq.canon
 have hp:=c1.pos
 have hp2:=d1.pos
 have e0:(zag [] (cL o)).length=(cL o).length:=by simp [zag]
 have hok:=zgI zcr c1.ok
 have hok2:=zgI hok d1.ok
 have e2:(zag (zag [] (cL o)) (cL q)).length=(cL o).length+(cL q).length:=by rw [zag,List.length_append,List.length_map,e0]
 have ht:zt (zag (zag [] (cL o)) (cL q)) ((cL o).length - 1)=t:=by
  rw [zyf hok (by omega)]
  have:=zfq (f:=[]) zcr c1.ok (cL o).length ((cL o).length - 1) (by omega) (by omega)
  rw [List.length_nil,Nat.zero_add] at this
  rw [this];exact c1.tree
 have hu:zt (zag (zag [] (cL o)) (cL q)) ((cL o).length+(cL q).length - 1)=u:=by
  have:=zfq hok d1.ok (cL q).length ((cL q).length - 1) (by omega) (by omega)
  rw [e0,show (cL o).length+((cL q).length - 1)=(cL o).length+(cL q).length - 1 by omega] at this
  rw [this];exact d1.tree
 have hn:zbW ⟨h.op,h.i,h.e,h.g,((zag [] (cL o)).length:Int) - 1,((zag (zag [] (cL o)) (cL q)).length:Int) - 1⟩ (zag (zag [] (cL o)) (cL q)).length=0 :=
  zaG.2 ⟨hh,fun _=>by simp only;omega,fun e=>by simp [hx] at e,fun _=>by simp only;omega,fun e=>by simp [hy] at e⟩
 have e:zbB ⟨h.op,h.i,h.e,h.g,0,0⟩ [o,q]=zci ⟨h.op,h.i,h.e,h.g,((zag [] (cL o)).length:Int) - 1,((zag (zag [] (cL o)) (cL q)).length:Int) - 1⟩ (zag (zag [] (cL o)) (cL q)):=by
  simp [zbB,zeF,ho.ok,hq.ok]
 have h1:=zkE hok2 hn (by omega)
 rw [zqU hok2 hn] at h1
 simp only [hy,cond_true] at h1
 rw [show (((zag [] (cL o)).length:Int) - 1).toNat=(cL o).length - 1 by omega,show (((zag (zag [] (cL o)) (cL q)).length:Int) - 1).toNat=(cL o).length+(cL q).length - 1 by omega,ht,hu] at h1
 rw [e]
 exact ⟨h1.1,by have:=h1.2;omega⟩
end Go.Ab
namespace Go.Ab
open Go Go.Proofs
set_option maxRecDepth 10000
set_option maxHeartbeats 4000000
variable {T:Nat→Obj→Prop}
abbrev cNd (x:Nd):List V:=[.d (.int .i64 x.op),.d (.int .i64 x.i),.d (.int .i64 x.e),.d (.int .i64 x.g),.d (.int .i64 x.x),.d (.int .i64 x.y)]
theorem zwq {α:Type} {l:List α} {j:Nat} {n:α} (h:l[j]? = some n):l.take (j+1)=l.take j++[n]:=by rw [List.take_add_one,h];rfl
theorem zAA {f c:List Nd} {j:Nat} {n:Nd} (h:c[j]? = some n):(f++(c.take (j+1)).map (zay f.length)).map dNd=(f++(c.take j).map (zay f.length)).map dNd++[dNd (zay f.length n)]:=by
 rw [zwq h];simp
set_option maxHeartbeats 40000000 in
theorem zof (x0:Nd) (os:List (List Nd)) (hos:os.length≤2):Fn Tryd.prog T ziF [.d (dNd x0),.d (.arr 1 (os.map dF))] [] (.d (dF (zbB x0 os))) []:=by
 refine zb zk zpI (by show 2≤85;decide) ?_
 (repeat' ((conv=>whnf);first|refine vA ?_|refine vB fun b hb=>?_|refine vC (fun hl=>?_) fun i kv vv hi=>?_|refine vE ?_|refine vG ?_|refine vH ?_|((first|refine vD ?_ ?_|refine vF ?_ ?_|refine vI ?_ ?_)<;>intro hc<;>try simp only [vL] at hc)|refine vJ fun hg=>?_|refine vK fun hg=>?_|refine vT ?_|refine vN ‹_› ?_|(refine vQ ?_ fun x hx=>?_;·first|omega|(simp only [vM] at *;omega))|((first|refine vO ?_ ?_|refine vR ?_ ‹_› ?_|refine vS ?_ fun x hx=>?_|refine vP ?_ ?_);·first|omega|(simp only [vM] at *;omega))|refine vW ⟨by omega,by omega⟩ ?_|(refine vU ?_ ?_;·kernel_rfl)|refine vX ?_|refine vY ?_|refine vZ ?_|refine zT.mk _ ‹_› ?_|refine vP (show (_:BitVec 64)≠_ by decide) ?_));all_goals try conv=>whnf
 refine zy (fun ((k,x',f):Nat×Nd×List Nd)=>[(2,.ptr 0 0),(5,.own 1),(14,.d (.arr 1 (os.map dF))),(15,.d (.int .i64 ((os.map dF).length:Int))),(16,.d (.int .i64 ((k:Int))))]) (fun ((k,x',f):Nat×Nd×List Nd)=>[(0,some (.box (cNd x'))),(1,some (.row 6 (f.map dNd)))]) 2 (fun ((k,x',f):Nat×Nd×List Nd)=>k≤os.length∧zeF k f x' (os.drop k)=zeF 0 [] x0 os∧zaf f∧f.length≤200 * k) (fun ((k,x',f):Nat×Nd×List Nd)=>os.length - k) ((0,x0,[])) [(0,0)]   [1] (⟨by simp,rfl,zcr,by simp⟩) (by (refine ⟨rfl,rfl,rfl,?_,?_⟩;repeat' first|exact trivial|exact rfl|exact ⟨_,rfl⟩|exact .inl rfl|exact .inr (.inl ⟨rfl,rfl⟩)|exact .inr (.inr ⟨rfl,rfl⟩)|refine And.intro ?_ ?_|refine ⟨_,rfl,?_⟩|decide|exact of_decide_eq_true rfl)) ?_
 rintro ⟨k,x',f⟩ ⟨hk,hI,hf,hfl⟩
 (repeat' ((conv=>whnf);first|refine vA ?_|refine vB fun b hb=>?_|refine vC (fun hl=>?_) fun i kv vv hi=>?_|refine vE ?_|refine vG ?_|refine vH ?_|((first|refine vD ?_ ?_|refine vF ?_ ?_|refine vI ?_ ?_)<;>intro hc<;>try simp only [vL] at hc)|refine vJ fun hg=>?_|refine vK fun hg=>?_|refine vT ?_|refine vN ‹_› ?_|(refine vQ ?_ fun x hx=>?_;·first|omega|(simp only [vM] at *;omega))|((first|refine vO ?_ ?_|refine vR ?_ ‹_› ?_|refine vS ?_ fun x hx=>?_|refine vP ?_ ?_);·first|omega|(simp only [vM] at *;omega))|refine vW ⟨by omega,by omega⟩ ?_|(refine vU ?_ ?_;·kernel_rfl)|refine vX ?_|refine vY ?_|refine vZ ?_|refine yD (zgR _) ⟨⟨rfl,rfl⟩,rfl⟩ rfl ?_|refine yN (zgD _) ⟨⟨rfl,rfl⟩,rfl⟩ ?_|refine zT.mk _ ‹_› ?_|refine vP (show (_:BitVec 64)≠_ by decide) ?_));all_goals try conv=>whnf
 ·have hne:=‹zbq _≠0›
  rw [zab hx,zeF,if_pos hne] at hI
  have e:zbB x0 os=[]:=by rw [zbB,← hI]
  rw [e];rfl
 ·have h0:=‹zbq _=0›
  revert hx h0
  generalize x=o
  intro hx h0
  have hkl:k < os.length:=(List.getElem?_eq_some_iff.1 hx).1
  rw [zab hx,zeF,if_neg (not_not_intro h0)] at hI
  have hco:=zuT o
  have hcl:=zsG o
  have hfn:f.length≤200:=by omega
  refine zy (fun ((j,ys):Nat×List D)=>[(2,.ptr 0 0),(5,.own 1),(6,.d (.int .i64 ((k:Int)))),(8,.d (.int .i64 ((((f.map dNd).length:Nat):Int)))),(14,.d (.arr 1 (os.map dF))),(15,.d (.int .i64 ((os.map dF).length:Int))),(16,.d (.int .i64 ((k:Int)))),(27,.d (dF (cL o))),(28,.d (.int .i64 (((cL o).map dNd).length:Int))),(29,.d (.int .i64 ((j:Int))))]) (fun ((j,ys):Nat×List D)=>[(0,some (.box (cNd x'))),(1,some (.row 6 ys))]) 2 (fun ((j,ys):Nat×List D)=>j≤(cL o).length∧ys=(f++((cL o).take j).map (zay f.length)).map dNd) (fun ((j,ys):Nat×List D)=>(cL o).length - j) ((0,f.map dNd)) [(0,0),(1,1)] [] (⟨by simp,by simp⟩) (by (refine ⟨rfl,rfl,rfl,?_,?_⟩;repeat' first|exact trivial|exact rfl|exact ⟨_,rfl⟩|exact .inl rfl|exact .inr (.inl ⟨rfl,rfl⟩)|exact .inr (.inr ⟨rfl,rfl⟩)|refine And.intro ?_ ?_|refine ⟨_,rfl,?_⟩|decide|exact of_decide_eq_true rfl)) ?_
  rintro ⟨j,_⟩ ⟨hj,rfl⟩
  by_cases hjl:j < (cL o).length
  ·obtain ⟨n,hn⟩ : ∃ n,(cL o)[j]? = some n:=⟨(cL o)[j],by simp [hjl]⟩
   have hst:=zAA (f:=f) hn
   have hl:(f++((cL o).take j).map (zay f.length)).length=f.length+j:=by simp;omega
   obtain ⟨-,nx,-,ny,-⟩:=zaG.1 (hco j n hn)
   cases hux:zG n.op with
   | false =>
    have huy:zH n.op=false:=by
     cases hy:zH n.op with
     | true=>rw [zal hy] at hux;cases hux
     | false=>rfl
    have hu:=zeL (T:=T) hux huy
    have es:zay f.length n=n:=by simp [zay,hux,huy]
    rw [es] at hst
    (repeat' ((conv=>whnf);first|refine vA ?_|refine vB fun b hb=>?_|refine vC (fun hl=>?_) fun i kv vv hi=>?_|refine vE ?_|refine vG ?_|refine vH ?_|((first|refine vD ?_ ?_|refine vF ?_ ?_|refine vI ?_ ?_)<;>intro hc<;>try simp only [vL] at hc)|refine vJ fun hg=>?_|refine vK fun hg=>?_|refine vT ?_|refine vN ‹_› ?_|(refine vQ ?_ fun x hx=>?_;·first|omega|(simp only [vM] at *;omega))|((first|refine vO ?_ ?_|refine vR ?_ ‹_› ?_|refine vS ?_ fun x hx=>?_|refine vP ?_ ?_);·first|omega|(simp only [vM] at *;omega))|refine vW ⟨by omega,by omega⟩ ?_|(refine vU ?_ ?_;·kernel_rfl)|refine vX ?_|refine vY ?_|refine vZ ?_|refine yD hu (by (repeat refine ⟨⟨rfl,rfl⟩,?_⟩);rfl) rfl ?_|refine yN hu (by (repeat refine ⟨⟨rfl,rfl⟩,?_⟩);rfl) ?_|refine zT.mk _ ‹_› ?_|refine vP (show (_:BitVec 64)≠_ by decide) ?_));all_goals try conv=>whnf
    ·refine ⟨(j+1,_),[(0,0),(1,5)],[],?_,?_,by (refine ⟨rfl,rfl,rfl,?_,?_⟩;repeat' first|exact trivial|exact rfl|exact ⟨_,rfl⟩|exact .inl rfl|exact .inr (.inl ⟨rfl,rfl⟩)|exact .inr (.inr ⟨rfl,rfl⟩)|refine And.intro ?_ ?_|refine ⟨_,rfl,?_⟩|decide|exact of_decide_eq_true rfl)⟩
     ·exact ⟨hjl,hst.symm⟩
     ·(first|omega|(simp only [vM] at *;omega))
    all_goals omega
   | true =>
    have nx:=nx hux
    cases huy:zH n.op with
    | false =>
     have hu:=zeL (T:=T) hux huy
     have es:zay f.length n=⟨n.op,n.i,n.e,n.g,n.x+(((f.map dNd).length:Nat):Int),n.y⟩:=by simp [zay,hux,huy]
     rw [es] at hst
     (repeat' ((conv=>whnf);first|refine vA ?_|refine vB fun b hb=>?_|refine vC (fun hl=>?_) fun i kv vv hi=>?_|refine vE ?_|refine vG ?_|refine vH ?_|((first|refine vD ?_ ?_|refine vF ?_ ?_|refine vI ?_ ?_)<;>intro hc<;>try simp only [vL] at hc)|refine vJ fun hg=>?_|refine vK fun hg=>?_|refine vT ?_|refine vN ‹_› ?_|(refine vQ ?_ fun x hx=>?_;·first|omega|(simp only [vM] at *;omega))|((first|refine vO ?_ ?_|refine vR ?_ ‹_› ?_|refine vS ?_ fun x hx=>?_|refine vP ?_ ?_);·first|omega|(simp only [vM] at *;omega))|refine vW ⟨by omega,by omega⟩ ?_|(refine vU ?_ ?_;·kernel_rfl)|refine vX ?_|refine vY ?_|refine vZ ?_|refine yD hu (by (repeat refine ⟨⟨rfl,rfl⟩,?_⟩);rfl) rfl ?_|refine yN hu (by (repeat refine ⟨⟨rfl,rfl⟩,?_⟩);rfl) ?_|refine zT.mk _ ‹_› ?_|refine vP (show (_:BitVec 64)≠_ by decide) ?_));all_goals try conv=>whnf
     ·refine ⟨(j+1,_),[(0,0),(1,5)],[],?_,?_,by (refine ⟨rfl,rfl,rfl,?_,?_⟩;repeat' first|exact trivial|exact rfl|exact ⟨_,rfl⟩|exact .inl rfl|exact .inr (.inl ⟨rfl,rfl⟩)|exact .inr (.inr ⟨rfl,rfl⟩)|refine And.intro ?_ ?_|refine ⟨_,rfl,?_⟩|decide|exact of_decide_eq_true rfl)⟩
      ·exact ⟨hjl,hst.symm⟩
      ·(first|omega|(simp only [vM] at *;omega))
     all_goals omega
    | true =>
     have ny:=ny huy
     have hu:=zeL (T:=T) hux huy
     have es:zay f.length n=⟨n.op,n.i,n.e,n.g,n.x+(((f.map dNd).length:Nat):Int),n.y+(((f.map dNd).length:Nat):Int)⟩:=by simp [zay,hux,huy]
     rw [es] at hst
     (repeat' ((conv=>whnf);first|refine vA ?_|refine vB fun b hb=>?_|refine vC (fun hl=>?_) fun i kv vv hi=>?_|refine vE ?_|refine vG ?_|refine vH ?_|((first|refine vD ?_ ?_|refine vF ?_ ?_|refine vI ?_ ?_)<;>intro hc<;>try simp only [vL] at hc)|refine vJ fun hg=>?_|refine vK fun hg=>?_|refine vT ?_|refine vN ‹_› ?_|(refine vQ ?_ fun x hx=>?_;·first|omega|(simp only [vM] at *;omega))|((first|refine vO ?_ ?_|refine vR ?_ ‹_› ?_|refine vS ?_ fun x hx=>?_|refine vP ?_ ?_);·first|omega|(simp only [vM] at *;omega))|refine vW ⟨by omega,by omega⟩ ?_|(refine vU ?_ ?_;·kernel_rfl)|refine vX ?_|refine vY ?_|refine vZ ?_|refine yD hu (by (repeat refine ⟨⟨rfl,rfl⟩,?_⟩);rfl) rfl ?_|refine yN hu (by (repeat refine ⟨⟨rfl,rfl⟩,?_⟩);rfl) ?_|refine zT.mk _ ‹_› ?_|refine vP (show (_:BitVec 64)≠_ by decide) ?_));all_goals try conv=>whnf
     ·refine ⟨(j+1,_),[(0,0),(1,5)],[],?_,?_,by (refine ⟨rfl,rfl,rfl,?_,?_⟩;repeat' first|exact trivial|exact rfl|exact ⟨_,rfl⟩|exact .inl rfl|exact .inr (.inl ⟨rfl,rfl⟩)|exact .inr (.inr ⟨rfl,rfl⟩)|refine And.intro ?_ ?_|refine ⟨_,rfl,?_⟩|decide|exact of_decide_eq_true rfl)⟩
      ·exact ⟨hjl,hst.symm⟩
      ·(first|omega|(simp only [vM] at *;omega))
     all_goals omega
  ·have ej:j=(cL o).length:=by omega
   subst ej
   rw [List.take_length]
   have hl2:(zag f (cL o)).length=f.length+(cL o).length:=by simp [zag]
   have hok2:=zgI hf hco
   have elen:((((zag f (cL o)).map dNd).length:Nat):Int) - 1=((zag f (cL o)).length:Int) - 1:=by rw [List.length_map]
   rw [← elen] at hI
   (repeat' ((conv=>whnf);first|refine vA ?_|refine vB fun b hb=>?_|refine vC (fun hl=>?_) fun i kv vv hi=>?_|refine vE ?_|refine vG ?_|refine vH ?_|((first|refine vD ?_ ?_|refine vF ?_ ?_|refine vI ?_ ?_)<;>intro hc<;>try simp only [vL] at hc)|refine vJ fun hg=>?_|refine vK fun hg=>?_|refine vT ?_|refine vN ‹_› ?_|(refine vQ ?_ fun x hx=>?_;·first|omega|(simp only [vM] at *;omega))|((first|refine vO ?_ ?_|refine vR ?_ ‹_› ?_|refine vS ?_ fun x hx=>?_|refine vP ?_ ?_);·first|omega|(simp only [vM] at *;omega))|refine vW ⟨by omega,by omega⟩ ?_|(refine vU ?_ ?_;·kernel_rfl)|refine vX ?_|refine vY ?_|refine vZ ?_|refine zT.mk _ ‹_› ?_|refine vP (show (_:BitVec 64)≠_ by decide) ?_));all_goals try conv=>whnf
   ·omega
   ·have e0:k=0:=by omega
    rw [if_pos e0] at hI
    exact ⟨(k+1,{ x' with x:=(((zag f (cL o)).map dNd).length:Int) - 1 },zag f (cL o)),[(0,0),(1,1)],[],⟨hkl,hI,hok2,by omega⟩,by (first|omega|(simp only [vM] at *;omega)),by (refine ⟨rfl,rfl,rfl,?_,?_⟩;repeat' first|exact trivial|exact rfl|exact ⟨_,rfl⟩|exact .inl rfl|exact .inr (.inl ⟨rfl,rfl⟩)|exact .inr (.inr ⟨rfl,rfl⟩)|refine And.intro ?_ ?_|refine ⟨_,rfl,?_⟩|decide|exact of_decide_eq_true rfl)⟩
   ·have e0 : ¬k=0:=by omega
    rw [if_neg e0] at hI
    exact ⟨(k+1,{ x' with y:=(((zag f (cL o)).map dNd).length:Int) - 1 },zag f (cL o)),[(0,0),(1,1)],[],⟨hkl,hI,hok2,by omega⟩,by (first|omega|(simp only [vM] at *;omega)),by (refine ⟨rfl,rfl,rfl,?_,?_⟩;repeat' first|exact trivial|exact rfl|exact ⟨_,rfl⟩|exact .inl rfl|exact .inr (.inl ⟨rfl,rfl⟩)|exact .inr (.inr ⟨rfl,rfl⟩)|refine And.intro ?_ ?_|refine ⟨_,rfl,?_⟩|decide|exact of_decide_eq_true rfl)⟩
 ·have ek:k=os.length:=by omega
  subst ek
  rw [List.drop_eq_nil_of_le (Nat.le_refl _),zeF] at hI
  have eB:zbB x0 os=zci x' f:=by rw [zbB,← hI]
  rw [eB]
  have hE:=zl3 (T:=T) x' ((((f.map dNd).length:Nat):Int))
  (repeat' ((conv=>whnf);first|refine vA ?_|refine vB fun b hb=>?_|refine vC (fun hl=>?_) fun i kv vv hi=>?_|refine vE ?_|refine vG ?_|refine vH ?_|((first|refine vD ?_ ?_|refine vF ?_ ?_|refine vI ?_ ?_)<;>intro hc<;>try simp only [vL] at hc)|refine vJ fun hg=>?_|refine vK fun hg=>?_|refine vT ?_|refine vN ‹_› ?_|(refine vQ ?_ fun x hx=>?_;·first|omega|(simp only [vM] at *;omega))|((first|refine vO ?_ ?_|refine vR ?_ ‹_› ?_|refine vS ?_ fun x hx=>?_|refine vP ?_ ?_);·first|omega|(simp only [vM] at *;omega))|refine vW ⟨by omega,by omega⟩ ?_|(refine vU ?_ ?_;·kernel_rfl)|refine vX ?_|refine vY ?_|refine vZ ?_|refine yD hE ⟨⟨rfl,rfl⟩,⟨rfl,rfl⟩,rfl⟩ rfl ?_|refine zT.mk _ ‹_› ?_|refine vP (show (_:BitVec 64)≠_ by decide) ?_));all_goals try conv=>whnf
  ·have e2:zci x' f=[]:=if_pos ‹_›
   rw [e2];rfl
  ·have hn:=‹zbW x' _=0›
   have hok:zaf (f++[x']):=by
    intro k n hk
    rw [List.getElem?_append] at hk
    split at hk
    ·exact hf k n hk
    ·rename_i h1
     have:k=f.length:=by have:=(List.getElem?_eq_some_iff.1 hk).1;simp at this;omega
     subst this
     simp at hk;subst hk;exact hn
   have cB:=zpr (T:=T) hok (by simp;omega) (k:=f.length) (i:=(((f.map dNd).length:Nat):Int)) (by rw [List.length_map]) (by simp)
   rw [show dF (f++[x']) = .arr 6 (f.map dNd++[dNd x']) by simp] at cB
   refine zo.dataN (cB) (by (repeat refine ⟨⟨rfl,rfl⟩,?_⟩);rfl) ?_
   (repeat' ((conv=>whnf);first|refine vA ?_|refine vB fun b hb=>?_|refine vC (fun hl=>?_) fun i kv vv hi=>?_|refine vE ?_|refine vG ?_|refine vH ?_|((first|refine vD ?_ ?_|refine vF ?_ ?_|refine vI ?_ ?_)<;>intro hc<;>try simp only [vL] at hc)|refine vJ fun hg=>?_|refine vK fun hg=>?_|refine vT ?_|refine vN ‹_› ?_|(refine vQ ?_ fun x hx=>?_;·first|omega|(simp only [vM] at *;omega))|((first|refine vO ?_ ?_|refine vR ?_ ‹_› ?_|refine vS ?_ fun x hx=>?_|refine vP ?_ ?_);·first|omega|(simp only [vM] at *;omega))|refine vW ⟨by omega,by omega⟩ ?_|(refine vU ?_ ?_;·kernel_rfl)|refine vX ?_|refine vY ?_|refine vZ ?_|refine zT.mk _ ‹_› ?_|refine vP (show (_:BitVec 64)≠_ by decide) ?_));all_goals try conv=>whnf
   ·have e2:zci x' f=[]:=by rw [zci,if_neg (by omega),if_pos (by omega)]
    rw [e2];rfl
   ·have e2:zci x' f=zbo (f++[x']) f.length:=by rw [zci,if_neg (by omega),if_neg (by omega)]
    rw [e2];rfl
end Go.Ab
namespace Go.Ab
open Go Go.Proofs
set_option maxRecDepth 10000
set_option maxHeartbeats 4000000
variable {T:Nat→Obj→Prop}
theorem zCr (f:List Nd):Fn Tryd.prog T zk6 [.d (dF f)] [] (.d (dF (zbB ⟨4,0,0,0,0,0⟩ [f]))) []:=by
 refine zb zk zr0 (by show 1≤7;decide) ?_
 (repeat' ((conv=>whnf);first|refine vA ?_|refine vB fun b hb=>?_|refine vC (fun hl=>?_) fun i kv vv hi=>?_|refine vE ?_|refine vG ?_|refine vH ?_|((first|refine vD ?_ ?_|refine vF ?_ ?_|refine vI ?_ ?_)<;>intro hc<;>try simp only [vL] at hc)|refine vJ fun hg=>?_|refine vK fun hg=>?_|refine vT ?_|refine vN ‹_› ?_|(refine vQ ?_ fun x hx=>?_;·first|omega|(simp only [vM] at *;omega))|((first|refine vO ?_ ?_|refine vR ?_ ‹_› ?_|refine vS ?_ fun x hx=>?_|refine vP ?_ ?_);·first|omega|(simp only [vM] at *;omega))|refine vW ⟨by omega,by omega⟩ ?_|(refine vU ?_ ?_;·kernel_rfl)|refine vX ?_|refine vY ?_|refine vZ ?_|refine zT.mk _ ‹_› ?_|refine vP (show (_:BitVec 64)≠_ by decide) ?_));all_goals try conv=>whnf
 refine zo.dataN (zof ⟨4,0,0,0,0,0⟩ [f] (by simp)) (by (repeat refine ⟨⟨rfl,rfl⟩,?_⟩);rfl) ?_
 (repeat' ((conv=>whnf);first|refine vA ?_|refine vB fun b hb=>?_|refine vC (fun hl=>?_) fun i kv vv hi=>?_|refine vE ?_|refine vG ?_|refine vH ?_|((first|refine vD ?_ ?_|refine vF ?_ ?_|refine vI ?_ ?_)<;>intro hc<;>try simp only [vL] at hc)|refine vJ fun hg=>?_|refine vK fun hg=>?_|refine vT ?_|refine vN ‹_› ?_|(refine vQ ?_ fun x hx=>?_;·first|omega|(simp only [vM] at *;omega))|((first|refine vO ?_ ?_|refine vR ?_ ‹_› ?_|refine vS ?_ fun x hx=>?_|refine vP ?_ ?_);·first|omega|(simp only [vM] at *;omega))|refine vW ⟨by omega,by omega⟩ ?_|(refine vU ?_ ?_;·kernel_rfl)|refine vX ?_|refine vY ?_|refine vZ ?_|refine zT.mk _ ‹_› ?_|refine vP (show (_:BitVec 64)≠_ by decide) ?_));all_goals try conv=>whnf
 rfl
theorem zCi  : Fn Tryd.prog T zjC [] [] (.d (dF (zbB ⟨1,0,0,0,0,0⟩ []))) []:=by
 refine zb zk zqH (by show 0≤3;decide) ?_
 (repeat' ((conv=>whnf);first|refine vA ?_|refine vB fun b hb=>?_|refine vC (fun hl=>?_) fun i kv vv hi=>?_|refine vE ?_|refine vG ?_|refine vH ?_|((first|refine vD ?_ ?_|refine vF ?_ ?_|refine vI ?_ ?_)<;>intro hc<;>try simp only [vL] at hc)|refine vJ fun hg=>?_|refine vK fun hg=>?_|refine vT ?_|refine vN ‹_› ?_|(refine vQ ?_ fun x hx=>?_;·first|omega|(simp only [vM] at *;omega))|((first|refine vO ?_ ?_|refine vR ?_ ‹_› ?_|refine vS ?_ fun x hx=>?_|refine vP ?_ ?_);·first|omega|(simp only [vM] at *;omega))|refine vW ⟨by omega,by omega⟩ ?_|(refine vU ?_ ?_;·kernel_rfl)|refine vX ?_|refine vY ?_|refine vZ ?_|refine zT.mk _ ‹_› ?_|refine vP (show (_:BitVec 64)≠_ by decide) ?_));all_goals try conv=>whnf
 refine zo.dataN (zof ⟨1,0,0,0,0,0⟩ [] (by simp)) (by (repeat refine ⟨⟨rfl,rfl⟩,?_⟩);rfl) ?_
 (repeat' ((conv=>whnf);first|refine vA ?_|refine vB fun b hb=>?_|refine vC (fun hl=>?_) fun i kv vv hi=>?_|refine vE ?_|refine vG ?_|refine vH ?_|((first|refine vD ?_ ?_|refine vF ?_ ?_|refine vI ?_ ?_)<;>intro hc<;>try simp only [vL] at hc)|refine vJ fun hg=>?_|refine vK fun hg=>?_|refine vT ?_|refine vN ‹_› ?_|(refine vQ ?_ fun x hx=>?_;·first|omega|(simp only [vM] at *;omega))|((first|refine vO ?_ ?_|refine vR ?_ ‹_› ?_|refine vS ?_ fun x hx=>?_|refine vP ?_ ?_);·first|omega|(simp only [vM] at *;omega))|refine vW ⟨by omega,by omega⟩ ?_|(refine vU ?_ ?_;·kernel_rfl)|refine vX ?_|refine vY ?_|refine vZ ?_|refine zT.mk _ ‹_› ?_|refine vP (show (_:BitVec 64)≠_ by decide) ?_));all_goals try conv=>whnf
 rfl
end Go.Ab
namespace Go.Ab
open Go Go.Proofs
set_option maxRecDepth 10000
set_option maxHeartbeats 4000000
variable {T:Nat→Obj→Prop}
theorem zCq (f:List Nd) (g:List Nd):Fn Tryd.prog T zcP [.d (dF f),.d (dF g)] [] (.d (dF (zbB ⟨16,0,0,0,0,0⟩ [f,g]))) []:=by
 refine zb zk zmb (by show 2≤10;decide) ?_
 (repeat' ((conv=>whnf);refine vT ?_));all_goals try conv=>whnf
 refine zo.dataN (zof ⟨16,0,0,0,0,0⟩ [f,g] (by simp)) (by (repeat refine ⟨⟨rfl,rfl⟩,?_⟩);rfl) ?_
 (repeat' ((conv=>whnf);refine vT ?_));all_goals try conv=>whnf
 rfl
theorem zvS (m:KM):Fn Tryd.prog T ziB [.d (dKM m),.d (.arr 3 [])] [] (.d (.int .i64 (zi m))) []:=by
 have ck:=zbU (T:=T) m
 generalize zi m=e at *
 refine zb zk zpE (by show 2≤35;decide) ?_
 (repeat' ((conv=>whnf);first|refine vA ?_|refine vH ?_|(refine vD ?_ ?_<;>intro hc)|refine vK fun hg=>?_|refine vT ?_|refine vX ?_|refine yD ck ⟨⟨rfl,rfl⟩,rfl⟩ rfl ?_));all_goals try conv=>whnf
 refine zar (fun (u:Unit)=>[(18,.d (.int .i64 (0))),(19,.d (.int .i64 (0)))]) (fun (u:Unit)=>True) (fun (u:Unit)=>0) (()) (trivial) (by (repeat' first|exact trivial|exact rfl|refine And.intro ?_ ?_)) ?_
 rintro ⟨⟩ -
 (repeat' ((conv=>whnf);first|refine vA ?_|refine vH ?_|refine vT ?_|refine vX ?_));all_goals try conv=>whnf
 all_goals exact (Eq.symm ‹e=0›)
theorem zyG (n:Nd) (h:n.op≠17):Fn Tryd.prog T za3 [.d (dNd n),.d (.box [.arr 3 []])] [] (.d (.bool false)) []:=by
 refine zb zk zlo (by show 2≤26;decide) ?_
 (repeat' ((conv=>whnf);first|refine vA ?_|(refine vF ?_ ?_<;>intro hc<;>try simp only [vL] at hc)|refine vK fun hg=>?_|refine vT ?_|(refine vU ?_ ?_;·kernel_rfl)|refine vZ ?_));all_goals try conv=>whnf
 all_goals exact absurd (by assumption) h
theorem zvP (l:List Nd) (hl : ∀ n∈l,n.op≠17):Fn Tryd.prog T zbD [.d (dF l),.d (.fn za3 [.box [.arr 3 []]])] [] (.d (.int .i64 (-1))) []:=by
 refine zb zk zd3 (by show 2≤19;decide) ?_
 (repeat' ((conv=>whnf);first|refine vA ?_|refine vJ fun hg=>?_|refine vT ?_));all_goals try conv=>whnf
 refine zar (fun (k:Nat)=>[(0,.d (dF l)),(1,.d (.fn za3 [.box [.arr 3 []]])),(7,.d (.int .i64 ((l.map dNd).length:Int))),(8,.d (.int .i64 ((k:Int))))]) (fun (k:Nat)=>k≤l.length) (fun (k:Nat)=>l.length - k) (0) (by simp) (by (repeat' first|exact trivial|exact rfl|refine And.intro ?_ ?_)) ?_
 rintro k hk
 (repeat' ((conv=>whnf);first|refine vA ?_|(refine vF ?_ ?_<;>intro hc<;>try simp only [vL] at hc)|refine vT ?_|(refine vQ ?_ fun x hx=>?_;·omega)|refine vX ?_));all_goals try conv=>whnf
 ·have c1q:=zyG (T:=T) x (hl x (List.mem_of_getElem? hx))
  (repeat' ((conv=>whnf);first|refine vH ?_|refine vT ?_|(refine vO ?_ ?_;·omega)|refine yD c1q ⟨⟨rfl,rfl⟩,⟨rfl,rfl⟩,rfl⟩ rfl ?_));all_goals try conv=>whnf
  exact ⟨k+1,[],[],by (omega),by (omega),by (refine ⟨rfl,rfl,rfl,?_,?_⟩;repeat' first|exact trivial|exact rfl|refine And.intro ?_ ?_)⟩
 skip
theorem zwV (l:List Nd) (hl : ∀ n∈l,n.op≠17):Fn Tryd.prog T zbk [.d (dF l),.d (.fn za3 [.box [.arr 3 []]])] [] (.d (.bool false)) []:=by
 have c:=zvP (T:=T) l hl
 refine zb zk zdz (by show 2≤9;decide) ?_
 (repeat' ((conv=>whnf);first|refine vT ?_|refine vZ ?_|refine yD c ⟨⟨rfl,rfl⟩,⟨rfl,rfl⟩,rfl⟩ rfl ?_));all_goals try conv=>whnf
 rfl
def zkU (m:KM) (f:List Nd):Int:=if zi m≠0 then zi m else if zbq f≠0 then zbq f else if za6 .i64 (fun p q=>p &&& ~~~q) (uni zbJ (cL f):Int) 207≠0 then 10 else if zea f m.rel.length m.val.length=false then 2 else 0
theorem zu0 (m:KM) (f:List Nd) (h17 : ∀ n∈cL f,n.op≠17):Fn Tryd.prog T zha [.d (dKM m),.d (.arr 3 []),.d (dF f)] [] (.d (.int .i64 (zkU m f))) []:=by
 have q1:=zvS (T:=T) m
 have q2:=zgR (T:=T) f
 have q3:=zs7 (T:=T) f
 have q4:=zuZ (T:=T) f ((m.rel.map dU).length:Nat) ((m.val.map D.u64).length:Nat)
 have q5:=zgD (T:=T) f
 have q6:=zwV (T:=T) (cL f) h17
 unfold zkU
 rw [show zea f m.rel.length m.val.length=zea f ((m.rel.map dU).length:Nat) ((m.val.map D.u64).length:Nat) by simp]
 generalize zi m=k at *
 generalize zbq f=e at *
 generalize uni zbJ (cL f)=u at *
 generalize zea f ((m.rel.map dU).length:Nat) ((m.val.map D.u64).length:Nat)=b at *
 refine zb zk zni (by show 3≤37;decide) ?_
 (repeat' ((conv=>whnf);first|refine vA ?_|refine vE ?_|refine vH ?_|((first|refine vD ?_ ?_|refine vI ?_ ?_)<;>intro hc)|refine vJ fun hg=>?_|refine vT ?_|refine vX ?_|refine yD q1 ⟨⟨rfl,rfl⟩,⟨rfl,rfl⟩,rfl⟩ rfl ?_|refine yD q2 ⟨⟨rfl,rfl⟩,rfl⟩ rfl ?_|refine yD q3 ⟨⟨rfl,rfl⟩,rfl⟩ rfl ?_|refine yD q4 ⟨⟨rfl,rfl⟩,⟨rfl,rfl⟩,⟨rfl,rfl⟩,rfl⟩ rfl ?_|refine yN q5 ⟨⟨rfl,rfl⟩,rfl⟩ ?_|refine yD q6 ⟨⟨rfl,rfl⟩,⟨rfl,rfl⟩,rfl⟩ rfl ?_));all_goals try conv=>whnf
 all_goals (clear q1 q2 q3 q4 q5 q6 h17;simp_all)
theorem zAt {m:KM} {f:List Nd} (h:zkU m f=0):zi m=0∧zbq f=0∧za6 .i64 (fun p q=>p &&& ~~~q) (uni zbJ (cL f):Int) 207=0∧zea f m.rel.length m.val.length=true:=by
 unfold zkU at h
 split at h
 ·exact absurd h ‹_›
 ·split at h
  ·exact absurd h ‹_›
  ·split at h
   ·cases h
   ·rename_i h3
    split at h
    ·cases h
    ·rename_i h4
     exact ⟨by omega,by omega,Classical.byContradiction fun hn=>h3 hn,by simpa using h4⟩
theorem zw1 (m':KM) (f:List Nd) (w1:1≤m'.W) (w2:m'.W≤64):Fn Tryd.prog T zb2 [.ptr 0 0,.d (dKM m')] [.box [.d (.int .i64 0),.nils 1,.nils 1,.d (.u64 0),.d (.arr 3 []),.d (dF f),.d .nil,.ptr 1 0],zb8] (.ptr 2 0) [some (.box [.d (.int .i64 0),.nils 1,.nils 1,.d (.u64 0),.d (.arr 3 []),.d (dF f),.d .nil,.ptr 1 0]),some zb8,some (zbP m' f 3 1),some (.map [])]:=by
 have hsh:=znS w1 w2
 rw [show zbP m' f 3 1 = .box [.d (.int .i64 m'.W),.d (dU m'.val),.d (dUU m'.rel),.d (.u64 ((18446744073709551615#64) >>> (64 - m'.W).toNat)),.d (.arr 3 []),.d (dF f),.map 3,.ptr 1 0] by rw [hsh]]
 refine zB zk zdV (by show 2≤25;decide) _ (fun e env mem n h=>h) ?_
 (repeat' ((conv=>whnf);first|refine vA ?_|refine vT ?_|((first|refine vO ?_ ?_|refine vP ?_ ?_);·omega)|(refine vU ?_ ?_;·kernel_rfl)|fail));all_goals try conv=>whnf
 refine ⟨trivial,_,[(0,0),(1,1),(2,4),(3,3)],[],rfl,.inl (by (repeat' first|exact rfl|refine ⟨_,rfl,?_⟩)),⟨by rfl,by rfl,by rfl,trivial,by (repeat' first|exact trivial|exact rfl|refine And.intro ?_ ?_|refine ⟨_,rfl,?_⟩|exact of_decide_eq_true rfl)⟩,by (repeat' first|exact trivial|exact rfl|refine And.intro ?_ ?_|refine ⟨_,rfl,?_⟩)⟩
theorem zwZ (hT:zcl T) {m:KM} {f:List Nd} (hr:zkU m f=0) (h17 : ∀ n∈cL f,n.op≠17) (hfit : ∀ n∈cL f,zhK m n.hd):Fn Tryd.prog T zd6 [.d (dKM m),.d (.arr 3 []),.d (dF f)] [] (.d (.tup [.u64 (zA (zeK f) m),.int .i64 0])) []:=by
 have c1:=zu0 (T:=T) m f h17
 rw [hr] at c1
 obtain ⟨hk0,hf0,-,-⟩:=zAt hr
 have c2:=zgD (T:=T) f
 obtain ⟨hcan,-⟩:=zhS hf0
 have gm:=zw hk0
 have c3:=zw1 (T:=T) m (cL f) gm.w1 gm.w2
 have c4:=zA0 hT hcan.ok ((cL f).length - 1) (by have:=hcan.pos;omega) m [] hk0 hfit (fun p hp=>by cases hp)
 rw [show zt (cL f) ((cL f).length - 1)=zeK f from hcan.tree,show (((cL f).length - 1:Nat):Int)=(((cL f).map dNd).length:Int) - 1 by have:=hcan.pos;simp;omega] at c4
 have hlen:0 < (cL f).length∧(cL f).length≤200:=⟨hcan.pos,zsG f⟩
 generalize zA (zeK f) m=s at *
 generalize cL f=q at *
 refine zb zk ziT (by show 3≤38;decide) ?_
 (repeat' ((conv=>whnf);first|refine vA ?_|refine vH ?_|refine vT ?_|refine yD c1 ⟨⟨rfl,rfl⟩,⟨rfl,rfl⟩,⟨rfl,rfl⟩,rfl⟩ rfl ?_|refine yN c2 ⟨⟨rfl,rfl⟩,rfl⟩ ?_));all_goals try conv=>whnf
 refine zo.objs [2,1] (c3) (by (repeat' first|exact rfl|refine And.intro ?_ ?_|refine ⟨_,rfl,?_⟩)) (by (repeat' first|exact rfl|refine And.intro ?_ ?_|refine ⟨_,rfl,?_⟩)) (by rfl) (by rfl) (by simp) ?_
 (repeat' ((conv=>whnf);first|refine vJ fun hg=>?_|refine vT ?_|(refine vO ?_ ?_;·(simp only [vM] at *;omega))|(refine vU ?_ ?_;·kernel_rfl)|fail));all_goals try conv=>whnf
 refine zo.objs [3,4,1] (c4) (by (repeat' first|exact rfl|refine And.intro ?_ ?_|refine ⟨_,rfl,?_⟩)) (by (repeat' first|exact rfl|refine And.intro ?_ ?_|refine ⟨_,rfl,?_⟩)) (by rfl) (by rfl) (by simp) ?_
 (repeat' ((conv=>whnf);first|refine vA ?_|refine vH ?_|refine vT ?_));all_goals try conv=>whnf
 rfl
theorem zBY {m:KM} {f:List Nd} (hr:zi m≠0) (h17 : ∀ n∈cL f,n.op≠17):Fn Tryd.prog T zd6 [.d (dKM m),.d (.arr 3 []),.d (dF f)] [] (.d (.tup [.u64 0#64,.int .i64 (zi m)])) []:=by
 have c1:=zu0 (T:=T) m f h17
 rw [show zkU m f=zi m from if_pos hr] at c1
 generalize zi m=e at *
 refine zb zk ziT (by show 3≤38;decide) ?_
 (repeat' ((conv=>whnf);first|refine vA ?_|(refine vD ?_ ?_<;>intro hc)|refine vT ?_|refine yD c1 ⟨⟨rfl,rfl⟩,⟨rfl,rfl⟩,⟨rfl,rfl⟩,rfl⟩ rfl ?_));all_goals try conv=>whnf
 ·rfl
 ·exact absurd ‹e=0› hr
theorem zCu {m:KM} (hk:zi m=0) {f:List Nd} {t:Tm} (hf:IsF f t) (ht:t.all (zhK m)):zkU m f=0∧(∀ n∈cL f,n.op≠17) ∧ ∀ n∈cL f,zhK m n.hd:=by
 have hall:=(hf.canon.1.all (zhK m)).2 ht
 have g:=zw hk
 have hlt:uni zbJ (cL f) < 2 ^ 63:=Nat.lt_of_lt_of_le ((zik zbJ (b:=9)).2 fun n _=>zoi n.hd) (by decide)
 have h207:za6 .i64 (fun p q=>p &&& ~~~q) (uni zbJ (cL f):Int) 207=0:=(znv hlt (b:=207) (by decide)).2 fun i hi=>by
  rw [zm1] at hi
  obtain ⟨n,hn,hi⟩:=List.any_eq_true.1 hi
  have ho:(1≤n.op∧n.op≤13)∨n.op=16:=(hall n hn).imp (fun h=>h.op) id
  have key:zbJ n.hd&&&207=zbJ n.hd:=by
   have:n.op=1∨n.op=2∨n.op=3∨n.op=4∨n.op=5∨n.op=6∨n.op=7∨n.op=8∨n.op=9∨n.op=10∨n.op=11∨n.op=12∨n.op=13∨n.op=16:=by omega
   unfold zbJ
   show (zaR n.op).toNat&&&207=(zaR n.op).toNat
   rcases this with e|e|e|e|e|e|e|e|e|e|e|e|e|e<;>rw [e]<;>decide
  rw [← key,Nat.testBit_and,Bool.and_eq_true] at hi
  exact hi.2
 have hfits:zea f m.rel.length m.val.length=true:=by
  have n4:=g.n4
  have v8:=g.v8
  simp only [zea,zfK,Bool.and_eq_true,decide_eq_true_eq,Int.toNat_natCast]
  have b1:uni zb5 (cL f) < 2 ^ m.rel.length:=(zik zb5).2 fun n hn=>by
   have hh:=zmK hn
   unfold zb5
   rcases hall n hn with h|h
   ·split
    ·rename_i hu
     have:n.op=9∨n.op=10:=by
      have ho:=h.op
      have h2:n.op=9∨n.op=10∨n.op=14∨n.op=15:=of_decide_eq_true hu
      dsimp only [Nd.hd] at ho
      omega
     have:=h.agent this
     exact (Nat.pow_lt_pow_iff_right (by decide:1 < 2)).2 (by omega)
    ·by_cases hg:11≤n.op∧n.op≤13
     ·exact (h.group hg).2
     ·have:n.hd.g=0:=hh.g0 (by simp only [zR,decide_eq_false_iff_not];exact hg)
      rw [this];exact Nat.two_pow_pos _
   ·have e1:zP n.hd.op=false:=by rw [h];decide
    rw [if_neg (by rw [e1];decide)]
    have:n.hd.g=0:=hh.g0 (by rw [h];decide)
    rw [this];exact Nat.two_pow_pos _
  have b2:uni zd9 (cL f) < 2 ^ m.val.length:=(zik zd9).2 fun n hn=>by
   unfold zd9
   split
   ·rename_i hu
    have h3:n.op=3:=of_decide_eq_true hu
    rcases hall n hn with h|h
    ·have:=h.fact h3
     exact (Nat.pow_lt_pow_iff_right (by decide:1 < 2)).2 (by omega)
    ·have:n.op=16:=h
     omega
   ·exact Nat.two_pow_pos _
  exact ⟨⟨hf.ok,.inr b1⟩,.inr b2⟩
 refine ⟨?_,fun n hn e=>?_,hall⟩
 ·unfold zkU
  rw [if_neg (not_not_intro hk),if_neg (not_not_intro hf.ok),if_neg (not_not_intro h207),if_neg (by rw [hfits];decide)]
 ·rcases hall n hn with h|h
  ·have ho:=h.op
   dsimp only [Nd.hd] at ho
   omega
  ·have:n.op=16:=h
   omega
end Go.Ab
namespace Go.Ab
open Go Go.Proofs
set_option maxRecDepth 10000
set_option maxHeartbeats 4000000
variable {T:Nat→Obj→Prop}
noncomputable def zvr (m:KM) (f:List Nd):KM×List Int×Int:=if (zM m f).2≠0 then (zx6,[],(zM m f).2) else if (zM m f).1=0#64 then (zx6,[],11) else (zaE m (za (zM m f).1),(za (zM m f).1).map fun i:Nat=>(i:Int),0)
theorem zxa {m:KM} {f:List Nd} (h:(zM m f).2=0):zi m=0 ∧ ∀ v,(zM m f).1.getLsbD v=true→v < m.W.toNat:=by
 have hr:zaL m f=0:=Classical.byContradiction fun hn=>hn (by rw [zkJ hn] at h;exact h)
 exact ⟨(zgq hr).1,fun v hv=>(((zpy hr).2 v).1 hv).1⟩
theorem zBW (l:List Nat):dN l=dI (l.map fun i:Nat=>(i:Int)):=by simp [dN,dI]
theorem ztb (hT:zcl T) (m:KM) (f:List Nd):Fn Tryd.prog T zg8 [.d (dKM m),.d (dF f)] [] (.d (zCh (zvr m f))) []:=by
 have ch:=zrk (T:=T) m f
 refine zb zk zng (by show 2≤28;decide) ?_
 unfold zvr
 by_cases he:(zM m f).2=0
 ·rw [if_neg (not_not_intro he)]
  obtain ⟨hk0,hin⟩:=zxa he
  rw [he] at ch
  by_cases h0:(zM m f).1=0#64
  ·rw [if_pos h0]
   rw [h0] at ch
   (repeat' ((conv=>whnf);first|refine vA ?_|refine vG ?_|refine vH ?_|refine vT ?_|refine yN ch ⟨⟨rfl,rfl⟩,⟨rfl,rfl⟩,rfl⟩ ?_));all_goals try conv=>whnf
   all_goals rfl
  ·rw [if_neg h0]
   have cr:=zl2 (T:=T) hT hk0 h0 hin
   generalize (zM m f).1=s at *
   (repeat' ((conv=>whnf);first|refine vA ?_|refine vH ?_|(refine vF ?_ ?_<;>intro hc)|refine vT ?_|refine yN ch ⟨⟨rfl,rfl⟩,⟨rfl,rfl⟩,rfl⟩ ?_|refine yN cr ⟨⟨rfl,rfl⟩,⟨rfl,rfl⟩,rfl⟩ ?_));all_goals try conv=>whnf
   ·exact absurd ‹s=0› h0
   ·rw [zBW];rfl
 ·rw [if_pos he]
  (repeat' ((conv=>whnf);first|refine vA ?_|((first|refine vD ?_ ?_|refine vF ?_ ?_)<;>intro hc)|refine vT ?_|refine yN ch ⟨⟨rfl,rfl⟩,⟨rfl,rfl⟩,rfl⟩ ?_));all_goals try conv=>whnf
  all_goals first|rfl|exact absurd ‹(zM m f).2=0› he
abbrev zpl (p:Bool×Int):D := .agg [.bool p.1,.int .i64 p.2]
theorem zCj (m:KM) (w:Int) (says:List (List Nd)) (hk:zi m≠0):Fn Tryd.prog T zdu [.d (dKM m),.d (.int .i64 w),.d (.arr 1 (says.map dF))] [] (.d (.tup [.arr 2 [],.int .i64 (zi m)])) []:=by
 have ck:=zbU (T:=T) m
 generalize zi m=e at *
 refine zb zk zjR (by show 3≤78;decide) ?_
 (repeat' ((conv=>whnf);first|refine vA ?_|((first|refine vD ?_ ?_|refine vF ?_ ?_)<;>intro hc<;>try simp only [vL] at hc)|refine vJ fun hg=>?_|refine vT ?_|refine yD ck ⟨⟨rfl,rfl⟩,rfl⟩ rfl ?_));all_goals try conv=>whnf
 all_goals first|rfl|exact absurd (by assumption) hk
theorem zyM {a:BitVec 64} {w:Nat} (h:a.getLsbD w=true):zfY (fun y=>(w:Int)==y) ((za a).map fun i:Nat=>(i:Int))=(((za a).idxOf w:Nat):Int):=by
 obtain ⟨h1,h2⟩:=zfc h
 refine ziM (x:=(w:Int)) ?_ (by simp) fun i y hi hy=>?_
 ·rw [List.getElem?_map,List.getElem?_eq_getElem h1]
  have:(za a)[(za a).idxOf w]=w:=by simp
  rw [this];rfl
 ·have hl:i < (za a).length:=by omega
  rw [List.getElem?_map,List.getElem?_eq_getElem hl] at hy
  cases hy
  simp only [beq_eq_false_iff_ne,ne_eq]
  intro e
  have e2:(za a).getD i 0=w:=by simp [List.getD,hl];omega
  have:=(zuR hl e2).2
  omega
theorem zCs (hT:zcl T) {m:KM} (hk:zi m=0) {w:Nat} (hw:w < m.W.toNat) (says:List (List Nd)) (hs : ∀ f∈says,zaL m f=0) (h4:says.length≤4) :
  Fn Tryd.prog T zdu [.d (dKM m),.d (.int .i64 (w:Int)),.d (.arr 1 (says.map dF))] [] (.d (.tup [.arr 2 ((zgF says m w).map zpl),.int .i64 0])) []:=by
 have ck:=zbU (T:=T) m
 rw [hk] at ck
 have w2:=(zw hk).w2
 refine zb zk zjR (by show 3≤78;decide) ?_
 (repeat' ((conv=>whnf);first|refine vA ?_|refine vH ?_|(refine vF ?_ ?_<;>intro hc<;>try simp only [vL] at hc)|refine vJ fun hg=>?_|refine vT ?_|refine yD ck ⟨⟨rfl,rfl⟩,rfl⟩ rfl ?_));all_goals try conv=>whnf
 ·exact absurd ‹m.W≤(w:Int)› (by omega)
 ·exact absurd ‹100 < (says.length:Int)› (by omega)
 refine zy (fun ((k,M,u,R):Nat×KM×Nat×List D)=>[(1,.d (.int .i64 ((u:Int)))),(3,.ptr 0 0),(9,.own 1),(32,.d (.arr 1 (says.map dF))),(33,.d (.int .i64 (((says.map dF).length:Int)))),(34,.d (.int .i64 ((k:Int))))]) (fun ((k,M,u,R):Nat×KM×Nat×List D)=>[(0,some (.box [.d (.int .i64 M.W),.d (dU M.val),.d (dUU M.rel)])),(1,some (.row 2 R))]) 2 (fun ((k,M,u,R):Nat×KM×Nat×List D)=>k≤says.length∧zi M=0∧u < M.W.toNat∧(∀ f∈says,zaL M f=0) ∧ ∃ L:List (Bool×Int),R=L.map zpl∧L.length=k∧zgF says m w=L++zgF (says.drop k) M u) (fun ((k,M,u,R):Nat×KM×Nat×List D)=>says.length - k) ((0,m,w,[])) [(0,0)]   [1] (⟨by omega,hk,hw,hs,[],rfl,rfl,rfl⟩) (by (refine ⟨rfl,rfl,rfl,?_,?_⟩;repeat' first|exact trivial|exact rfl|exact ⟨_,rfl⟩|refine And.intro ?_ ?_|refine ⟨_,rfl,?_⟩|decide)) ?_
 rintro ⟨k,M,u,R⟩ ⟨i1,i3,i4,i5,L,iR,i2,i6⟩
 clear ck hk hw hs w2
 have w2:=(zw i3).w2
 have hR:R.length≤4:=by rw [iR,List.length_map];omega
 (repeat' ((conv=>whnf);first|refine vA ?_|(refine vF ?_ ?_<;>intro hc<;>try simp only [vL] at hc)|refine vT ?_|(refine vQ ?_ fun x hx=>?_;·omega)|fail));all_goals try conv=>whnf
 ·have hrx:=i5 x (List.mem_of_getElem? hx)
  have cx:=zBn (T:=T) M (u:Int) x
  rw [show atK M (u:Int) x=((zM M x).1.getLsbD u,0) by rw [atK,if_neg (not_not_intro hrx),if_neg (by omega),Int.toNat_natCast]] at cx
  rw [zab hx,zgF] at i6
  have ca:=ztb (T:=T) hT M x
  have hh:=(zpy hrx).1
  cases hb:(zM M x).1.getLsbD u with
  | false =>
   rw [hb] at cx
   rw [hb,if_neg (by decide)] at i6
   clear ca
   (repeat' ((conv=>whnf);first|refine vA ?_|refine vE ?_|refine vH ?_|refine vT ?_|(refine vP ?_ ?_;·(simp only [vM] at *;omega))|refine yN cx ⟨⟨rfl,rfl⟩,⟨rfl,rfl⟩,⟨rfl,rfl⟩,rfl⟩ ?_));all_goals try conv=>whnf
   rw [i6,List.map_append,← iR]
   rfl
  | true =>
   rw [hb] at cx
   rw [hb,if_pos rfl] at i6
   have hne:(zM M x).1≠0#64:=ztz.2 ⟨u,hb⟩
   rw [show zvr M x=(zaE M (za (zM M x).1),(za (zM M x).1).map fun i:Nat=>(i:Int),0) by rw [zvr,if_neg (not_not_intro hh),if_neg hne]] at ca
   have ci:=zs8 (T:=T) ((za (zM M x).1).map fun i:Nat=>(i:Int)) (u:Int)
   rw [zyM hb] at ci
   obtain ⟨l1,l2⟩:=zj1 hne
   have hk':=zhr (znW (zw i3) l1 l2)
   have hu':=(zfc hb).1
   have hs' : ∀ f∈says,zaL (zaE M (za (zM M x).1)) f=0:=fun g hg=>zrG (i5 g hg) hk' (zei M _).2 (zei M _).1
   have hW:(zaE M (za (zM M x).1)).W=((za (zM M x).1).length:Int):=rfl
   generalize (za (zM M x).1).idxOf u=u' at *
   generalize za (zM M x).1=bs at *
   generalize zaE M bs=M' at *
   (repeat' ((conv=>whnf);first|refine vA ?_|refine vE ?_|refine vG ?_|refine vH ?_|refine vT ?_|((first|refine vO ?_ ?_|refine vP ?_ ?_);·first|omega|(simp only [vM] at *;omega))|(refine vU ?_ ?_;·kernel_rfl)|refine yN cx ⟨⟨rfl,rfl⟩,⟨rfl,rfl⟩,⟨rfl,rfl⟩,rfl⟩ ?_|refine yN ca ⟨⟨rfl,rfl⟩,⟨rfl,rfl⟩,rfl⟩ ?_|refine yD ci ⟨⟨rfl,rfl⟩,⟨rfl,rfl⟩,rfl⟩ rfl ?_));all_goals try conv=>whnf
   refine ⟨(k+1,M',u',R++[zpl (true,M'.W)]),[(0,0),(1,4)],[],?_,?_,by (refine ⟨rfl,rfl,rfl,?_,?_⟩;repeat' first|exact trivial|exact rfl|refine And.intro ?_ ?_|refine ⟨_,rfl,?_⟩|decide)⟩
   ·exact ⟨by (omega),hk',by omega,hs',L++[(true,M'.W)],by rw [List.map_append,← iR];rfl,by simp [i2],by rw [i6,hW,List.append_assoc];rfl⟩
   ·((simp only [vM] at *;omega))
 ·rw [List.drop_eq_nil_of_le (by omega),zgF,List.append_nil] at i6
  rw [i6,← iR]
  rfl
end Go.Ab
namespace Go.Ab
open Go Go.Proofs
set_option maxRecDepth 10000
set_option maxHeartbeats 4000000
variable {T:Nat→Obj→Prop}
def zts:Fs:=fun f vs obs =>
 cond (Nat.beq f zan) (match vs,obs with
  | [.d (.u64 w)],[]=>some (.d (.int .i64 (Lib.ctz 64 w.toNat)),[])
  | _,_=>none) none
noncomputable def zqr:Cfg:=⟨ze Tryd.prog,zts,fun _ _ _=>none,fun _=>false,fun _=>false,150⟩
theorem zxf (hT:zcl T):zss Tryd.prog T zts:=by
 intro f vs obs v obs' h
 unfold zts at h
 cases h2:Nat.beq f zan with
 | true =>
  rw [h2,cond_true] at h
  rw [Nat.eq_of_beq_eq_true h2]
  split at h
  ·cases h;exact hT _
  ·cases h
 | false=>rw [h2] at h;cases h
theorem zjp (hT:zcl T):zr9 Tryd.prog T zqr:=⟨fun f c h=>h,zxf hT,fun g vs obs xs h=>by cases h⟩
abbrev mS:KM:=⟨4,[10#64,12#64],[[3#64,3#64,12#64,12#64],[5#64,10#64,5#64,10#64]]⟩
abbrev fP:List Nd:=[⟨3,0,0,0,0,0⟩]
abbrev fK:List Nd:=[⟨3,0,0,0,0,0⟩,⟨9,0,0,0,0,0⟩]
abbrev fN:List Nd:=[⟨3,0,0,0,0,0⟩,⟨9,0,0,0,0,0⟩,⟨16,0,0,0,0,1⟩]
set_option maxRecDepth 1000000 in
theorem zzh:evF zqr 60 zjE [.d (.int .i64 2),.d (.arr 1 [.int .i64 2,.int .i64 1])] []=some (.d (.tup [dKM mS,.int .i64 0]),[]):=by kernel_rfl
set_option maxRecDepth 1000000 in
theorem zze:evF zqr 60 zjz [.d (.int .i64 0)] []=some (.d (dF fP),[]):=by kernel_rfl
set_option maxRecDepth 1000000 in
theorem zzf:evF zqr 60 zjB [.d (.int .i64 0),.d (dF fP)] []=some (.d (dF fK),[]):=by kernel_rfl
set_option maxRecDepth 1000000 in
theorem zAw:evF zqr 60 zcP [.d (dF fP),.d (dF fK)] []=some (.d (dF fN),[]):=by kernel_rfl
set_option maxRecDepth 1000000 in
theorem zzg:evF zqr 60 zdu [.d (dKM mS),.d (.int .i64 1),.d (.arr 1 [dF fP])] []=some (.d (.tup [.arr 2 [zpl (true,2)],.int .i64 0]),[]):=by kernel_rfl
theorem zzI:cL fN=fN:=by kernel_rfl
theorem zBw:zkU mS fN=0:=by kernel_rfl
theorem zBB:zA (zeK fN) mS=15#64:=by kernel_rfl
theorem zwW (hT:zcl T):Fn Tryd.prog T zd6 [.d (dKM mS),.d (.arr 3 []),.d (dF fN)] [] (.d (.tup [.u64 15#64,.int .i64 0])) []:=by
 have c:=zwZ (T:=T) hT zBw (by rw [zzI];simp) (by
  rw [zzI]
  intro n hn
  simp only [List.mem_cons,List.not_mem_nil,or_false] at hn
  rcases hn with rfl|rfl|rfl
  ·exact .inl ⟨by decide,by decide,by decide,by decide⟩
  ·exact .inl ⟨by decide,by decide,by decide,by decide⟩
  ·exact .inr rfl)
 rw [zBB] at c
 exact c
theorem zBK (hT:zcl T):Fn Tryd.prog T zfu [] [] (.d (.bool true)) []:=by
 have c1:Fn Tryd.prog T zjE [.d (.int .i64 2),.d (.arr 1 [.int .i64 2,.int .i64 1])] [] (.d (.tup [dKM mS,.int .i64 0])) []:=zen zk (zjp hT) 60 _ _ _ _ _ zzh
 have c2:Fn Tryd.prog T zjz [.d (.int .i64 0)] [] (.d (dF fP)) []:=zen zk (zjp hT) 60 _ _ _ _ _ zze
 have c3:Fn Tryd.prog T zjB [.d (.int .i64 0),.d (dF fP)] [] (.d (dF fK)) []:=zen zk (zjp hT) 60 _ _ _ _ _ zzf
 have c4:Fn Tryd.prog T zcP [.d (dF fP),.d (dF fK)] [] (.d (dF fN)) []:=zen zk (zjp hT) 60 _ _ _ _ _ zAw
 have c5:Fn Tryd.prog T zdu [.d (dKM mS),.d (.int .i64 1),.d (.arr 1 [dF fP])] [] (.d (.tup [.arr 2 [zpl (true,2)],.int .i64 0])) []:=zen zk (zjp hT) 60 _ _ _ _ _ zzg
 have c6:=zwW (T:=T) hT
 refine zb zk zjT (by show 0≤58;decide) ?_
 (repeat' ((conv=>whnf);refine vT ?_));all_goals try conv=>whnf
 refine zo.dataN (c1) (by (repeat refine ⟨⟨rfl,rfl⟩,?_⟩);rfl) ?_
 (repeat' ((conv=>whnf);refine vT ?_));all_goals try conv=>whnf
 refine zo.dataN (c2) (by (repeat refine ⟨⟨rfl,rfl⟩,?_⟩);rfl) ?_
 (repeat' ((conv=>whnf);refine vT ?_));all_goals try conv=>whnf
 refine zo.dataN (c5) (by (repeat refine ⟨⟨rfl,rfl⟩,?_⟩);rfl) ?_
 (repeat' ((conv=>whnf);first|refine vA ?_|refine vT ?_));all_goals try conv=>whnf
 refine zo.dataN (c3) (by (repeat refine ⟨⟨rfl,rfl⟩,?_⟩);rfl) ?_
 (repeat' ((conv=>whnf);refine vT ?_));all_goals try conv=>whnf
 refine zo.dataN (c4) (by (repeat refine ⟨⟨rfl,rfl⟩,?_⟩);rfl) ?_
 (repeat' ((conv=>whnf);refine vT ?_));all_goals try conv=>whnf
 refine zo.dataN (c6) (by (repeat refine ⟨⟨rfl,rfl⟩,?_⟩);rfl) ?_
 (repeat' ((conv=>whnf);first|refine vA ?_|refine vG ?_|refine vK fun hg=>?_|refine vT ?_|(refine vO ?_ ?_;·omega)|(refine vU ?_ ?_;·kernel_rfl)|fail));all_goals try conv=>whnf
 refine zdg.mk _ ⟨by decide,rfl⟩ ?_
 (repeat' ((conv=>whnf);first|refine vG ?_|refine vT ?_));all_goals try conv=>whnf
 refine zdg.mk _ ⟨by decide,rfl⟩ ?_
 (repeat' ((conv=>whnf);first|refine vG ?_|refine vT ?_|refine vZ ?_));all_goals try conv=>whnf
 rfl
end Go.Ab
namespace Go.Ab
open Go
def zmO (r:List (BitVec 64)) (v w:Nat):List (BitVec 64):=r.set v (r.getD v 0#64 ^^^ 1#64 <<< w)
def zeb (m:KM) (a v w:Nat):KM:=⟨m.W,m.val,m.rel.set a (zmO (m.rel.getD a []) v w)⟩
theorem zuY {r:List (BitVec 64)} {v w:Nat} (hv:v < r.length) (hw:w < 64) (x y:Nat) (hy:y < 64):rb (zmO r v w) x y=if x=v∧y=w then !(rb r x y) else rb r x y:=by
 unfold rb zmO
 by_cases hx:x=v
 ·subst hx
  have e:(r.set x (r.getD x 0#64 ^^^ 1#64 <<< w)).getD x 0#64=r.getD x 0#64 ^^^ 1#64 <<< w:=by simp [List.getD,hv]
  rw [e,BitVec.getLsbD_xor]
  have hb:(1#64 <<< w).getLsbD y=decide (y=w):=by
   rw [BitVec.getLsbD_shiftLeft,decide_eq_true hy,Bool.true_and]
   by_cases h:y=w
   ·subst h;simp
   ·rw [decide_eq_false h]
    by_cases h2:y < w
    ·simp [h2]
    ·have:(1#64).getLsbD (y - w)=false:=by
      rw [BitVec.getLsbD_one];simp;omega
     rw [this,Bool.and_false]
  rw [hb]
  by_cases h:y=w
  ·rw [if_pos ⟨rfl,h⟩,decide_eq_true h,Bool.xor_true]
  ·rw [if_neg (fun h'=>h h'.2),decide_eq_false h,Bool.xor_false]
 ·have e:(r.set v (r.getD v 0#64 ^^^ 1#64 <<< w)).getD x 0#64=r.getD x 0#64:=by
   simp only [List.getD]
   rw [List.getElem?_set_ne (Ne.symm hx)]
  rw [e,if_neg (fun h'=>hx h'.1)]
section
variable {m:KM} (hk:zi m=0) {a v w:Nat} (ha:a < m.rel.length) (hv:v < m.W.toNat) (hw:w < m.W.toNat)
include hk ha hv hw
theorem zwQ:zd5 (zeb m a v w):=by
 have g:=zw hk
 have w2:=g.w2
 have hm:m.rel.getD a []∈m.rel:=by rw [List.getD,List.getElem?_eq_getElem ha];exact List.getElem_mem _
 have hl:=g.len _ hm
 refine ⟨g.w1,g.w2,by simpa [zeb] using g.n4,g.v8,fun r hr=>?_,g.val,fun r hr s hs=>?_⟩
 ·rcases List.mem_or_eq_of_mem_set hr with h|rfl
  ·exact g.len r h
  ·rw [zmO,List.length_set];exact hl
 ·rcases List.mem_or_eq_of_mem_set hr with h|rfl
  ·exact g.rel r h s hs
  ·obtain ⟨i,hi⟩:=List.mem_iff_getElem?.1 hs
   have hil:i < (m.rel.getD a []).length:=by have:=(List.getElem?_eq_some_iff.1 hi).1;simpa [zmO] using this
   have w1:=g.w1
   show bad m.W s=false
   refine (zfr (by omega)).2 fun y hy=>?_
   have hy64:y < 64:=by
    rcases Nat.lt_or_ge y 64 with h|h
    ·exact h
    ·rw [BitVec.getLsbD_of_ge _ _ h] at hy;cases hy
   have e:=zpY hi y
   rw [zuY (by omega) (by omega) i y hy64,hy] at e
   split at e
   ·rename_i h;omega
   ·have hx:(m.rel.getD a [])[i]? = some (m.rel.getD a [])[i]:=List.getElem?_eq_getElem hil
    rw [zpY hx] at e
    exact (zfr (by omega)).1 (g.rel _ hm _ (List.getElem_mem hil)) y e
theorem znC:zbr m (zeb m a v w)=0:=by
 rw [zbr,if_neg (not_not_intro hk),if_neg (not_not_intro (zhr (zwQ hk ha hv hw)))]
 simp [zeb]
theorem zuX (f:Nat→Nat) : ¬zfF m.W.toNat (zbE m) (zbE (zeb m a v w)) (z7 m) (z7 (zeb m a v w)) f:=by
 have g:=zw hk
 have w2:=g.w2
 have hm:m.rel.getD a []∈m.rel:=by rw [List.getD,List.getElem?_eq_getElem ha];exact List.getElem_mem _
 have hl:=g.len _ hm
 refine zuk (k:=a) (r:=fun v w=>rb (m.rel.getD a []) v w) (r':=fun x y=>rb (zmO (m.rel.getD a []) v w) x y) ?_ ?_ hv hw fun x y hx hy=>?_
 ·simp [z7,List.getD,ha]
 ·simp [z7,zeb,ha]
 ·exact zuY (by omega) (by omega) x y (by omega)
theorem zBJ (h12:m.W≤12):zf2 m (zeb m a v w)=([],6):=by
 have hd:dfs (okM m (zeb m a v w)) m.W.toNat m.W.toNat []=[]:=by
  refine List.eq_nil_iff_forall_not_mem.2 fun x hx=>?_
  exact zuX hk ha hv hw _ ((zxd (by simp [z7,zeb])).1 hx).2
 rw [zf2,if_neg (not_not_intro (znC hk ha hv hw)),if_neg (by show ¬(12 < m.W∨12 < m.W);omega),if_neg (show ¬(m.W≠(zeb m a v w).W) from not_not_intro rfl),hd]
abbrev zsn (n:Nat):List Int:=(List.range n).map fun (i:Nat)=>(i:Int)
theorem zAN:zbV m (zeb m a v w) (zsn m.W.toNat)=13:=by
 have hp:zcp (zsn m.W.toNat) m.W.toNat=true:=zva (q:=fun w=>w) ⟨fun _ h=>h,fun _ _ _ _ h=>h⟩
 rw [zbV,if_neg (not_not_intro (znC hk ha hv hw)),if_neg (show ¬(m.W≠(zeb m a v w).W) from not_not_intro rfl),if_neg (by rw [hp];decide),if_neg]
 intro hB
 exact zuX hk ha hv hw _ ((zto (by simp [zeb]) hp).1 hB)
end
theorem zAP {m:KM} (hk:zi m=0):zbV m m (zsn m.W.toNat)=0:=by
 have hp:zcp (zsn m.W.toNat) m.W.toNat=true:=zva (q:=fun w=>w) ⟨fun _ h=>h,fun _ _ _ _ h=>h⟩
 have he:zbr m m=0:=by rw [zbr,if_neg (not_not_intro hk),if_neg (not_not_intro hk)];simp
 rw [zbV,if_neg (not_not_intro he),if_neg (not_not_intro rfl),if_neg (by rw [hp];decide),if_pos]
 refine (zto rfl hp).2 (zfF.id.congr fun w hw=>zBG (q:=fun w=>w) hw)
end Go.Ab
namespace Go.Ab
open Go Go.Proofs
set_option maxRecDepth 10000
set_option maxHeartbeats 4000000
variable {T:Nat→Obj→Prop}
theorem zcb {α:Type} {l:List α} {j:Nat} {n:α} (h:l[j]? = some n):l.take (j+1)=l.take j++[n]:=by rw [List.take_add_one,h];rfl
theorem zfb.other {a b:Prop} (h:b):zfb True a b := .no h
def zCf (i:Nat):List (List D)→Mem
 | [a]=>[(i,some (.box [.own (i+1)])),(i+1,some (.row 1 a))]
 | [a,b]=>[(i,some (.box [.own (i+1),.own (i+2)])),(i+1,some (.row 1 a)),(i+2,some (.row 1 b))]
 | [a,b,c]=>[(i,some (.box [.own (i+1),.own (i+2),.own (i+3)])),(i+1,some (.row 1 a)),(i+2,some (.row 1 b)),(i+3,some (.row 1 c))]
 | [a,b,c,d]=>[(i,some (.box [.own (i+1),.own (i+2),.own (i+3),.own (i+4)])),(i+1,some (.row 1 a)),(i+2,some (.row 1 b)),(i+3,some (.row 1 c)),(i+4,some (.row 1 d))]
 | _=>[]
def zA6 (i:Nat):List (List D)→V
 | [] => .nils 1
 | [_] => .bown i 1
 | [_,_] => .bown i 2
 | [_,_,_] => .bown i 3
 | _ => .bown i 4
def zCg:List (List D)→List (Option Ob)
 | [a]=>[some (.box [.own 2]),some (.row 1 a)]
 | [a,b]=>[some (.box [.own 2,.own 3]),some (.row 1 a),some (.row 1 b)]
 | [a,b,c]=>[some (.box [.own 2,.own 3,.own 4]),some (.row 1 a),some (.row 1 b),some (.row 1 c)]
 | [a,b,c,d]=>[some (.box [.own 2,.own 3,.own 4,.own 5]),some (.row 1 a),some (.row 1 b),some (.row 1 c),some (.row 1 d)]
 | _=>[]
abbrev zf7 (l:List (List (BitVec 64))):List (List D):=l.map fun r=>r.map D.u64
theorem zCk (m:KM) (hv:m.val.length≤8) (h1:1≤m.rel.length) (h4:m.rel.length≤4) (hr : ∀ r∈m.rel,r.length≤64) :
  Fn Tryd.prog T zgd [.d (dKM m)] [] (.agg [.d (.int .i64 m.W),.own 0,zA6 1 (zf7 m.rel)]) (some (.row 1 (m.val.map D.u64))::zCg (zf7 m.rel)):=by
 refine zB zk zls (by show 1≤63;decide) _ (fun e env mem n h=>h) ?_
 (repeat' ((conv=>whnf);first|refine vA ?_|refine vT ?_));all_goals try conv=>whnf
 refine zy (fun ((k,R):Nat×List D)=>[(1,.ptr 0 0),(2,.ptr 1 0),(3,.ptr 2 0),(4,.d (.int .i64 ((k:Int))))]) (fun ((k,R):Nat×List D)=>[(0,some (zaH m)),(1,some (.box [.d (.int .i64 0),.nils 1,.nils 1])),(2,some (.box [.d (.int .i64 m.W),.own 3,.nils 1])),(3,some (.row 1 R))]) 4 (fun ((k,R):Nat×List D)=>k≤m.val.length∧R=(m.val.take k).map D.u64) (fun ((k,R):Nat×List D)=>m.val.length - k) ((0,[])) [(0,0),(1,1),(2,2)]   [3] (⟨by omega,rfl⟩) (by (refine ⟨rfl,rfl,rfl,?_,?_⟩;repeat' first|exact trivial|exact rfl|exact ⟨_,rfl⟩|refine And.intro ?_ ?_|refine ⟨_,rfl,?_⟩|decide)) ?_
 rintro ⟨k,R⟩ ⟨i1,i2⟩
 have hR:R.length≤8:=by rw [i2,List.length_map,List.length_take];omega
 (repeat' ((conv=>whnf);first|refine vA ?_|(refine vF ?_ ?_<;>intro hc<;>try simp only [vL] at hc)|refine vJ fun hg=>?_|refine vT ?_|(refine vQ ?_ fun x hx=>?_;·omega)|((first|refine vO ?_ ?_|refine vP ?_ ?_);·first|omega|(simp only [vM] at *;omega))|(refine vU ?_ ?_;·kernel_rfl)|fail));all_goals try conv=>whnf
 ·refine ⟨(k+1,R++[D.u64 x]),[(0,0),(1,1),(2,2),(3,5)],[],?_,?_,by (refine ⟨rfl,rfl,rfl,?_,?_⟩;repeat' first|exact trivial|exact rfl|refine And.intro ?_ ?_|refine ⟨_,rfl,?_⟩|decide)⟩
  ·exact ⟨by (omega),by rw [zcb hx,List.map_append,← i2];rfl⟩
  ·((simp only [vM] at *;omega))
 ·rw [List.take_of_length_le (by omega)] at i2
  subst i2
  clear hR
  refine zy (fun ((k,Q):Nat×List (List D))=>[(1,.ptr 0 0),(2,.ptr 1 0),(3,.ptr 2 0),(5,.d (.int .i64 ((k:Int))))]) (fun ((k,Q):Nat×List (List D))=>((0,some (zaH m))::(1,some (.box [.d (.int .i64 0),.nils 1,.nils 1]))::(2,some (.box [.d (.int .i64 m.W),.own 3,zA6 4 Q]))::(3,some (.row 1 (m.val.map D.u64)))::zCf 4 Q)) 9 (fun ((k,Q):Nat×List (List D))=>k≤m.rel.length∧Q.length=k∧Q=zf7 (m.rel.take k)) (fun ((k,Q):Nat×List (List D))=>m.rel.length - k) ((0,[])) [(0,0),(1,1),(2,2),(3,3)] [] (⟨by simp,rfl,rfl⟩) (by (refine ⟨rfl,rfl,rfl,?_,?_⟩;repeat' first|exact trivial|exact rfl|refine And.intro ?_ ?_|refine ⟨_,rfl,?_⟩|decide)) ?_
  rintro ⟨k,Q⟩ ⟨q1,rfl,q2⟩
  rcases Q with _|⟨a,_|⟨b,_|⟨c,_|⟨d,_|⟨e,Q⟩⟩⟩⟩⟩
  ·dsimp only [List.length] at q1 q2
   by_cases hkl:0 < m.rel.length
   ·obtain ⟨r,hx0⟩ : ∃ x,m.rel[0]? = some x:=⟨_,List.getElem?_eq_getElem (by omega)⟩
    have hrl:=hr r (List.mem_of_getElem? hx0)
    (repeat' ((conv=>whnf);first|refine vA ?_|(refine vF ?_ ?_<;>intro hc<;>try simp only [vL] at hc)|refine vJ fun hg=>?_|refine vT ?_));all_goals try conv=>whnf
    ·refine zy (fun ((j,R):Nat×List D)=>[(1,.ptr 0 0),(2,.ptr 1 0),(3,.ptr 2 0),(5,.d (.int .i64 (((0:Nat):Int)))),(6,.own 9),(7,.d (.int .i64 ((j:Int))))]) (fun ((j,R):Nat×List D)=>[(0,some (zaH m)),(1,some (.box [.d (.int .i64 0),.nils 1,.nils 1])),(2,some (.box [.d (.int .i64 m.W),.own 3,.nils 1])),(3,some (.row 1 (m.val.map D.u64))),(9,some (.row 1 R))]) 10 (fun ((j,R):Nat×List D)=>j≤r.length∧R=(r.take j).map D.u64) (fun ((j,R):Nat×List D)=>r.length - j) ((0,[])) [(0,0),(1,1),(2,2),(3,3)]   [9] (⟨by omega,rfl⟩) (by (refine ⟨rfl,rfl,rfl,?_,?_⟩;repeat' first|exact trivial|exact rfl|exact ⟨_,rfl⟩|refine And.intro ?_ ?_|refine ⟨_,rfl,?_⟩|decide)) ?_
     rintro ⟨j,R⟩ ⟨j1,j2⟩
     have hR:R.length≤64:=by rw [j2,List.length_map,List.length_take];omega
     (repeat' ((conv=>whnf);first|refine vA ?_|(refine vF ?_ ?_<;>intro hc<;>try simp only [vL] at hc)|refine vJ fun hg=>?_|refine zfb.other ?_|refine vN ‹_› ?_|(refine vQ ?_ fun x hx=>?_;·omega)|((first|refine vO ?_ ?_|refine vP ?_ ?_);·first|omega|(simp only [vM] at *;omega))|fail));all_goals try conv=>whnf
     ·refine ⟨(j+1,R++[D.u64 x]),[(0,0),(1,1),(2,2),(3,3),(9,11)],[],?_,?_,by (refine ⟨rfl,rfl,rfl,?_,?_⟩;repeat' first|exact trivial|exact rfl|refine And.intro ?_ ?_|refine ⟨_,rfl,?_⟩|decide)⟩
      ·exact ⟨by (omega),by rw [zcb hx,List.map_append,← j2];rfl⟩
      ·((simp only [vM] at *;omega))
     ·rw [List.take_of_length_le (by omega)] at j2
      refine ⟨(1,[R]),[(0,0),(1,1),(2,2),(3,3),(4,11),(5,9)],[],?_,?_,by (refine ⟨rfl,rfl,rfl,?_,?_⟩;repeat' first|exact trivial|exact rfl|refine And.intro ?_ ?_|refine ⟨_,rfl,?_⟩|decide)⟩
      ·exact ⟨by omega,rfl,by rw [zcb hx0,zf7,List.map_append,← zf7,← q2,j2];rfl⟩
      ·((simp only [vM] at *;omega))
    ·exfalso;first|omega|(simp only [List.length_cons,List.length_nil] at *;omega)
   ·exfalso;first|omega|(simp only [List.length_cons,List.length_nil] at *;omega)
  ·dsimp only [List.length] at q1 q2
   by_cases hkl:1 < m.rel.length
   ·obtain ⟨r,hx0⟩ : ∃ x,m.rel[1]? = some x:=⟨_,List.getElem?_eq_getElem (by omega)⟩
    have hrl:=hr r (List.mem_of_getElem? hx0)
    (repeat' ((conv=>whnf);first|refine vA ?_|(refine vF ?_ ?_<;>intro hc<;>try simp only [vL] at hc)|refine vJ fun hg=>?_|refine vT ?_));all_goals try conv=>whnf
    ·refine zy (fun ((j,R):Nat×List D)=>[(1,.ptr 0 0),(2,.ptr 1 0),(3,.ptr 2 0),(5,.d (.int .i64 (((1:Nat):Int)))),(6,.own 9),(7,.d (.int .i64 ((j:Int))))]) (fun ((j,R):Nat×List D)=>[(0,some (zaH m)),(1,some (.box [.d (.int .i64 0),.nils 1,.nils 1])),(2,some (.box [.d (.int .i64 m.W),.own 3,.bown 4 1])),(3,some (.row 1 (m.val.map D.u64))),(4,some (.box [.own 5])),(5,some (.row 1 a)),(9,some (.row 1 R))]) 10 (fun ((j,R):Nat×List D)=>j≤r.length∧R=(r.take j).map D.u64) (fun ((j,R):Nat×List D)=>r.length - j) ((0,[])) [(0,0),(1,1),(2,2),(3,3),(4,4),(5,5)]   [9] (⟨by omega,rfl⟩) (by (refine ⟨rfl,rfl,rfl,?_,?_⟩;repeat' first|exact trivial|exact rfl|exact ⟨_,rfl⟩|refine And.intro ?_ ?_|refine ⟨_,rfl,?_⟩|decide)) ?_
     rintro ⟨j,R⟩ ⟨j1,j2⟩
     have hR:R.length≤64:=by rw [j2,List.length_map,List.length_take];omega
     (repeat' ((conv=>whnf);first|refine vA ?_|(refine vF ?_ ?_<;>intro hc<;>try simp only [vL] at hc)|refine vJ fun hg=>?_|refine zfb.other ?_|refine vN ‹_› ?_|(refine vQ ?_ fun x hx=>?_;·omega)|((first|refine vO ?_ ?_|refine vP ?_ ?_);·first|omega|(simp only [vM] at *;omega))|fail));all_goals try conv=>whnf
     ·refine ⟨(j+1,R++[D.u64 x]),[(0,0),(1,1),(2,2),(3,3),(4,4),(5,5),(9,11)],[],?_,?_,by (refine ⟨rfl,rfl,rfl,?_,?_⟩;repeat' first|exact trivial|exact rfl|refine And.intro ?_ ?_|refine ⟨_,rfl,?_⟩|decide)⟩
      ·exact ⟨by (omega),by rw [zcb hx,List.map_append,← j2];rfl⟩
      ·((simp only [vM] at *;omega))
     ·rw [List.take_of_length_le (by omega)] at j2
      refine ⟨(2,[a,R]),[(0,0),(1,1),(2,2),(3,3),(4,11),(5,5),(6,9)],[],?_,?_,by (refine ⟨rfl,rfl,rfl,?_,?_⟩;repeat' first|exact trivial|exact rfl|refine And.intro ?_ ?_|refine ⟨_,rfl,?_⟩|decide)⟩
      ·exact ⟨by omega,rfl,by rw [zcb hx0,zf7,List.map_append,← zf7,← q2,j2];rfl⟩
      ·((simp only [vM] at *;omega))
    ·exfalso;first|omega|(simp only [List.length_cons,List.length_nil] at *;omega)
   ·rw [List.take_of_length_le (by omega)] at q2
    (repeat' ((conv=>whnf);first|refine vA ?_|(refine vF ?_ ?_<;>intro hc<;>try simp only [vL] at hc)|refine vJ fun hg=>?_|refine vT ?_));all_goals try conv=>whnf
    ·exfalso;first|omega|(simp only [List.length_cons,List.length_nil] at *;omega)
    ·rw [← q2]
     refine ⟨trivial,_,[(0,3),(1,4),(2,5)],[],rfl,.inl (by (repeat' first|exact rfl|refine And.intro ?_ ?_|refine ⟨_,rfl,?_⟩)),⟨by rfl,by rfl,by rfl,trivial,by (repeat' first|exact trivial|exact rfl|refine And.intro ?_ ?_|refine ⟨_,rfl,?_⟩|exact of_decide_eq_true rfl)⟩,by (repeat' exact trivial)⟩
  ·dsimp only [List.length] at q1 q2
   by_cases hkl:2 < m.rel.length
   ·obtain ⟨r,hx0⟩ : ∃ x,m.rel[2]? = some x:=⟨_,List.getElem?_eq_getElem (by omega)⟩
    have hrl:=hr r (List.mem_of_getElem? hx0)
    (repeat' ((conv=>whnf);first|refine vA ?_|(refine vF ?_ ?_<;>intro hc<;>try simp only [vL] at hc)|refine vJ fun hg=>?_|refine vT ?_));all_goals try conv=>whnf
    ·refine zy (fun ((j,R):Nat×List D)=>[(1,.ptr 0 0),(2,.ptr 1 0),(3,.ptr 2 0),(5,.d (.int .i64 (((2:Nat):Int)))),(6,.own 9),(7,.d (.int .i64 ((j:Int))))]) (fun ((j,R):Nat×List D)=>[(0,some (zaH m)),(1,some (.box [.d (.int .i64 0),.nils 1,.nils 1])),(2,some (.box [.d (.int .i64 m.W),.own 3,.bown 4 2])),(3,some (.row 1 (m.val.map D.u64))),(4,some (.box [.own 5,.own 6])),(5,some (.row 1 a)),(6,some (.row 1 b)),(9,some (.row 1 R))]) 10 (fun ((j,R):Nat×List D)=>j≤r.length∧R=(r.take j).map D.u64) (fun ((j,R):Nat×List D)=>r.length - j) ((0,[])) [(0,0),(1,1),(2,2),(3,3),(4,4),(5,5),(6,6)]   [9] (⟨by omega,rfl⟩) (by (refine ⟨rfl,rfl,rfl,?_,?_⟩;repeat' first|exact trivial|exact rfl|exact ⟨_,rfl⟩|refine And.intro ?_ ?_|refine ⟨_,rfl,?_⟩|decide)) ?_
     rintro ⟨j,R⟩ ⟨j1,j2⟩
     have hR:R.length≤64:=by rw [j2,List.length_map,List.length_take];omega
     (repeat' ((conv=>whnf);first|refine vA ?_|(refine vF ?_ ?_<;>intro hc<;>try simp only [vL] at hc)|refine vJ fun hg=>?_|refine zfb.other ?_|refine vN ‹_› ?_|(refine vQ ?_ fun x hx=>?_;·omega)|((first|refine vO ?_ ?_|refine vP ?_ ?_);·first|omega|(simp only [vM] at *;omega))|fail));all_goals try conv=>whnf
     ·refine ⟨(j+1,R++[D.u64 x]),[(0,0),(1,1),(2,2),(3,3),(4,4),(5,5),(6,6),(9,11)],[],?_,?_,by (refine ⟨rfl,rfl,rfl,?_,?_⟩;repeat' first|exact trivial|exact rfl|refine And.intro ?_ ?_|refine ⟨_,rfl,?_⟩|decide)⟩
      ·exact ⟨by (omega),by rw [zcb hx,List.map_append,← j2];rfl⟩
      ·((simp only [vM] at *;omega))
     ·rw [List.take_of_length_le (by omega)] at j2
      refine ⟨(3,[a,b,R]),[(0,0),(1,1),(2,2),(3,3),(4,11),(5,5),(6,6),(7,9)],[],?_,?_,by (refine ⟨rfl,rfl,rfl,?_,?_⟩;repeat' first|exact trivial|exact rfl|refine And.intro ?_ ?_|refine ⟨_,rfl,?_⟩|decide)⟩
      ·exact ⟨by omega,rfl,by rw [zcb hx0,zf7,List.map_append,← zf7,← q2,j2];rfl⟩
      ·((simp only [vM] at *;omega))
    ·exfalso;first|omega|(simp only [List.length_cons,List.length_nil] at *;omega)
   ·rw [List.take_of_length_le (by omega)] at q2
    (repeat' ((conv=>whnf);first|refine vA ?_|(refine vF ?_ ?_<;>intro hc<;>try simp only [vL] at hc)|refine vJ fun hg=>?_|refine vT ?_));all_goals try conv=>whnf
    ·exfalso;first|omega|(simp only [List.length_cons,List.length_nil] at *;omega)
    ·rw [← q2]
     refine ⟨trivial,_,[(0,3),(1,4),(2,5),(3,6)],[],rfl,.inl (by (repeat' first|exact rfl|refine And.intro ?_ ?_|refine ⟨_,rfl,?_⟩)),⟨by rfl,by rfl,by rfl,trivial,by (repeat' first|exact trivial|exact rfl|refine And.intro ?_ ?_|refine ⟨_,rfl,?_⟩|exact of_decide_eq_true rfl)⟩,by (repeat' exact trivial)⟩
  ·dsimp only [List.length] at q1 q2
   by_cases hkl:3 < m.rel.length
   ·obtain ⟨r,hx0⟩ : ∃ x,m.rel[3]? = some x:=⟨_,List.getElem?_eq_getElem (by omega)⟩
    have hrl:=hr r (List.mem_of_getElem? hx0)
    (repeat' ((conv=>whnf);first|refine vA ?_|(refine vF ?_ ?_<;>intro hc<;>try simp only [vL] at hc)|refine vJ fun hg=>?_|refine vT ?_));all_goals try conv=>whnf
    ·refine zy (fun ((j,R):Nat×List D)=>[(1,.ptr 0 0),(2,.ptr 1 0),(3,.ptr 2 0),(5,.d (.int .i64 (((3:Nat):Int)))),(6,.own 9),(7,.d (.int .i64 ((j:Int))))]) (fun ((j,R):Nat×List D)=>[(0,some (zaH m)),(1,some (.box [.d (.int .i64 0),.nils 1,.nils 1])),(2,some (.box [.d (.int .i64 m.W),.own 3,.bown 4 3])),(3,some (.row 1 (m.val.map D.u64))),(4,some (.box [.own 5,.own 6,.own 7])),(5,some (.row 1 a)),(6,some (.row 1 b)),(7,some (.row 1 c)),(9,some (.row 1 R))]) 10 (fun ((j,R):Nat×List D)=>j≤r.length∧R=(r.take j).map D.u64) (fun ((j,R):Nat×List D)=>r.length - j) ((0,[])) [(0,0),(1,1),(2,2),(3,3),(4,4),(5,5),(6,6),(7,7)]   [9] (⟨by omega,rfl⟩) (by (refine ⟨rfl,rfl,rfl,?_,?_⟩;repeat' first|exact trivial|exact rfl|exact ⟨_,rfl⟩|refine And.intro ?_ ?_|refine ⟨_,rfl,?_⟩|decide)) ?_
     rintro ⟨j,R⟩ ⟨j1,j2⟩
     have hR:R.length≤64:=by rw [j2,List.length_map,List.length_take];omega
     (repeat' ((conv=>whnf);first|refine vA ?_|(refine vF ?_ ?_<;>intro hc<;>try simp only [vL] at hc)|refine vJ fun hg=>?_|refine zfb.other ?_|refine vN ‹_› ?_|(refine vQ ?_ fun x hx=>?_;·omega)|((first|refine vO ?_ ?_|refine vP ?_ ?_);·first|omega|(simp only [vM] at *;omega))|fail));all_goals try conv=>whnf
     ·refine ⟨(j+1,R++[D.u64 x]),[(0,0),(1,1),(2,2),(3,3),(4,4),(5,5),(6,6),(7,7),(9,11)],[],?_,?_,by (refine ⟨rfl,rfl,rfl,?_,?_⟩;repeat' first|exact trivial|exact rfl|refine And.intro ?_ ?_|refine ⟨_,rfl,?_⟩|decide)⟩
      ·exact ⟨by (omega),by rw [zcb hx,List.map_append,← j2];rfl⟩
      ·((simp only [vM] at *;omega))
     ·rw [List.take_of_length_le (by omega)] at j2
      refine ⟨(4,[a,b,c,R]),[(0,0),(1,1),(2,2),(3,3),(4,11),(5,5),(6,6),(7,7),(8,9)],[],?_,?_,by (refine ⟨rfl,rfl,rfl,?_,?_⟩;repeat' first|exact trivial|exact rfl|refine And.intro ?_ ?_|refine ⟨_,rfl,?_⟩|decide)⟩
      ·exact ⟨by omega,rfl,by rw [zcb hx0,zf7,List.map_append,← zf7,← q2,j2];rfl⟩
      ·((simp only [vM] at *;omega))
    ·exfalso;first|omega|(simp only [List.length_cons,List.length_nil] at *;omega)
   ·rw [List.take_of_length_le (by omega)] at q2
    (repeat' ((conv=>whnf);first|refine vA ?_|(refine vF ?_ ?_<;>intro hc<;>try simp only [vL] at hc)|refine vJ fun hg=>?_|refine vT ?_));all_goals try conv=>whnf
    ·exfalso;first|omega|(simp only [List.length_cons,List.length_nil] at *;omega)
    ·rw [← q2]
     refine ⟨trivial,_,[(0,3),(1,4),(2,5),(3,6),(4,7)],[],rfl,.inl (by (repeat' first|exact rfl|refine And.intro ?_ ?_|refine ⟨_,rfl,?_⟩)),⟨by rfl,by rfl,by rfl,trivial,by (repeat' first|exact trivial|exact rfl|refine And.intro ?_ ?_|refine ⟨_,rfl,?_⟩|exact of_decide_eq_true rfl)⟩,by (repeat' exact trivial)⟩
  ·dsimp only [List.length] at q1 q2
   rw [List.take_of_length_le (by omega)] at q2
   (repeat' ((conv=>whnf);first|refine vA ?_|(refine vF ?_ ?_<;>intro hc<;>try simp only [vL] at hc)|refine vJ fun hg=>?_|refine vT ?_));all_goals try conv=>whnf
   ·exfalso;first|omega|(simp only [List.length_cons,List.length_nil] at *;omega)
   ·rw [← q2]
    refine ⟨trivial,_,[(0,3),(1,4),(2,5),(3,6),(4,7),(5,8)],[],rfl,.inl (by (repeat' first|exact rfl|refine And.intro ?_ ?_|refine ⟨_,rfl,?_⟩)),⟨by rfl,by rfl,by rfl,trivial,by (repeat' first|exact trivial|exact rfl|refine And.intro ?_ ?_|refine ⟨_,rfl,?_⟩|exact of_decide_eq_true rfl)⟩,by (repeat' exact trivial)⟩
  ·exfalso;simp only [List.length_cons] at q1;omega
end Go.Ab
namespace Go.Ab
open Go Go.Proofs
set_option maxRecDepth 10000
set_option maxHeartbeats 4000000
variable {T:Nat→Obj→Prop}
set_option maxRecDepth 1000000 in
theorem zuG:evF zA3 60 zdG [] []=some (.d (.bool true),[]):=by kernel_rfl
theorem zBX (hT:zcl T):Fn Tryd.prog T zdG [] [] (.d (.bool true)) []:=zen zk (zzZ hT) 60 _ _ _ _ _ zuG
end Go.Ab
