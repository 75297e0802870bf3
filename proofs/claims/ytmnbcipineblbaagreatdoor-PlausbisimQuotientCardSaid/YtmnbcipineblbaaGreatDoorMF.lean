/- A part of the proofs of this seat: functions and their contracts. -/
import Derived.Test.YtmnbcipineblbaaGreatDoorME
set_option linter.unusedVariables false
set_option linter.unusedSimpArgs false
set_option linter.unusedSectionVars false
namespace Go.Ab
open Go Go.Proofs
theorem zjB {r:List (BitVec 64)} (hl:r.length≤64) (hi:zid r) (w v:Nat):zgn r (zbz r) w v=cmp r w v:=by
 unfold zgn cmp
 rw [zpS hl]
 cases hb:rb r v w with
 | false=>simp
 | true=>simp [zqT hb,hi v w hb]
theorem zCq {r:List (BitVec 64)} (hr:zaz r=0) (hc:zft r (zbz r)=true):zfm r:=by
 obtain ⟨h1,h2⟩:=zbE.1 hr
 obtain ⟨h3,h4,h5⟩:=zmU.1 hc
 have g3 : ∀ w,w < r.length→rb r w w=true:=by
  rcases h3.2 with h|h|h|h|h
  ·exact absurd h.1 (by decide)
  ·exact h.2
  ·exact absurd h.1 (by decide)
  ·exact absurd h.1 (by decide)
  ·exact absurd h.1 (by decide)
 have g4 : ∀ w u v,rb r w u=true→rb r u v=true→rb r w v=true:=by
  rcases h4.2 with h|h|h|h|h
  ·exact absurd h.1 (by decide)
  ·exact absurd h.1 (by decide)
  ·exact absurd h.1 (by decide)
  ·exact h.2
  ·exact absurd h.1 (by decide)
 refine ⟨h1,h2,g3,g4,fun w v i ha hb=>?_⟩
 have hw:w < r.length∧v < r.length:=by
  simp only [cmp,Bool.or_eq_true] at ha
  rcases ha with ha|ha
  ·exact ⟨zqT ha,h2 _ _ ha⟩
  ·exact ⟨h2 _ _ ha,zqT ha⟩
 have:=h5 w hw.1 v hw.2 (by rw [zjB h1 h2];exact ha) i (by rw [zjB h1 h2];exact hb)
 rwa [zjB h1 h2] at this
theorem zvP {r:List (BitVec 64)} (h:zfm r):zft r (zbz r)=true:=by
 have hr:=zbE.2 ⟨h.len,h.ins⟩
 refine zmU.2 ⟨⟨hr,.inr (.inl ⟨rfl,h.refl⟩)⟩,⟨hr,.inr (.inr (.inr (.inl ⟨rfl,h.tr⟩)))⟩,fun w hw v hv ha i hb=>?_⟩
 rw [zjB h.len h.ins] at ha hb ⊢
 exact h.conn w v i ha hb
def zfS (r:List (BitVec 64)) (w:Nat):Nat:=Lib.ctz 64 (uAt r w|||uAt (zbz r) w).toNat
namespace zfm
variable {r:List (BitVec 64)} (h:zfm r)
include h
theorem low_spec {w:Nat} (hw:w < r.length):zfS r w < r.length∧cmp r w (zfS r w)=true ∧ ∀ i,cmp r w i=true→zfS r w≤i:=by
 have hb : ∀ i,(uAt r w|||uAt (zbz r) w).getLsbD i=cmp r w i:=fun i=>by
  rw [BitVec.getLsbD_or,zot,zot]
  exact zjB h.len h.ins w i
 have hne:uAt r w|||uAt (zbz r) w≠0#64:=fun e=>by
  have:=hb w
  rw [e,h.cmp_refl hw] at this
  simp at this
 obtain ⟨h1,h2,h3,-⟩:=zv2 _ hne
 have h4:cmp r w (zfS r w)=true:=(hb _).symm.trans h2
 refine ⟨(h.cmp_lt h4).2,h4,fun i hi=>?_⟩
 apply Classical.byContradiction
 intro hn
 have:=h3 i (by show i < zfS r w;omega)
 rw [hb,hi] at this;cases this
theorem low_eq {w v:Nat} (hw:w < r.length) (hv:v < r.length):zfS r w=zfS r v↔cmp r w v=true:=by
 obtain ⟨a1,a2,a3⟩:=h.low_spec hw
 obtain ⟨b1,b2,b3⟩:=h.low_spec hv
 constructor
 ·intro e
  rw [← e,zk4] at b2
  exact h.cmp_tr a2 b2
 ·intro hc
  have h1:=b3 _ (h.cmp_tr (by rw [zk4];exact hc) a2)
  have h2:=a3 _ (h.cmp_tr hc b2)
  omega
theorem low_le {w:Nat} (hw:w < r.length):zfS r w≤w:=(h.low_spec hw).2.2 w (h.cmp_refl hw)
theorem low_low {w:Nat} (hw:w < r.length):zfS r (zfS r w)=zfS r w:=by
 obtain ⟨a1,a2,a3⟩:=h.low_spec hw
 exact (h.low_eq a1 hw).2 (by rw [zk4];exact a2)
end zfm
theorem ze0 {r:List (BitVec 64)} : (zcX r).length=r.length:=by simp [zcX]
theorem znQ {r:List (BitVec 64)} : (zdn r).length=r.length:=by simp [zdn]
theorem zcy {r:List (BitVec 64)} {w:Nat} (hw:w < r.length):at0 (zcX r) w=(zfS r w:Int):=zy (by simp [zcX,hw,zfS])
theorem zdP {r:List (BitVec 64)} {w:Nat} (hw:w < r.length):at0 (zdn r) w=(rk r w:Int):=zy (by simp [zdn,hw,rk])
theorem zBh {r:List (BitVec 64)} (h:zfm r):zp2 (zcX r):=by
 intro w hw
 rw [ze0] at hw
 have h1:=h.low_le hw
 rw [zcy hw]
 refine ⟨by omega,by omega,?_⟩
 rw [Int.toNat_natCast,zcy (by omega),h.low_low hw]
theorem zAy {r:List (BitVec 64)} (h:zfm r):zjn (zcX r) (zdn r):=by
 intro w hw
 rw [ze0] at hw
 rw [zdP hw]
 refine ⟨by omega,?_⟩
 rcases h.rk_gap hw with h1|⟨v,h1,h2⟩
 ·left;omega
 ·right
  have hv:=h.ins _ _ h1
  refine ⟨v,by rw [ze0];exact hv,?_,?_⟩
  ·rw [zcy hv,zcy hw]
   exact congrArg Int.ofNat ((h.low_eq hv hw).2 (by simp [cmp,h1]))
  ·rw [zdP hv];omega
theorem zbA {p:PM} {a:Nat} : (zW p a).length=p.W.toNat:=by simp [zW]
theorem zBI {p:PM} {a:Nat} (hW:p.W≤64) {w v:Nat} : rb (zW p a) w v=(decide (w < p.W.toNat)&&decide (v < p.W.toNat)&&(at0 (za p.cell a) v==at0 (za p.cell a) w)&&decide (at0 (za p.rank a) v≤at0 (za p.rank a) w)):=by
 by_cases hw:w < p.W.toNat
 ·have:(zW p a)[w]? = some (zbr (za p.cell a) (za p.rank a) w p.W.toNat):=by simp [zW,hw]
  rw [zaO this,zbr,zff]
  by_cases hv:v < p.W.toNat
  ·simp [hw,hv,show v < 64 by omega]
  ·simp [hv]
 ·rw [zkl (by rw [zbA];omega)];simp [hw]
theorem zbf {p:PM} {a:Nat} (hW:p.W≤64) {w v:Nat} : rb (zW p a) w v=true↔w < p.W.toNat∧v < p.W.toNat∧at0 (za p.cell a) v=at0 (za p.cell a) w∧at0 (za p.rank a) v≤at0 (za p.rank a) w:=by
 rw [zBI hW]
 simp only [Bool.and_eq_true,decide_eq_true_eq,beq_iff_eq,and_assoc]
theorem zin {p:PM} {a:Nat} (hW:p.W≤64) {w v:Nat} : cmp (zW p a) w v=true↔w < p.W.toNat∧v < p.W.toNat∧at0 (za p.cell a) v=at0 (za p.cell a) w:=by
 unfold cmp
 rw [Bool.or_eq_true,zbf hW,zbf hW]
 constructor
 ·rintro (⟨h1,h2,h3,-⟩|⟨h1,h2,h3,-⟩)
  ·exact ⟨h1,h2,h3⟩
  ·exact ⟨h2,h1,h3.symm⟩
 ·rintro ⟨h1,h2,h3⟩
  rcases Int.le_total (at0 (za p.rank a) v) (at0 (za p.rank a) w) with h|h
  ·exact .inl ⟨h1,h2,h3,h⟩
  ·exact .inr ⟨h2,h1,h3.symm,h⟩
theorem zlO {p:PM} {a:Nat} (hW:p.W≤64):zfm (zW p a) where
 len:=by rw [zbA];omega
 ins w v h:=by rw [zbA];exact ((zbf hW).1 h).2.1
 refl w h:=(zbf hW).2 ⟨by rwa [zbA] at h,by rwa [zbA] at h,rfl,Int.le_refl _⟩
 tr w u v h1 h2:=by
  rw [zbf hW] at h1 h2 ⊢
  exact ⟨h1.1,h2.2.1,h2.2.2.1.trans h1.2.2.1,Int.le_trans h2.2.2.2 h1.2.2.2⟩
 conn w v i h1 h2:=by
  rw [zin hW] at h1 h2 ⊢
  exact ⟨h1.2.1,h2.2.1,h2.2.2.trans h1.2.2.symm⟩
theorem zqR {K:Nat→Prop} {f g:Nat→Int} (f0 : ∀ w,K w→0≤f w) (g0 : ∀ w,K w→0≤g w) (hf : ∀ w,K w→f w=0 ∨ ∃ v,K v∧f v=f w - 1) (hg : ∀ w,K w→g w=0 ∨ ∃ v,K v∧g v=g w - 1)
  (ho : ∀ w v,K w→K v→(f v≤f w↔g v≤g w)) : ∀ (n:Nat) (w:Nat),K w→(f w).toNat=n→f w=g w
 | 0,w,hw,hn=>by
  have h1:=f0 w hw
  have h2:=g0 w hw
  rcases hg w hw with h|⟨v,hv,h⟩
  ·omega
  ·have h3:=f0 v hv
   have h4:=(ho v w hv hw).1 (by omega)
   omega
 | n+1,w,hw,hn=>by
  have h2:=g0 w hw
  rcases hf w hw with h|⟨v,hv,h⟩
  ·omega
  ·have ih:=zqR f0 g0 hf hg ho n v hv (by omega)
   have h3 : ¬ g w≤g v:=fun hh=>by
    have:=(ho v w hv hw).2 hh
    omega
   rcases hg w hw with h4|⟨u,hu,h4⟩
   ·have:=g0 v hv;omega
   ·have h5 : ¬ f w≤f u:=fun hh=>by
     have:=(ho u w hu hw).1 hh
     omega
    have h6:=(ho v u hv hu).1 (by omega)
    omega
theorem zug {l l':List Int} (hl:l.length=l'.length) (h : ∀ i,i < l.length→at0 l i=at0 l' i):l=l':=by
 refine List.ext_getElem hl fun i h1 h2=>?_
 have:=h i h1
 simp only [at0,List.getD,List.getElem?_eq_getElem h1,List.getElem?_eq_getElem h2,Option.getD_some] at this
 exact this
theorem zxN {p:PM} (hg:zrb p) {a:Nat} (ha:a < p.cell.length):zcX (zW p a)=za p.cell a:=by
 obtain ⟨hl,hl'⟩:=hg.lens a ha
 have hW:=hg.w2
 have hP:=zlO (a:=a) hW
 have hc:=hg.cells a ha
 refine zug (by rw [ze0,zbA];omega) fun w hw=>?_
 rw [ze0] at hw
 rw [zcy hw]
 obtain ⟨h1,h2,h3⟩:=hP.low_spec hw
 rw [zbA] at hw h1
 rw [zin hW] at h2
 obtain ⟨c1,c2,c3⟩:=hc w (by omega)
 have h4:=h3 (at0 (za p.cell a) w).toNat ((zin hW).2 ⟨hw,by omega,c3⟩)
 obtain ⟨d1,d2,d3⟩:=hc _ (show zfS (zW p a) w < (za p.cell a).length by omega)
 rw [h2.2.2] at d2
 omega
theorem zyK {p:PM} (hg:zrb p) {a:Nat} (ha:a < p.cell.length):zdn (zW p a)=za p.rank a:=by
 obtain ⟨hl,hl'⟩:=hg.lens a ha
 have hW:=hg.w2
 have hP:=zlO (a:=a) hW
 have hc:=hg.ranked a ha
 refine zug (by rw [znQ,zbA];omega) fun w hw=>?_
 rw [znQ] at hw
 rw [zdP hw]
 have hw':=hw
 rw [zbA] at hw'
 refine zqR (K:=fun v=>v < p.W.toNat∧at0 (za p.cell a) v=at0 (za p.cell a) w) (f:=fun v=>(rk (zW p a) v:Int)) (g:=fun v=>at0 (za p.rank a) v) ?_ ?_ ?_ ?_ ?_ _ w ⟨hw',rfl⟩ rfl
 ·intro v hv;exact Int.natCast_nonneg _
 ·intro v hv;exact (hc v (by omega)).1
 ·intro v hv
  rcases hP.rk_gap (w:=v) (by rw [zbA];exact hv.1) with h|⟨u,h1,h2⟩
  ·left;show (rk (zW p a) v:Int)=0;omega
  ·right
   rw [zbf hW] at h1
   exact ⟨u,⟨h1.2.1,h1.2.2.1.trans hv.2⟩,by show (rk (zW p a) u:Int)=rk (zW p a) v - 1;omega⟩
 ·intro v hv
  obtain ⟨-,h⟩:=hc v (by omega)
  refine h.imp_right fun ⟨u,h1,h2,h3⟩=>⟨u,⟨by omega,h2.trans hv.2⟩,h3⟩
 ·intro v u hv hu
  show (rk (zW p a) u:Int)≤rk (zW p a) v↔_
  rw [Int.ofNat_le,hP.rk_iff ((zin hW).2 ⟨hv.1,hu.1,hu.2.trans hv.2.symm⟩),zbf hW]
  exact ⟨fun h=>h.2.2.2,fun h=>⟨hv.1,hu.1,hu.2.trans hv.2.symm,h⟩⟩
theorem zuE {n:Int} {r:List (BitVec 64)} : zjj n r=0↔0≤n∧n≤64∧(r.length:Int)=n∧zid r:=by
 constructor
 ·intro h
  obtain ⟨h1,h2⟩:=zry h
  obtain ⟨h3,h4⟩:=zbE.1 h2
  exact ⟨by omega,by omega,h1,h4⟩
 ·rintro ⟨h1,h2,h3,h4⟩
  have:=zbE.2 ⟨by omega,h4⟩
  unfold zaz at this
  rw [if_neg (by omega)] at this
  unfold zjj
  rw [if_neg (by omega),if_neg (by omega),← h3]
  exact this
theorem zqP {α:Type} {l:List α} {f:Nat→α} {z:α} (h : ∀ a,a < l.length→f a=l.getD a z):(List.range l.length).map f=l:=by
 refine List.ext_getElem (by simp) fun i h1 h2=>?_
 have:=h i h2
 simp only [List.getElem_map,List.getElem_range,this,List.getD,List.getElem?_eq_getElem h2,Option.getD_some]
theorem zAm {p:PM} (hg:zrb p) (hs:z6 p.W p.cell.length p.val=0):zgA p.W p.val ((List.range p.cell.length).map (zW p))=(p,0):=by
 have h1:=hg.w1
 have h2:=hg.w2
 have hr : ∀ a,zjj p.W (zW p a)=0:=fun a=>zuE.2 ⟨by omega,h2,by rw [zbA];omega,(zlO h2).ins⟩
 unfold zgA
 rw [List.length_map,List.length_range,if_neg (not_not_intro hs),if_neg,if_neg]
 ·rw [List.map_map,List.map_map]
  have e1:(List.range p.cell.length).map (zcX∘zW p)=p.cell:=zqP (z:=[]) fun a ha=>zxN hg ha
  have e2:(List.range p.cell.length).map (zdn∘zW p)=p.rank:=by
   rw [← hg.len];exact zqP (z:=[]) fun a ha=>zyK hg (by rw [← hg.len];exact ha)
  rw [e1,e2]
 ·rw [List.any_map,List.any_eq_true]
  rintro ⟨a,-,ha⟩
  simp [zvP (zlO (p:=p) (a:=a) h2)] at ha
 ·rw [List.any_map,List.any_eq_true]
  rintro ⟨a,-,ha⟩
  simp [hr a] at ha
theorem zxo {p:PM} (h:zm p=0):z6 p.W p.cell.length p.val=0:=by
 unfold zm at h
 split at h
 ·rename_i h0;exact absurd h h0
 ·rename_i h0;exact Classical.not_not.1 h0
theorem zv4 {W:Int} {val:List (BitVec 64)} {acc:List (List (BitVec 64))} {s:PM} (h:zgA W val acc=(s,0)) :
  z6 W acc.length val=0∧(∀ r∈acc,(r.length:Int)=W∧zfm r)∧s=⟨W,val,acc.map zcX,acc.map zdn⟩:=by
 unfold zgA at h
 split at h
 ·rename_i h0;exact absurd (congrArg Prod.snd h) h0
 ·rename_i h0
  split at h
  ·exact absurd (congrArg Prod.snd h) (by show ¬(3:Int)=0;decide)
  ·split at h
   ·exact absurd (congrArg Prod.snd h) (by show ¬(12:Int)=0;decide)
   ·rename_i h1 h2
    refine ⟨Classical.not_not.1 h0,fun r hr=>?_,(congrArg Prod.fst h).symm⟩
    have h3:zjj W r=0:=by
     apply Classical.byContradiction
     intro hn
     exact h1 (List.any_eq_true.2 ⟨r,hr,decide_eq_true hn⟩)
    obtain ⟨h4,h5⟩:=zry h3
    refine ⟨h4,zCq h5 ?_⟩
    apply Classical.byContradiction
    intro hn
    exact h2 (List.any_eq_true.2 ⟨r,hr,by simpa using hn⟩)
theorem zd9 {α:Type} {l:List α} {f:α→List Int} {a:Nat} {x:α} (h:l[a]? = some x):za (l.map f) a=f x:=zak (by rw [List.getElem?_map,h];rfl)
theorem zzQ {p:PM} (h0:z6 p.W p.cell.length p.val=0) (h1:p.rank.length=p.cell.length) (h2:zkx p) (h3:zdL p) (h4:zg1 p):zm p=0:=by
 unfold zm
 rw [if_neg (not_not_intro h0),if_neg (not_not_intro h1),if_neg (not_not_intro h2),if_neg (not_not_intro h3),if_neg (not_not_intro h4)]
theorem zyD {W:Int} {val:List (BitVec 64)} {acc:List (List (BitVec 64))} {s:PM} (h:zgA W val acc=(s,0)):zm s=0 ∧ ∀ a r,acc[a]? = some r→zW s a=r:=by
 obtain ⟨h1,h2,rfl⟩:=zv4 h
 obtain ⟨w1,w2,-⟩:=zi3 h1
 refine ⟨zzQ (by rw [List.length_map];exact h1) (by rw [List.length_map,List.length_map]) ?_ ?_ ?_,fun a r hr=>?_⟩
 ·intro a ha
  rw [List.length_map] at ha
  have hx:=List.getElem?_eq_getElem ha
  obtain ⟨h3,h4⟩:=h2 _ (List.mem_of_getElem? hx)
  rw [zd9 hx,zd9 hx,ze0,znQ]
  exact ⟨h3,h3⟩
 ·intro a ha
  rw [List.length_map] at ha
  have hx:=List.getElem?_eq_getElem ha
  rw [zd9 hx]
  exact zBh (h2 _ (List.mem_of_getElem? hx)).2
 ·intro a ha
  rw [List.length_map] at ha
  have hx:=List.getElem?_eq_getElem ha
  rw [zd9 hx,zd9 hx]
  exact zAy (h2 _ (List.mem_of_getElem? hx)).2
 ·obtain ⟨h3,h4⟩:=h2 r (List.mem_of_getElem? hr)
  refine zv9 (by rw [zbA];show W.toNat=_;omega) fun w v hw=>?_
  rw [zbA] at hw
  replace hw:w < W.toNat:=hw
  rw [Bool.eq_iff_iff,zbf w2]
  show w < W.toNat∧v < W.toNat∧at0 (za (acc.map zcX) a) v=at0 (za (acc.map zcX) a) w∧at0 (za (acc.map zdn) a) v≤at0 (za (acc.map zdn) a) w↔_
  rw [zd9 hr,zd9 hr]
  constructor
  ·rintro ⟨-,hv,a1,a2⟩
   rw [zcy (by omega),zcy (by omega)] at a1
   rw [zdP (by omega),zdP (by omega)] at a2
   have hc:=(h4.low_eq (w:=w) (v:=v) (by omega) (by omega)).1 (by omega)
   exact (h4.rk_iff hc).1 (by omega)
  ·intro hb
   have hv:=h4.ins _ _ hb
   have hc:cmp r w v=true:=by simp [cmp,hb]
   refine ⟨hw,by omega,?_,?_⟩
   ·rw [zcy hv,zcy (by omega),(h4.low_eq (by omega) hv).2 hc]
   ·rw [zdP hv,zdP (by omega)]
    exact Int.ofNat_le.2 (h4.rk_mono hb)
end Go.Ab
namespace Go.Ab
open Go
theorem zxe {x:BitVec 64} {k i:Nat} (hk:k < 64):(x|||1#64 <<< k).getLsbD i=true↔x.getLsbD i=true∨i=k:=by
 rw [BitVec.getLsbD_or,Bool.or_eq_true,zvK]
 constructor
 ·rintro (h|h)
  ·exact .inl h
  ·simp at h;exact .inr h.2
 ·rintro (h|rfl)
  ·exact .inl h
  ·exact .inr (by simp [hk])
theorem zbT {q:Nat→Nat} {s:BitVec 64} {b:Nat} : ∀ k,(∀ w,w < k→q w < 64)→((zZ q s k).getLsbD b=true ↔ ∃ w,w < k∧s.getLsbD w=true∧q w=b)
 | 0,_=>by simp [zZ]
 | k+1,h=>by
  have ih:=zbT (q:=q) (s:=s) (b:=b) k fun w hw=>h w (by omega)
  rw [ziP]
  split
  ·rename_i hs
   rw [zxe (h k (by omega)),ih]
   constructor
   ·rintro (⟨w,h1,h2⟩|rfl)
    ·exact ⟨w,by omega,h2⟩
    ·exact ⟨k,by omega,hs,rfl⟩
   ·rintro ⟨w,h1,h2,h3⟩
    by_cases e:w=k
    ·subst e;exact .inr h3.symm
    ·exact .inl ⟨w,by omega,h2,h3⟩
  ·rename_i hs
   rw [ih]
   constructor
   ·rintro ⟨w,h1,h2⟩;exact ⟨w,by omega,h2⟩
   ·rintro ⟨w,h1,h2,h3⟩
    by_cases e:w=k
    ·subst e;exact absurd h2 hs
    ·exact ⟨w,by omega,h2,h3⟩
def zbu (l:List (BitVec 64)) (w:Nat):Nat→Nat
 | 0=>0
 | k+1=>zbu l w k+if (l.getD k 0#64).getLsbD w=true then 2 ^ k else 0
theorem zpu (l:List (BitVec 64)) (w:Nat) : ∀ k,zbu l w k < 2 ^ k
 | 0=>by simp [zbu]
 | k+1=>by
  have:=zpu l w k
  have h2:=Nat.two_pow_pos k
  rw [zbu,Nat.pow_succ]
  split<;>omega
theorem zhl (l:List (BitVec 64)) (w:Nat) {i:Nat} : ∀ k,(zbu l w k).testBit i=true↔i < k∧(l.getD i 0#64).getLsbD w=true
 | 0=>by simp [zbu]
 | k+1=>by
  have hlt:=zpu l w k
  have ih:=zhl l w (i:=i) k
  have e:zbu l w (k+1)=2 ^ k * (if (l.getD k 0#64).getLsbD w=true then 1 else 0)+zbu l w k:=by
   rw [zbu];split<;>omega
  rw [e,Nat.testBit_two_pow_mul_add _ hlt]
  by_cases h:i < k
  ·rw [if_pos h,ih]
   exact ⟨fun ⟨a,b⟩=>⟨by omega,b⟩,fun ⟨a,b⟩=>⟨h,b⟩⟩
  ·rw [if_neg h]
   by_cases h2:i=k
   ·subst h2
    rw [Nat.sub_self]
    split
    ·rename_i hb;exact ⟨fun _=>⟨by omega,hb⟩,fun _=>by decide⟩
    ·rename_i hb;exact ⟨fun h=>by simp at h,fun h=>absurd h.2 hb⟩
   ·constructor
    ·intro h3
     exfalso
     obtain ⟨m,hm⟩ : ∃ m,i - k=m+1:=⟨i - k - 1,by omega⟩
     rw [hm,Nat.testBit_succ] at h3
     split at h3<;>simp at h3
    ·rintro ⟨a,-⟩;omega
def zeg (p:PM) (w:Nat):Nat:=zbu p.val w p.val.length
theorem zpw {p:PM} {v w:Nat} : zeg p v=zeg p w ↔ ∀ i,(p.val.getD i 0#64).getLsbD v=true↔(p.val.getD i 0#64).getLsbD w=true:=by
 constructor
 ·intro h i
  by_cases hi:i < p.val.length
  ·have a:=zhl p.val v (i:=i) p.val.length
   have b:=zhl p.val w (i:=i) p.val.length
   rw [show zbu p.val v p.val.length=zbu p.val w p.val.length from h] at a
   exact ⟨fun hv=>(b.1 (a.2 ⟨hi,hv⟩)).2,fun hw=>(a.1 (b.2 ⟨hi,hw⟩)).2⟩
  ·have:p.val.getD i 0#64=0#64:=by rw [List.getD,List.getElem?_eq_none (by omega)];rfl
   rw [this];simp
 ·intro h
  refine Nat.eq_of_testBit_eq fun i=>?_
  rw [Bool.eq_iff_iff]
  unfold zeg
  rw [zhl,zhl,h i]
def zs2 (p:PM):Nat→Nat:=zV (zew (zeg p))
def wkB (p:PM) (a w:Nat):BitVec 64:=uAt (zW p a) w
def zbF (p:PM):List (Nat→BitVec 64):=(List.range p.cell.length).flatMap fun (a:Nat)=>[fun (w:Nat)=>zaC p (a:Int) (w:Int),fun w=>wkB p a w]
def zaA (p:PM) (k:Nat):Nat→Nat:=zbl p.W.toNat (zbF p) (zs2 p) k
theorem zdv (p:PM) (n:Nat):zdM n (zs2 p):=zpF (zlI _) n
theorem zf3 {p:PM} (hc0:zm p=0) {a w i:Nat} (hw:w < p.W.toNat):(wkB p a w).getLsbD i=true↔InC p a w i∧rkA p a i≤rkA p a w:=by
 have h2:=(zz hc0).w2
 show rb (zW p a) w i=true↔_
 rw [zbf h2]
 exact ⟨fun ⟨_,a,b,c⟩=>⟨⟨a,b⟩,c⟩,fun ⟨⟨a,b⟩,c⟩=>⟨hw,a,b,c⟩⟩
theorem zpJ {p:PM} {r:Nat→BitVec 64} : r∈zbF p ↔ ∃ a:Nat,a < p.cell.length∧(r=(fun (w:Nat)=>zaC p (a:Int) (w:Int))∨r=fun w=>wkB p a w):=by
 unfold zbF
 rw [List.mem_flatMap]
 constructor
 ·rintro ⟨a,ha,h⟩
  simp only [List.mem_cons,List.not_mem_nil,or_false] at h
  exact ⟨a,List.mem_range.1 ha,h⟩
 ·rintro ⟨a,ha,h⟩
  exact ⟨a,List.mem_range.2 ha,by simpa using h⟩
structure zig (p:PM) (q:Nat→Nat):Prop where
 canon:zdM p.W.toNat q
 fact : ∀ {v w},v < p.W.toNat→w < p.W.toNat→q v=q w→zeg p v=zeg p w
 rel : ∀ {v w},v < p.W.toNat→w < p.W.toNat→q v=q w → ∀ r∈zbF p,zZ q (r v) p.W.toNat=zZ q (r w) p.W.toNat
theorem zq0 (p:PM) : ∀ (k:Nat) {v w:Nat},v < p.W.toNat→w < p.W.toNat→zaA p k v=zaA p k w→zeg p v=zeg p w
 | 0,v,w,hv,hw,h=>by
  have:=(zka (zlI (zeg p))).1 h
  simpa [zew] using this
 | k+1,v,w,hv,hw,h=>by
  have h1:=zoq (rels:=zbF p) (zgY (rels:=zbF p) (zdv p p.W.toNat) k) hv
  have h2:=zoq (rels:=zbF p) (zgY (rels:=zbF p) (zdv p p.W.toNat) k) hw
  refine zq0 p k hv hw ?_
  show zbl _ _ _ k v=zbl _ _ _ k w
  rw [← h1,← h2]
  exact congrArg _ h
theorem zhP (p:PM) (k:Nat):zdM p.W.toNat (zaA p k):=zgY (zdv p _) k
theorem zuG {p:PM} (hc0:zm p=0) {j:Nat} (hj:p.W.toNat≤j) {w:Nat} (hw:w < p.W.toNat):zaA p j w=zaA p p.W.toNat w :=
 zyo (zdv p _) (by omega) hj hw
theorem zpX {p:PM} (hc0:zm p=0) {j:Nat} (hj:p.W.toNat≤j):zig p (zaA p j) where
 canon:=zhP p j
 fact:=fun hv hw h=>zq0 p j hv hw h
 rel:=fun {v w} hv hw h r hr=>by
  have hs : ∀ {w},w < p.W.toNat→zbR p.W.toNat (zbF p) (zaA p j) w=zaA p j w:=fun {w} hw=>by
   have h1:zaA p (j+1) w=zaA p p.W.toNat w:=zuG hc0 (by omega) hw
   have h2:=zuG hc0 hj hw
   rw [h2,← h1];rfl
  rw [← hs hv,← hs hw] at h
  have h1:=(zka (zfe p.W.toNat (zbF p) (zaA p j))).1 h
  simp only [za3,Bool.and_eq_true,decide_eq_true_eq,List.all_eq_true] at h1
  exact h1.2 r hr
section
variable {p:PM} (hc0:zm p=0) {q:Nat→Nat} (S:zig p q)
include hc0 S
theorem zig.q64 {w:Nat} (hw:w < p.W.toNat):q w < 64:=by
 have:=S.canon.le w hw
 have:=W64 hc0
 omega
theorem zig.cell {a v w u:Nat} (ha:a < p.cell.length) (hv:v < p.W.toNat) (hw:w < p.W.toNat) (h:q v=q w) (hu:InC p a v u) : ∃ u',InC p a w u'∧q u'=q u:=by
 have hr:=S.rel hv hw h _ (zpJ.2 ⟨a,ha,.inl rfl⟩)
 have h1:=(zbT (s:=zaC p (a:Int) (v:Int)) (b:=q u) p.W.toNat fun w hw=>S.q64 hc0 hw).2 ⟨u,hu.1,(zaS hc0 ha hv).2 hu,rfl⟩
 rw [hr] at h1
 obtain ⟨u',h2,h3,h4⟩:=(zbT p.W.toNat fun w hw=>S.q64 hc0 hw).1 h1
 exact ⟨u',(zaS hc0 ha hw).1 h3,h4⟩
theorem zig.weak {a v w u:Nat} (ha:a < p.cell.length) (hv:v < p.W.toNat) (hw:w < p.W.toNat) (h:q v=q w) (hu:InC p a v u) (hr':rkA p a u≤rkA p a v) : ∃ u',InC p a w u'∧rkA p a u'≤rkA p a w∧q u'=q u:=by
 have hr:=S.rel hv hw h _ (zpJ.2 ⟨a,ha,.inr rfl⟩)
 have h1:=(zbT (s:=wkB p a v) (b:=q u) p.W.toNat fun w hw=>S.q64 hc0 hw).2 ⟨u,hu.1,(zf3 hc0 hv).2 ⟨hu,hr'⟩,rfl⟩
 rw [hr] at h1
 obtain ⟨u',h2,h3,h4⟩:=(zbT p.W.toNat fun w hw=>S.q64 hc0 hw).1 h1
 obtain ⟨h5,h6⟩:=(zf3 hc0 hw).1 h3
 exact ⟨u',h5,h6,h4⟩
theorem zig.bis:zib p p (fun v w=>v < p.W.toNat∧w < p.W.toNat∧q v=q w) where
 n:=rfl
 lt h:=⟨h.1,h.2.1⟩
 fact h i:=zpw.1 (S.fact h.1 h.2.1 h.2.2) i
 cf ha h hu:=by
  obtain ⟨u',h1,h2⟩:=S.cell hc0 ha h.1 h.2.1 h.2.2 hu
  exact ⟨u',h1,hu.1,h1.1,h2.symm⟩
 cb ha h hu:=by
  obtain ⟨u',h1,h2⟩:=S.cell hc0 ha h.2.1 h.1 h.2.2.symm hu
  exact ⟨u',h1,h1.1,hu.1,h2⟩
 sf ha h hu hr:=by
  obtain ⟨u',h1,h2,h3⟩:=S.weak hc0 ha h.1 h.2.1 h.2.2 hu hr
  exact ⟨u',h1,h2,hu.1,h1.1,h3.symm⟩
 sb ha h hu hr:=by
  obtain ⟨u',h1,h2,h3⟩:=S.weak hc0 ha h.2.1 h.1 h.2.2.symm hu hr
  exact ⟨u',h1,h2,h1.1,hu.1,h3⟩
end
def zM (n:Nat) (q:Nat→Nat):List Nat:=(List.range n).filter fun w=>decide (q w=w)
theorem zi1 (n:Nat) (q:Nat→Nat):(zM n q).length=zdS n q:=rfl
def z2 (q:Nat→Nat) (w:Nat):Nat:=zdS (q w) q
theorem zuF {q:Nat→Nat} {u:Nat} (hu:q u=u) : ∀ n,u < n→(zM n q)[zdS u q]? = some u
 | 0,h=>by omega
 | n+1,h=>by
  unfold zM
  rw [List.range_succ,List.filter_append]
  by_cases e:u=n
  ·subst e
   rw [List.getElem?_append_right (by show _≤zdS u q;exact Nat.le_refl _)]
   show (List.filter _ [u])[zdS u q - zdS u q]? = _
   rw [Nat.sub_self]
   simp [hu]
  ·have ih:=zuF hu n (by omega)
   have hlt:=(List.getElem?_eq_some_iff.1 ih).1
   rw [List.getElem?_append_left (by exact hlt)]
   exact ih
section
variable {n:Nat} {q:Nat→Nat} (hq:zdM n q)
include hq
theorem zhq {w:Nat} (hw:w < n):(zM n q)[z2 q w]? = some (q w) :=
 zuF (hq.idem w hw) n (by have:=hq.le w hw;omega)
theorem zkc {w:Nat} (hw:w < n):z2 q w < (zM n q).length:=(List.getElem?_eq_some_iff.1 (zhq hq hw)).1
theorem zc9 {v w:Nat} (hv:v < n) (hw:w < n):z2 q v=z2 q w↔q v=q w:=by
 constructor
 ·intro h
  have h1:=zhq hq hv
  rw [h,zhq hq hw] at h1
  exact (Option.some.inj h1).symm
 ·intro h;unfold z2;rw [h]
omit hq in
theorem zAA {u:Nat} : u∈zM n q↔u < n∧q u=u:=by
 unfold zM;rw [List.mem_filter,List.mem_range];simp
theorem zgB {i u:Nat} (h:(zM n q)[i]? = some u):u < n∧q u=u∧z2 q u=i:=by
 obtain ⟨h1,h2⟩:=zAA.1 (List.mem_of_getElem? h)
 refine ⟨h1,h2,?_⟩
 have h3:=zhq hq h1
 rw [h2] at h3
 have hnd:(zM n q).Pairwise (· ≠ ·):=List.Pairwise.filter _ List.nodup_range
 obtain ⟨hi,ei⟩:=List.getElem?_eq_some_iff.1 h
 obtain ⟨hj,ej⟩:=List.getElem?_eq_some_iff.1 h3
 rw [List.pairwise_iff_getElem] at hnd
 rcases Nat.lt_trichotomy (z2 q u) i with hl|hl|hl
 ·exact absurd (ej.trans ei.symm) (hnd _ _ hj hi hl)
 ·exact hl
 ·exact absurd (ei.trans ej.symm) (hnd _ _ hi hj hl)
end
def zbL (p:PM) (q:Nat→Nat) (a:Nat):List (BitVec 64):=(zM p.W.toNat q).map fun u=>zZ (z2 q) (wkB p a u) p.W.toNat
def zdF (p:PM) (q:Nat→Nat):List (BitVec 64):=p.val.map fun s=>zZ (z2 q) s p.W.toNat
noncomputable def zfX (p:PM) (q:Nat→Nat):PM×Int:=zgA ((zM p.W.toNat q).length:Int) (zdF p q) ((List.range p.cell.length).map (zbL p q))
section
variable {p:PM} (hc0:zm p=0) {q:Nat→Nat} (S:zig p q)
include hc0 S
theorem zig.num64 {w:Nat} (hw:w < p.W.toNat):z2 q w < 64:=by
 have h1:=zkc S.canon hw
 have h2:=zef p.W.toNat q
 have:=W64 hc0
 rw [zi1] at h1
 omega
theorem zfd {a b c:Nat} : rb (zbL p q a) b c=true ↔ ∃ u w,(zM p.W.toNat q)[b]? = some u∧w < p.W.toNat∧InC p a u w∧rkA p a w≤rkA p a u∧z2 q w=c:=by
 unfold rb zbL
 rw [List.getD,List.getElem?_map]
 cases hb:(zM p.W.toNat q)[b]? with
 | none=>simp
 | some u =>
  have hu:=(zgB S.canon hb).1
  show (zZ (z2 q) (wkB p a u) p.W.toNat).getLsbD c=true↔_
  rw [zbT p.W.toNat fun w hw=>S.num64 hc0 hw]
  constructor
  ·rintro ⟨w,h1,h2,h3⟩
   obtain ⟨h4,h5⟩:=(zf3 hc0 hu).1 h2
   exact ⟨u,w,rfl,h1,h4,h5,h3⟩
  ·rintro ⟨u',w,h0,h1,h2,h3,h4⟩
   cases h0
   exact ⟨w,h1,(zf3 hc0 hu).2 ⟨h2,h3⟩,h4⟩
theorem zop {a b c:Nat} (ha:a < p.cell.length):cmp (zbL p q a) b c=true ↔ ∃ u w,(zM p.W.toNat q)[b]? = some u∧w < p.W.toNat∧InC p a u w∧z2 q w=c:=by
 unfold cmp
 rw [Bool.or_eq_true,zfd hc0 S,zfd hc0 S]
 constructor
 ·rintro (⟨u,w,h1,h2,h3,h4,h5⟩|⟨u,w,h1,h2,h3,h4,h5⟩)
  ·exact ⟨u,w,h1,h2,h3,h5⟩
  ·
   obtain ⟨hu,hqu,hnu⟩:=zgB S.canon h1
   have hbw:=zhq S.canon h2
   rw [h5] at hbw
   have hqw:=S.canon.le w h2
   have hsym:InC p a w u:=⟨hu,h3.2.symm⟩
   obtain ⟨u',h6,h7⟩:=S.cell hc0 ha h2 (show q w < p.W.toNat by omega) (S.canon.idem w h2).symm hsym
   exact ⟨q w,u',hbw,h6.1,h6,by rw [(zc9 S.canon h6.1 hu).2 h7,hnu]⟩
 ·rintro ⟨u,w,h1,h2,h3,h5⟩
  obtain ⟨hu,hqu,hnu⟩:=zgB S.canon h1
  rcases Int.le_total (rkA p a w) (rkA p a u) with hle|hle
  ·exact .inl ⟨u,w,h1,h2,h3,hle,h5⟩
  ·have hcw:=zhq S.canon h2
   rw [h5] at hcw
   have hqw:=S.canon.le w h2
   have hsym:InC p a w u:=⟨hu,h3.2.symm⟩
   obtain ⟨u',h6,h7,h8⟩:=S.weak hc0 ha h2 (show q w < p.W.toNat by omega) (S.canon.idem w h2).symm hsym hle
   exact .inr ⟨q w,u',hcw,h6.1,h6,h7,by rw [(zc9 S.canon h6.1 hu).2 h8,hnu]⟩
theorem zBG {a:Nat} (ha:a < p.cell.length):zfm (zbL p q a):=by
 have hlen:(zbL p q a).length=(zM p.W.toNat q).length:=by simp [zbL]
 have h64:=W64 hc0
 have hcnt:=zef p.W.toNat q
 have hrep : ∀ b,b < (zbL p q a).length → ∃ u,(zM p.W.toNat q)[b]? = some u:=fun b hb=>⟨_,List.getElem?_eq_getElem (by omega)⟩
 refine ⟨by rw [hlen,zi1];omega,fun b c h=>?_,fun b hb=>?_,fun b c d h1 h2=>?_,fun b c d h1 h2=>?_⟩
 ·obtain ⟨u,w,h1,h2,h3,h4,h5⟩:=(zfd hc0 S).1 h
  rw [hlen,← h5];exact zkc S.canon h2
 ·obtain ⟨u,hu⟩:=hrep b hb
  obtain ⟨h1,h2,h3⟩:=zgB S.canon hu
  exact (zfd hc0 S).2 ⟨u,u,hu,h1,⟨h1,rfl⟩,Int.le_refl _,h3⟩
 ·obtain ⟨u,w,a1,a2,a3,a4,a5⟩:=(zfd hc0 S).1 h1
  obtain ⟨x,y,b1,b2,b3,b4,b5⟩:=(zfd hc0 S).1 h2
  obtain ⟨hx,hqx,hnx⟩:=zgB S.canon b1
  have hqw:q x=q w:=(zc9 S.canon hx a2).1 (by rw [hnx,a5])
  obtain ⟨z,c1,c2,c3⟩:=S.weak hc0 ha hx a2 hqw b3 b4
  refine (zfd hc0 S).2 ⟨u,z,a1,c1.1,⟨c1.1,by have:=c1.2;have:=a3.2;omega⟩,by omega,?_⟩
  rw [(zc9 S.canon c1.1 b2).2 c3,b5]
 ·obtain ⟨u,w,a1,a2,a3,a5⟩:=(zop hc0 S ha).1 h1
  obtain ⟨u',y,b1,b2,b3,b5⟩:=(zop hc0 S ha).1 h2
  rw [a1] at b1;cases b1
  have hcw:=zhq S.canon a2
  rw [a5] at hcw
  have hqw:=S.canon.le w a2
  have hwy:InC p a w y:=⟨b2,by have:=b3.2;have:=a3.2;omega⟩
  obtain ⟨z,c1,c2⟩:=S.cell hc0 ha a2 (show q w < p.W.toNat by omega) (S.canon.idem w a2).symm hwy
  exact (zop hc0 S ha).2 ⟨q w,z,hcw,c1.1,c1,by rw [(zc9 S.canon c1.1 b2).2 c2,b5]⟩
theorem zAB:0 < (zM p.W.toNat q).length:=by
 have h1:=(zz hc0).w1
 exact Nat.lt_of_le_of_lt (Nat.zero_le _) (zkc S.canon (w:=0) (by omega))
theorem zyJ : ∃ s:PM,zfX p q=(s,0)∧s=⟨((zM p.W.toNat q).length:Int),zdF p q,((List.range p.cell.length).map (zbL p q)).map zcX,((List.range p.cell.length).map (zbL p q)).map zdn⟩:=by
 have hg:=zz hc0
 have h64:=W64 hc0
 have hcnt:=zef p.W.toNat q
 have hpos:=zAB hc0 S
 have n4:=hg.n4
 have v8:=hg.v8
 refine ⟨_,?_,rfl⟩
 unfold zfX zgA
 have hs:z6 ((zM p.W.toNat q).length:Int) ((List.range p.cell.length).map (zbL p q)).length (zdF p q)=0:=by
  unfold z6
  have hl:(zM p.W.toNat q).length≤64:=by rw [zi1];omega
  rw [if_neg (by omega),if_neg (by simp [zdF];omega),if_neg]
  rw [List.any_eq_true]
  rintro ⟨s,hs,hb⟩
  obtain ⟨t,-,rfl⟩:=List.mem_map.1 hs
  have hb : ¬(zZ (z2 q) t p.W.toNat &&& ~~~(zal ((zM p.W.toNat q).length:Int))=0):=by simpa [bad] using hb
  refine hb (zeq.2 fun i hi=>?_)
  obtain ⟨w,h1,h2,h3⟩:=(zbT p.W.toNat fun w hw=>S.num64 hc0 hw).1 hi
  rw [zkD (by omega) (BitVec.lt_of_getLsbD hi),decide_eq_true_eq]
  have:=zkc S.canon h1
  omega
 have hpre : ∀ r∈(List.range p.cell.length).map (zbL p q),(r.length:Int)=((zM p.W.toNat q).length:Int)∧zfm r:=by
  intro r hr
  obtain ⟨a,ha,rfl⟩:=List.mem_map.1 hr
  exact ⟨by simp [zbL],zBG hc0 S (List.mem_range.1 ha)⟩
 rw [if_neg (not_not_intro hs),if_neg,if_neg]
 ·rw [List.any_eq_true]
  rintro ⟨r,hr,h⟩
  simp [zvP (hpre r hr).2] at h
 ·rw [List.any_eq_true]
  rintro ⟨r,hr,h⟩
  have:=hpre r hr
  rw [decide_eq_true_eq] at h
  exact h (zuE.2 ⟨by omega,by rw [zi1];omega,this.1,this.2.ins⟩)
omit hc0 S in
theorem zgF {s:PM} (h:zfX p q=(s,0)):zm s=0∧s.W=((zM p.W.toNat q).length:Int)∧s.cell.length=p.cell.length∧s.val=zdF p q ∧ ∀ a,a < p.cell.length→zW s a=zbL p q a:=by
 obtain ⟨h1,h2⟩:=zyD h
 obtain ⟨-,-,h3⟩:=zv4 h
 refine ⟨h1,by rw [h3],by rw [h3];simp,by rw [h3],fun a ha=>h2 a _ ?_⟩
 rw [List.getElem?_map,List.getElem?_range ha];rfl
theorem zuC {s:PM} (h:zfX p q=(s,0)) {a b c:Nat} (ha:a < p.cell.length) (hb:b < s.W.toNat):InC s a b c ↔ ∃ u w,(zM p.W.toNat q)[b]? = some u∧w < p.W.toNat∧InC p a u w∧z2 q w=c:=by
 obtain ⟨h1,h2,h3,h4,h5⟩:=zgF h
 have hw2:=(zz h1).w2
 rw [← zop hc0 S ha,← h5 a ha,zin hw2]
 exact ⟨fun ⟨x,y⟩=>⟨hb,x,y⟩,fun ⟨_,x,y⟩=>⟨x,y⟩⟩
theorem zuD {s:PM} (h:zfX p q=(s,0)) {a b c:Nat} (ha:a < p.cell.length) (hb:b < s.W.toNat):(InC s a b c∧rkA s a c≤rkA s a b) ↔ ∃ u w,(zM p.W.toNat q)[b]? = some u∧w < p.W.toNat∧InC p a u w∧rkA p a w≤rkA p a u∧z2 q w=c:=by
 obtain ⟨h1,h2,h3,h4,h5⟩:=zgF h
 have hw2:=(zz h1).w2
 rw [← zfd hc0 S,← h5 a ha,zbf hw2]
 exact ⟨fun ⟨⟨x,y⟩,z⟩=>⟨hb,x,y,z⟩,fun ⟨_,x,y,z⟩=>⟨⟨x,y⟩,z⟩⟩
theorem zv8 {s:PM} (h:zfX p q=(s,0)):zib p s (fun w b=>w < p.W.toNat∧b=z2 q w):=by
 obtain ⟨h1,h2,h3,h4,h5⟩:=zgF h
 have hlt : ∀ {w},w < p.W.toNat→z2 q w < s.W.toNat:=fun {w} hw=>by
  have:=zkc S.canon hw;rw [h2];omega
 have hrep : ∀ {w},w < p.W.toNat→(zM p.W.toNat q)[z2 q w]? = some (q w)∧q w < p.W.toNat∧q (q w)=q w:=fun {w} hw =>
  ⟨zhq S.canon hw,by have:=S.canon.le w hw;omega,S.canon.idem w hw⟩
 refine ⟨h3.symm,fun hz=>⟨hz.1,by rw [hz.2];exact hlt hz.1⟩,fun {v v'} hz i=>?_,fun {a v v' u} ha hz hu=>?_,fun {a v v' u'} ha hz hu=>?_,fun {a v v' u} ha hz hu hr=>?_,fun {a v v' u'} ha hz hu hr=>?_⟩
 ·obtain ⟨hv,rfl⟩:=hz
  rw [h4]
  have e:(zdF p q).getD i 0#64=zZ (z2 q) (p.val.getD i 0#64) p.W.toNat:=by
   unfold zdF
   rw [List.getD,List.getD,List.getElem?_map]
   cases p.val[i]? with
   | some x=>rfl
   | none =>
    show 0#64=zZ (z2 q) 0#64 _
    refine zf1 fun j=>?_
    rw [zbT p.W.toNat fun w hw=>S.num64 hc0 hw]
    simp
  rw [e,zbT p.W.toNat fun w hw=>S.num64 hc0 hw]
  constructor
  ·intro hb;exact ⟨v,hv,hb,rfl⟩
  ·rintro ⟨w,hw,hb,he⟩
   exact (zpw.1 (S.fact hw hv ((zc9 S.canon hw hv).1 he)) i).1 hb
 ·obtain ⟨hv,rfl⟩:=hz
  obtain ⟨r1,r2,r3⟩:=hrep hv
  obtain ⟨u',h6,h7⟩:=S.cell hc0 ha hv r2 r3.symm hu
  exact ⟨z2 q u,(zuC hc0 S h ha (hlt hv)).2 ⟨q v,u',r1,h6.1,h6,(zc9 S.canon h6.1 hu.1).2 h7⟩,hu.1,rfl⟩
 ·obtain ⟨hv,rfl⟩:=hz
  obtain ⟨r1,r2,r3⟩:=hrep hv
  obtain ⟨u,w,h6,h7,h8,h9⟩:=(zuC hc0 S h ha (hlt hv)).1 hu
  rw [r1] at h6;cases h6
  obtain ⟨w',h10,h11⟩:=S.cell hc0 ha r2 hv r3 h8
  exact ⟨w',h10,h10.1,by rw [(zc9 S.canon h10.1 h7).2 h11,h9]⟩
 ·obtain ⟨hv,rfl⟩:=hz
  obtain ⟨r1,r2,r3⟩:=hrep hv
  obtain ⟨u',h6,h7,h8⟩:=S.weak hc0 ha hv r2 r3.symm hu hr
  obtain ⟨h9,h10⟩:=(zuD hc0 S h ha (hlt hv)).2 ⟨q v,u',r1,h6.1,h6,h7,(zc9 S.canon h6.1 hu.1).2 h8⟩
  exact ⟨z2 q u,h9,h10,hu.1,rfl⟩
 ·obtain ⟨hv,rfl⟩:=hz
  obtain ⟨r1,r2,r3⟩:=hrep hv
  obtain ⟨u,w,h6,h7,h8,h9,h10⟩:=(zuD hc0 S h ha (hlt hv)).1 ⟨hu,hr⟩
  rw [r1] at h6;cases h6
  obtain ⟨w',h11,h12,h13⟩:=S.weak hc0 ha r2 hv r3 h8 h9
  exact ⟨w',h11,h12,h11.1,by rw [(zc9 S.canon h11.1 h7).2 h13,h10]⟩
end
end Go.Ab
namespace Go.Ab
open Go
theorem zib.trans {p p' p2:PM} {Z Z':Nat→Nat→Prop} (B:zib p p' Z) (B':zib p' p2 Z'):zib p p2 (fun v w => ∃ u,Z v u∧Z' u w) where
 n:=B.n.trans B'.n
 lt:=fun ⟨u,h,h'⟩=>⟨(B.lt h).1,(B'.lt h').2⟩
 fact:=fun ⟨u,h,h'⟩ i=>(B.fact h i).trans (B'.fact h' i)
 cf ha:=fun ⟨u,h,h'⟩ hu=>by
  obtain ⟨x,h1,h2⟩:=B.cf ha h hu
  obtain ⟨y,h3,h4⟩:=B'.cf (by have:=B.n;omega) h' h1
  exact ⟨y,h3,x,h2,h4⟩
 cb ha:=fun ⟨u,h,h'⟩ hu=>by
  obtain ⟨x,h1,h2⟩:=B'.cb (by have:=B.n;omega) h' hu
  obtain ⟨y,h3,h4⟩:=B.cb ha h h1
  exact ⟨y,h3,x,h4,h2⟩
 sf ha:=fun ⟨u,h,h'⟩ hu hr=>by
  obtain ⟨x,h1,h1r,h2⟩:=B.sf ha h hu hr
  obtain ⟨y,h3,h3r,h4⟩:=B'.sf (by have:=B.n;omega) h' h1 h1r
  exact ⟨y,h3,h3r,x,h2,h4⟩
 sb ha:=fun ⟨u,h,h'⟩ hu hr=>by
  obtain ⟨x,h1,h1r,h2⟩:=B'.sb (by have:=B.n;omega) h' hu hr
  obtain ⟨y,h3,h3r,h4⟩:=B.sb ha h h1 h1r
  exact ⟨y,h3,h3r,x,h4,h2⟩
section
variable {p:PM} (hc0:zm p=0)
include hc0
theorem zCX {k w:Nat} (hw:w < p.W.toNat):zaA p k w < 64:=by
 have:=(zhP p k).le w hw
 have:=W64 hc0
 omega
theorem zhU {Z:Nat→Nat→Prop} (B:zib p p Z) : ∀ (k:Nat) {v w:Nat},Z v w→zaA p k v=zaA p k w
 | 0,v,w,h=>(zka (zlI (zeg p))).2 (by simp only [zew,decide_eq_true_eq];exact zpw.2 (B.fact h))
 | k+1,v,w,h=>by
  refine (zka (zfe p.W.toNat (zbF p) (zaA p k))).2 ?_
  obtain ⟨hv,hw⟩:=B.lt h
  simp only [za3,Bool.and_eq_true,decide_eq_true_eq,List.all_eq_true]
  refine ⟨zhU B k h,fun r hr=>?_⟩
  have hq : ∀ u,u < p.W.toNat→zaA p k u < 64:=fun u hu=>zCX hc0 hu
  refine zf1 fun b=>?_
  rw [zbT _ hq,zbT _ hq]
  obtain ⟨a,ha,rfl|rfl⟩:=zpJ.1 hr
  ·constructor
   ·rintro ⟨u,h1,h2,h3⟩
    obtain ⟨u',h4,h5⟩:=B.cf ha h ((zaS hc0 ha hv).1 h2)
    exact ⟨u',h4.1,(zaS hc0 ha hw).2 h4,by rw [← h3];exact (zhU B k h5).symm⟩
   ·rintro ⟨u,h1,h2,h3⟩
    obtain ⟨u',h4,h5⟩:=B.cb ha h ((zaS hc0 ha hw).1 h2)
    exact ⟨u',h4.1,(zaS hc0 ha hv).2 h4,by rw [← h3];exact zhU B k h5⟩
  ·constructor
   ·rintro ⟨u,h1,h2,h3⟩
    obtain ⟨h6,h7⟩:=(zf3 hc0 hv).1 h2
    obtain ⟨u',h4,h4r,h5⟩:=B.sf ha h h6 h7
    exact ⟨u',h4.1,(zf3 hc0 hw).2 ⟨h4,h4r⟩,by rw [← h3];exact (zhU B k h5).symm⟩
   ·rintro ⟨u,h1,h2,h3⟩
    obtain ⟨h6,h7⟩:=(zf3 hc0 hw).1 h2
    obtain ⟨u',h4,h4r,h5⟩:=B.sb ha h h6 h7
    exact ⟨u',h4.1,(zf3 hc0 hv).2 ⟨h4,h4r⟩,by rw [← h3];exact zhU B k h5⟩
end
abbrev zja (p:PM):Nat→Nat:=zaA p 64
section
variable {p:PM} (hc0:zm p=0)
include hc0
theorem zk6:zig p (zja p):=zpX hc0 (W64 hc0)
theorem zAw {s:PM} (h:zfX p (zja p)=(s,0)) {k:Nat} (hk:s.W.toNat≤k) {b:Nat} (hb:b < s.W.toNat):zaA s k b=b:=by
 have S:=zk6 hc0
 obtain ⟨h1,h2,h3,h4,h5⟩:=zgF h
 have S':=zpX h1 hk
 have B1:=zv8 hc0 S h
 have B2:=S'.bis h1
 have B:=(B1.trans B2).trans B1.symm
 have key : ∀ b c,b < s.W.toNat→c < s.W.toNat→zaA s k b=zaA s k c→b=c:=by
  intro b c hb hc he
  obtain ⟨u,hu⟩ : ∃ u,(zM p.W.toNat (zja p))[b]? = some u:=⟨_,List.getElem?_eq_getElem (by rw [h2] at hb;omega)⟩
  obtain ⟨w,hw⟩ : ∃ w,(zM p.W.toNat (zja p))[c]? = some w:=⟨_,List.getElem?_eq_getElem (by rw [h2] at hc;omega)⟩
  obtain ⟨u1,u2,u3⟩:=zgB S.canon hu
  obtain ⟨w1,w2,w3⟩:=zgB S.canon hw
  have:=zhU hc0 B 64 (v:=u) (w:=w) ⟨c,⟨b,⟨u1,u3.symm⟩,hb,hc,he⟩,w1,w3.symm⟩
  rw [← u3,← w3]
  exact (zc9 S.canon u1 w1).2 this
 have hc:=zhP s k
 exact (key b (zaA s k b) hb (by have:=hc.le b hb;omega) (hc.idem b hb).symm).symm
end
theorem zAx {s:PM} (h1:zm s=0) {q:Nat→Nat} (hq : ∀ b,b < s.W.toNat→q b=b):zfX s q=(s,0)∧(∀ b,b < s.W.toNat→z2 q b=b)∧(zM s.W.toNat q).length=s.W.toNat:=by
 have hg:=zz h1
 have h64:=W64 h1
 have hw1:=hg.w1
 have hr : ∀ n,n≤s.W.toNat→zM n q=List.range n:=by
  intro n hn
  unfold zM
  rw [List.filter_eq_self]
  intro b hb
  have:=List.mem_range.1 hb
  exact decide_eq_true (hq b (by omega))
 have hnum : ∀ b,b < s.W.toNat→z2 q b=b:=by
  intro b hb
  unfold z2
  rw [hq b hb]
  show (zM b q).length=b
  rw [hr b (by omega),List.length_range]
 refine ⟨?_,hnum,by rw [hr _ (Nat.le_refl _),List.length_range]⟩
 have hb : ∀ (x:BitVec 64),(∀ i,x.getLsbD i=true→i < s.W.toNat)→zZ (z2 q) x s.W.toNat=x:=by
  intro x hx
  refine zf1 fun i=>?_
  rw [zbT _ fun w hw=>by rw [hnum w hw];omega]
  constructor
  ·rintro ⟨w,h2,h3,h4⟩;rw [hnum w h2] at h4;rw [← h4];exact h3
  ·intro h2;exact ⟨i,hx i h2,h2,hnum i (hx i h2)⟩
 have hv:zdF s q=s.val:=by
  unfold zdF
  refine (List.map_congr_left fun x hx=>hb x fun i hi=>?_).trans (List.map_id _)
  have h5:=hg.val x hx
  have h6:x &&& ~~~(zal s.W)=0:=by simpa [bad] using h5
  have h7:=(zeq.1 h6) i hi
  exact (zed h1).1 h7
 have ho : ∀ a,zbL s q a=zW s a:=by
  intro a
  unfold zbL
  rw [hr _ (Nat.le_refl _)]
  unfold zW
  refine List.map_congr_left fun u hu=>?_
  have hu':=List.mem_range.1 hu
  have e:wkB s a u=zbr (za s.cell a) (za s.rank a) u s.W.toNat:=by
   unfold wkB uAt zW
   rw [List.getD,List.getElem?_map,List.getElem?_range hu'];rfl
  rw [hb _ fun i hi=>((zf3 h1 hu').1 hi).1.1,e]
 unfold zfX
 rw [hr _ (Nat.le_refl _),List.length_range,hv,List.map_congr_left fun a _=>ho a]
 rw [show ((s.W.toNat:Nat):Int)=s.W by omega]
 exact zAm hg (zxo h1)
section
variable {p:PM} (hc0:zm p=0) {q:Nat→Nat} (S:zig p q) {s:PM} (h:zfX p q=(s,0))
include hc0 S h
end
end Go.Ab
namespace Go.Ab
open Go Go.Proofs
set_option maxRecDepth 10000
set_option maxHeartbeats 4000000
variable {T:Nat→Obj→Prop}
def ptL (n:Nat) (q:Nat→Nat):List Int:=(List.range n).map fun w=>((q w:Nat):Int)
theorem zb1 {n:Nat} {q:Nat→Nat} {w:Nat} (hw:w < n):(ptL n q)[w]? = some ((q w:Nat):Int):=by simp [ptL,hw]
theorem zcu {n:Nat} {q:Nat→Nat} : (ptL n q).length=n:=by simp [ptL]
theorem zd8 {n:Nat} {q q':Nat→Nat} (h : ∀ w,w < n→q w=q' w):ptL n q=ptL n q':=List.map_congr_left fun w hw=>by rw [h w (List.mem_range.1 hw)]
theorem zBH {n:Nat} {q q':Nat→Nat} (h:ptL n q=ptL n q') {w:Nat} (hw:w < n):q w=q' w:=by
 have:=zb1 (q:=q) hw
 rw [h,zb1 hw] at this
 have:=Option.some.inj this
 omega
theorem zx9 {n:Nat} {q:Nat→Nat} (hq:zdM n q) (hn:n≤64):Fn Tryz.prog T zhD [.d (dI (ptL n q))] [] (.d (.int .i64 0)) []:=by
 have hl:(ptL n q).length=n:=zcu
 refine zh zw zoB (by show 1≤31;decide) ?_
 (repeat' ((conv=>whnf);first|refine vA ?_|(refine vF ?_ ?_<;>intro hc<;>try simp only [vL] at hc)|refine vJ fun hg=>?_|refine vT ?_|refine vX ?_));all_goals try conv=>whnf
 ·omega
 ·refine zP (fun (k:Nat)=>[(0,.d (dI (ptL n q))),(8,.d (dI (ptL n q))),(9,.d (.int .i64 (((ptL n q).map (D.int .i64)).length:Int))),(10,.d (.int .i64 ((k:Int))))]) (fun (k:Nat)=>k≤n) (fun (k:Nat)=>n - k) (0) (by simp) (by (repeat' first|exact trivial|exact rfl|refine And.intro ?_ ?_)) ?_
  rintro k hk
  by_cases hkl:k < n
  ·have e1:(ptL n q)[k]? = some ((q k:Nat):Int):=zb1 hkl
   have b1:=hq.le k hkl
   have e2:(ptL n q)[q k]? = some ((q k:Nat):Int):=by rw [zb1 (by omega),hq.idem k hkl]
   (repeat' ((conv=>whnf);first|refine vA ?_|refine vH ?_|((first|refine vD ?_ ?_|refine vF ?_ ?_)<;>intro hc<;>try simp only [vL] at hc)|refine vT ?_|refine vN ‹_› ?_|(refine vO ?_ ?_;·omega)|refine vX ?_));all_goals try conv=>whnf
   all_goals try omega
   exact ⟨k+1,[],[],by (omega),by (omega),by (refine ⟨rfl,rfl,rfl,?_,?_⟩;repeat' first|exact trivial|exact rfl|refine And.intro ?_ ?_)⟩
  ·(repeat' ((conv=>whnf);first|refine vA ?_|((first|refine vD ?_ ?_|refine vF ?_ ?_)<;>intro hc<;>try simp only [vL] at hc)|refine vT ?_|(refine vQ ?_ fun x hx=>?_;·omega)|((first|refine vO ?_ ?_|refine vS ?_ fun x hx=>?_);·omega)|refine vX ?_));all_goals try conv=>whnf
   all_goals omega
def zfV (a b:List Int) (v w:Nat):Bool:=decide (at0 a v=at0 a w∧at0 b v=at0 b w)
abbrev pkD (x y:Int):D := .agg [.int .i64 x,.int .i64 y]
def zc6 (a b:List Int) (k:Nat) (x y:Int):Option Nat:=(List.range k).find? fun j=>decide (at0 a j=x∧at0 b j=y)
def zmv (a b:List Int) (k:Nat) (es:List (D×D)):Prop := ∀ x y,zac es (pkD x y)=some ((zc6 a b k x y).map fun (j:Nat)=>D.int .i64 (j:Int))
theorem zfL (k:D) (l:List (D×D)) : ∀ es:List (D×D),zac es k=some none→zac (es++l) k=zac l k
 | [],_=>rfl
 | (a,v)::r,h=>by
  simp only [zac] at h
  show zac ((a,v)::(r++l)) k=_
  simp only [zac]
  split at h
  ·cases h
  ·exact zfL k l r h
  ·cases h
theorem zoQ (k:D) (l:List (D×D)) : ∀ (es:List (D×D)) (x:D),zac es k=some (some x)→zac (es++l) k=some (some x)
 | [],_,h=>by cases h
 | (a,v)::r,x,h=>by
  simp only [zac] at h
  show zac ((a,v)::(r++l)) k=_
  simp only [zac]
  split at h
  ·exact h
  ·exact zoQ k l r x h
  ·cases h
theorem zyH (x y x' y':Int):D.eqk (pkD x y) (pkD x' y')=some (decide (x=x')&&(decide (y=y')&&true)):=rfl
theorem zna (a b:List Int) (k:Nat) (x y:Int):zc6 a b (k+1) x y=match zc6 a b k x y with
  | some j=>some j
  | none=>if at0 a k=x∧at0 b k=y then some k else none:=by
 unfold zc6
 rw [List.range_succ,List.find?_append]
 cases h:(List.range k).find? fun j=>decide (at0 a j=x∧at0 b j=y) with
 | some j=>rfl
 | none =>
  show (none:Option Nat).or _=_
  rw [Option.none_or]
  simp only [List.find?]
  by_cases e:at0 a k=x∧at0 b k=y
  ·rw [if_pos e,decide_eq_true e]
  ·rw [if_neg e,decide_eq_false e]
theorem zvf {a b:List Int} {k j:Nat} {es:List (D×D)} (h:zmv a b k es) (hf:zc6 a b k (at0 a k) (at0 b k)=some j):zmv a b (k+1) es:=by
 intro x y
 rw [h x y,zna]
 cases e:zc6 a b k x y with
 | some i=>rfl
 | none =>
  show _=some (Option.map _ (if at0 a k=x∧at0 b k=y then some k else none))
  rw [if_neg]
  rintro ⟨rfl,rfl⟩;rw [hf] at e;cases e
theorem zwR {a b:List Int} {k:Nat} {es:List (D×D)} (h:zmv a b k es) (hf:zc6 a b k (at0 a k) (at0 b k)=none):zmv a b (k+1) (es++[(pkD (at0 a k) (at0 b k),.int .i64 (k:Int))]):=by
 intro x y
 rw [zna]
 cases e:zc6 a b k x y with
 | some i=>exact zoQ _ _ _ _ (by rw [h x y,e];rfl)
 | none =>
  rw [zfL _ _ _ (by rw [h x y,e];rfl)]
  show _=some (Option.map _ (if at0 a k=x∧at0 b k=y then some k else none))
  simp only [zac,zyH]
  by_cases e1:at0 a k=x∧at0 b k=y
  ·obtain ⟨rfl,rfl⟩:=e1
   simp
  ·rw [if_neg e1]
   by_cases e2:x=at0 a k
   ·have e3 : ¬ y=at0 b k:=fun e3=>e1 ⟨e2.symm,e3.symm⟩
    simp [e2,e3]
   ·simp [e2]
theorem zsb (a b:List Int) (k:Nat):zV (zfV a b) k=(zc6 a b k (at0 a k) (at0 b k)).getD k:=rfl
theorem zwd {e:Nat→Nat→Bool} {n k j:Nat} (h:zV e k=j):(((List.range n).map fun i=>D.int .i64 (if i < k then (zV e i:Int) else 0)).set k (D.int .i64 (j:Int)))=(List.range n).map fun i=>D.int .i64 (if i < k+1 then (zV e i:Int) else 0):=by
 refine (zbs _).trans (zt fun u hu=>?_)
 by_cases e1:u=k
 ·subst e1;rw [if_pos rfl,if_pos (by omega),h]
 ·rw [if_neg e1]
  by_cases e2:u < k
  ·rw [if_pos e2,if_pos (by omega)]
  ·rw [if_neg e2,if_neg (by omega)]
theorem zx4 (a b:List Int) (hl:b.length=a.length) (hn:a.length≤64):Fn Tryz.prog T zhb [.d (dI a),.d (dI b)] [] (.d (dI (ptL a.length (zV (zfV a b))))) []:=by
 refine zh zw znp (by show 2≤48;decide) ?_
 (repeat' ((conv=>whnf);first|refine vA ?_|refine vJ fun hg=>?_|refine vT ?_|(refine vP ?_ ?_;·(simp only [vM] at *;omega))|fail));all_goals try conv=>whnf
 refine zn (fun ((k,es,zs):Nat×List (D×D)×List D)=>[(0,.d (dI a)),(1,.d (dI b)),(5,.map 0),(6,.own 1),(16,.d (.int .i64 ((a.map (D.int .i64)).length:Int))),(17,.d (.int .i64 ((k:Int))))]) (fun ((k,es,zs):Nat×List (D×D)×List D)=>[(0,some (.map es)),(1,some (.row 1 zs))]) 2 (fun ((k,es,zs):Nat×List (D×D)×List D)=>k≤a.length∧zmv a b k es∧zs=(List.range a.length).map fun i=>D.int .i64 (if i < k then (zV (zfV a b) i:Int) else 0)) (fun ((k,es,zs):Nat×List (D×D)×List D)=>a.length - k) ((0,[],List.replicate (((a.map (D.int .i64)).length:Int)).toNat (D.int .i64 0))) [(0,0),(1,1)] [] (⟨by simp,fun x y=>by simp [zac,zc6],by simp only [Nat.not_lt_zero,if_false];rw [List.length_map,Int.toNat_natCast];exact zaW _ _⟩) (by (refine ⟨rfl,rfl,rfl,?_,?_⟩;repeat' first|exact trivial|exact rfl|refine And.intro ?_ ?_|refine ⟨_,rfl,?_⟩|decide)) ?_
 rintro ⟨k,es,zs⟩ ⟨hk,hM,rfl⟩
 by_cases hkl:k < a.length
 ·obtain ⟨x,e1⟩ : ∃ x,a[k]? = some x:=⟨_,List.getElem?_eq_getElem hkl⟩
  obtain ⟨y,e2⟩ : ∃ y,b[k]? = some y:=⟨_,List.getElem?_eq_getElem (by omega)⟩
  have f1:at0 a k=x:=zy e1
  have f2:at0 b k=y:=zy e2
  cases hf:zc6 a b k x y with
  | some j =>
   have hfd:zac es (pkD x y)=some (some (.int .i64 (j:Int))):=by rw [hM x y,hf];rfl
   (repeat' ((conv=>whnf);first|refine vA ?_|refine vE ?_|refine vG ?_|(refine vF ?_ ?_<;>intro hc<;>try simp only [vL] at hc)|refine vT ?_|refine vN ‹_› ?_|((first|refine vO ?_ ?_|refine vP ?_ ?_);·first|omega|(simp only [vM] at *;omega))|(refine vU ?_ ?_;·kernel_rfl)|refine zn9.mk _ ‹_› ?_));all_goals try conv=>whnf
   ·have hlo:zV (zfV a b) k=j:=by rw [zsb,f1,f2,hf];rfl
    refine ⟨(k+1,es,_),[(0,0),(1,1)],[],?_,?_,by (refine ⟨rfl,rfl,rfl,?_,?_⟩;repeat' first|exact trivial|exact rfl|refine And.intro ?_ ?_|refine ⟨_,rfl,?_⟩|decide)⟩
    ·exact ⟨by (omega),zvf hM (by rw [f1,f2];exact hf),zwd hlo⟩
    ·((simp only [vM] at *;omega))
   all_goals omega
  | none =>
   have hfd:zac es (pkD x y)=some none:=by rw [hM x y,hf];rfl
   have hfn:zac (es++[(pkD x y,.int .i64 (k:Int))]) (pkD x y)=some (some (.int .i64 (k:Int))):=by rw [zfL _ _ _ hfd];simp [zac,zyH]
   (repeat' ((conv=>whnf);first|refine vA ?_|(refine vF ?_ ?_<;>intro hc<;>try simp only [vL] at hc)|refine vT ?_|refine vN ‹_› ?_|((first|refine vO ?_ ?_|refine vP ?_ ?_);·first|omega|(simp only [vM] at *;omega))|(refine vU ?_ ?_;·kernel_rfl)|refine zn9.mk _ ‹_› ?_));all_goals try conv=>whnf
   ·have hlo:zV (zfV a b) k=k:=by rw [zsb,f1,f2,hf];rfl
    refine ⟨(k+1,_,_),[(0,0),(1,1)],[],?_,?_,by (refine ⟨rfl,rfl,rfl,?_,?_⟩;repeat' first|exact trivial|exact rfl|refine And.intro ?_ ?_|refine ⟨_,rfl,?_⟩|decide)⟩
    ·exact ⟨by (omega),by subst f1 f2;exact zwR hM hf,zwd hlo⟩
    ·((simp only [vM] at *;omega))
   all_goals omega
 ·(repeat' ((conv=>whnf);first|refine vA ?_|(refine vF ?_ ?_<;>intro hc<;>try simp only [vL] at hc)|refine vT ?_|(refine vQ ?_ fun x hx=>?_;·omega)|(refine vU ?_ ?_;·kernel_rfl)|fail));all_goals try conv=>whnf
  ·omega
  ·have e0:k=a.length:=by omega
   subst e0
   refine congrArg (fun l=>some (D.arr 1 l)) ?_
   unfold ptL
   rw [List.map_map]
   exact zt fun u hu=>by rw [if_pos hu];rfl
theorem ztX {n:Nat} {q:Nat→Nat} (hq:zdM n q) (hn:n≤64) (keys:List Int) (hl:keys.length=n):Fn Tryz.prog T zhE [.d (dI (ptL n q)),.d (dI keys)] [] (.d (.tup [dI (ptL n (zV (zfV (ptL n q) keys))),.int .i64 0])) []:=by
 have hp:=zcu (n:=n) (q:=q)
 have cd:=zx4 (T:=T) (ptL n q) keys (by omega) (by omega)
 rw [hp] at cd
 refine zh zw zoC (by show 2≤20;decide) ?_
 (repeat' ((conv=>whnf);first|refine vA ?_|refine vH ?_|(refine vD ?_ ?_<;>intro hc<;>try simp only [vL] at hc)|refine vJ fun hg=>?_|refine vT ?_|refine yD (zx9 hq hn) ⟨⟨rfl,rfl⟩,rfl⟩ rfl ?_|refine yN cd ⟨⟨rfl,rfl⟩,⟨rfl,rfl⟩,rfl⟩ ?_));all_goals try conv=>whnf
 ·omega
 ·rfl
end Go.Ab
namespace Go.Ab
open Go Go.Proofs
set_option maxRecDepth 10000
set_option maxHeartbeats 4000000
variable {T:Nat→Obj→Prop}
def zjO (p:PM):List Int:=ptL p.W.toNat (zeg p)
theorem zBF {x k:Nat} (h:x < 2 ^ k):x|||2 ^ k=x+2 ^ k:=by
 have:=Nat.two_pow_add_eq_or_of_lt (i:=k) h 1
 rw [Nat.or_comm,show 2 ^ k=2 ^ k * 1 by omega,← this];omega
theorem zzT {l:List (BitVec 64)} {w k:Nat} {s:BitVec 64} (hs:l[k]? = some s) (hk:k < 8) :
  zbt .i64 (fun p q=>p|||q) (zbu l w k:Int) ((((s >>> w&&&1#64).toNat:Int)) * 2 ^ (min k IntKind.i64.bits))=(zbu l w (k+1):Int):=by
 have h1:=zpu l w k
 have hp:2 ^ k≤2 ^ 7:=Nat.pow_le_pow_right (by decide) (by omega)
 have hb:min k IntKind.i64.bits=k:=by show min k 64=k;omega
 rw [hb,zbu,show l.getD k 0#64=s by rw [List.getD,hs];rfl]
 by_cases h:s.getLsbD w=true
 ·have e:s >>> w&&&1#64=1#64:=(zee s w).2 h
  rw [e,if_pos h]
  have:=zgl (a:=zbu l w k) (b:=2 ^ k) (by omega) (by omega)
  rw [show ((1#64).toNat:Int) * 2 ^ k=((2 ^ k:Nat):Int) by simp,this,zBF h1]
 ·have e:s >>> w&&&1#64=0#64:=(zeP s w).2 (by simpa using h)
  rw [e,if_neg h]
  have:=zgl (a:=zbu l w k) (b:=0) (by omega) (by omega)
  rw [show ((0#64).toNat:Int) * 2 ^ k=((0:Nat):Int) by simp,this];simp
theorem zxH (s:BitVec 64) (w:Nat):(s >>> w&&&1#64).toNat≤1:=by
 cases h:s.getLsbD w with
 | true=>rw [(zee s w).2 h];decide
 | false=>rw [(zeP s w).2 h];decide
theorem zy1 {x k:Nat} (hx:x≤1) (hk:k < 8):0≤(x:Int) * 2 ^ (min (k:Int).toNat IntKind.i64.bits)∧(x:Int) * 2 ^ (min (k:Int).toNat IntKind.i64.bits)≤9223372036854775807:=by
 have hp:2 ^ k≤2 ^ 7:=Nat.pow_le_pow_right (by decide) (by omega)
 have hb:min (k:Int).toNat IntKind.i64.bits=k:=by show min k 64=k;omega
 rw [hb]
 match x,hx with
 | 0,_=>simp
 | 1,_ =>
  rw [show ((1:Nat):Int) * 2 ^ k=((2 ^ k:Nat):Int) by simp]
  have h7:(2:Nat) ^ 7=128:=rfl
  exact ⟨Int.natCast_nonneg _,Int.ofNat_le.2 (show 2 ^ k≤9223372036854775807 by omega)⟩
theorem zya (p:PM) (hc0:zm p=0):Fn Tryz.prog T zhc [.d (dPM p)] [] (.d (dI (zjO p))) []:=by
 have hg:=zz hc0
 have w1:=hg.w1
 have w2:=hg.w2
 have v8:=hg.v8
 refine zh zw znq (by show 1≤39;decide) ?_
 (repeat' ((conv=>whnf);first|refine vA ?_|refine vJ fun hg=>?_|refine vT ?_|(refine vP ?_ ?_;·omega)|fail));all_goals try conv=>whnf
 refine zn (fun ((i,zs):Nat×List D)=>[(3,.own 0),(11,.d (dU p.val)),(12,.d (.int .i64 ((p.val.map D.u64).length:Int))),(13,.d (.int .i64 ((i:Int))))]) (fun ((i,zs):Nat×List D)=>[(0,some (.row 1 zs))]) 1 (fun ((i,zs):Nat×List D)=>i≤p.val.length∧zs=(List.range p.W.toNat).map fun w=>D.int .i64 (zbu p.val w i:Int)) (fun ((i,zs):Nat×List D)=>p.val.length - i) ((0,List.replicate p.W.toNat (D.int .i64 0))) [(0,1)] [] (⟨by simp,by simp only [zbu];exact zaW _ _⟩) (by (refine ⟨rfl,rfl,rfl,?_,?_⟩;repeat' first|exact trivial|exact rfl|refine And.intro ?_ ?_|refine ⟨_,rfl,?_⟩|decide)) ?_
 rintro ⟨i,zs⟩ ⟨hi,rfl⟩
 by_cases hil:i < p.val.length
 ·obtain ⟨s,hs⟩ : ∃ s,p.val[i]? = some s:=⟨_,List.getElem?_eq_getElem hil⟩
  (repeat' ((conv=>whnf);first|refine vA ?_|(refine vF ?_ ?_<;>intro hc<;>try simp only [vL] at hc)|refine vJ fun hg=>?_|refine vT ?_|refine vN ‹_› ?_));all_goals try conv=>whnf
  ·refine zn (fun ((w,zs):Nat×List D)=>[(3,.own 0),(4,.d (.int .i64 ((i:Int)))),(5,.d (.u64 (s))),(11,.d (dU p.val)),(12,.d (.int .i64 ((p.val.map D.u64).length:Int))),(13,.d (.int .i64 ((i:Int)))),(19,.d (.int .i64 (((List.range p.W.toNat).map fun w=>D.int .i64 (zbu p.val w i:Int)).length:Int))),(20,.d (.int .i64 ((w:Int))))]) (fun ((w,zs):Nat×List D)=>[(0,some (.row 1 zs))]) 1 (fun ((w,zs):Nat×List D)=>w≤p.W.toNat∧zs=(List.range p.W.toNat).map fun u=>D.int .i64 (if u < w then (zbu p.val u (i+1):Int) else (zbu p.val u i:Int))) (fun ((w,zs):Nat×List D)=>p.W.toNat - w) ((0,_)) [(0,0)] [] (⟨by simp,by simp only [Nat.not_lt_zero,if_false]⟩) (by (refine ⟨rfl,rfl,rfl,?_,?_⟩;repeat' first|exact trivial|exact rfl|refine And.intro ?_ ?_|refine ⟨_,rfl,?_⟩|decide)) ?_
   rintro ⟨w,zs⟩ ⟨hw,rfl⟩
   by_cases hwl:w < p.W.toNat
   ·have er:(List.range p.W.toNat)[w]? = some w:=List.getElem?_range hwl
    have bs:(s >>> (w:Int).toNat&&&(1:BitVec 64)).toNat≤1:=zxH s _
    have hor:=zzT (w:=w) hs (by omega)
    have hsh:0≤(((s >>> (w:Int).toNat&&&(1:BitVec 64)).toNat:Int)) * 2 ^ (min (i:Int).toNat IntKind.i64.bits)∧(((s >>> (w:Int).toNat&&&(1:BitVec 64)).toNat:Int)) * 2 ^ (min (i:Int).toNat IntKind.i64.bits)≤9223372036854775807:=zy1 bs (by omega)
    have e1 : ¬ w < w:=by omega
    (repeat' ((conv=>whnf);first|refine vA ?_|(refine vF ?_ ?_<;>intro hc<;>try simp only [vL] at hc)|refine vT ?_|refine vN ‹_› ?_|((first|refine vO ?_ ?_|refine vP ?_ ?_);·first|omega|(simp only [vM] at *;omega))|(refine vU ?_ ?_;·kernel_rfl)|fail));all_goals try conv=>whnf
    ·refine ⟨(w+1,_),[(0,0)],[],?_,?_,by (refine ⟨rfl,rfl,rfl,?_,?_⟩;repeat' first|exact trivial|exact rfl|refine And.intro ?_ ?_|refine ⟨_,rfl,?_⟩|decide)⟩
     ·refine ⟨by (omega),(zbs _).trans (zt fun u hu=>?_)⟩
      show (if u=w then _ else _)=_
      by_cases e:u=w
      ·subst e
       rw [if_pos rfl,if_pos (show u < u+1 by omega),if_neg e1]
       exact congrArg (D.int .i64) hor
      ·rw [if_neg e]
       by_cases e2:u < w
       ·rw [if_pos e2,if_pos (show u < w+1 by omega)]
       ·rw [if_neg e2,if_neg (show ¬ u < w+1 by omega)]
     ·((simp only [vM] at *;omega))
    ·omega
   ·(repeat' ((conv=>whnf);first|refine vA ?_|(refine vF ?_ ?_<;>intro hc<;>try simp only [vL] at hc)|refine vT ?_|(refine vQ ?_ fun x hx=>?_;·omega)|((first|refine vO ?_ ?_|refine vP ?_ ?_);·omega)|(refine vU ?_ ?_;·kernel_rfl)|fail));all_goals try conv=>whnf
    ·omega
    ·have e0:w=p.W.toNat:=by omega
     subst e0
     refine ⟨(i+1,_),[(0,0)],[],?_,?_,by (refine ⟨rfl,rfl,rfl,?_,?_⟩;repeat' first|exact trivial|exact rfl|refine And.intro ?_ ?_|refine ⟨_,rfl,?_⟩|decide)⟩
     ·exact ⟨by (omega),zt fun u hu=>by rw [if_pos hu]⟩
     ·((simp only [vM] at *;omega))
  all_goals omega
 ·(repeat' ((conv=>whnf);first|refine vA ?_|(refine vF ?_ ?_<;>intro hc<;>try simp only [vL] at hc)|refine vJ fun hg=>?_|refine vT ?_|(refine vQ ?_ fun x hx=>?_;·omega)|fail));all_goals try conv=>whnf
  ·omega
  ·have e0:i=p.val.length:=by omega
   subst e0
   refine congrArg (fun l=>some (D.arr 1 l)) ?_
   unfold zjO ptL
   rw [List.map_map];rfl
end Go.Ab
namespace Go.Ab
open Go Go.Proofs
set_option maxRecDepth 10000
set_option maxHeartbeats 4000000
variable {T:Nat→Obj→Prop}
def zfR (a:Nat) (b:Bool) (rows:List (BitVec 64)):List D:=[.agg [.int .i64 (a:Int),.bool b,dU rows]]
def zjz (p:PM) (a:Nat):List (BitVec 64):=(List.range p.W.toNat).map fun (w:Nat)=>zaC p (a:Int) (w:Int)
def zaQ (p:PM) (a:Nat):List (List D):=((List.range p.cell.length).drop a).flatMap fun a=>[zfR a false (zjz p a),zfR a true (zW p a)]
theorem zo4 {p:PM} {a:Nat} (ha:a < p.cell.length):zaQ p a=zfR a false (zjz p a)::zfR a true (zW p a)::zaQ p (a+1):=by
 unfold zaQ
 rw [List.drop_eq_getElem_cons (by simpa using ha),List.flatMap_cons]
 simp
theorem zqF {p:PM} {a:Nat} (ha:p.cell.length≤a):zaQ p a=[]:=by
 unfold zaQ
 rw [List.drop_eq_nil_of_le (by simpa using ha)];rfl
theorem zpB (hR:zds T) (p:PM) (hp:zas p.rank) (hc0:zm p=0):It Tryz.prog T zaN [.ptr 0 0] [zay p] (zaQ p 0):=by
 have hg:=zz hc0
 have w1:=hg.w1
 have w2:=hg.w2
 have n4:=hg.n4
 refine zr8 zw zlr rfl (by show 2≤51;decide) fun l=>?_
 (repeat' ((conv=>whnf);first|refine vJ fun hg=>?_|refine vT ?_));all_goals try conv=>whnf
 refine zn (fun (a:Nat)=>[(0,.yld l),(1,.ptr 0 0),(10,.d (.int .i64 ((p.cell.map dI).length:Int))),(11,.d (.int .i64 ((a:Int))))]) (fun (a:Nat)=>[(0,some (zay p)),(1,some (.todo (some (zaQ p a))))]) 2 (fun (a:Nat)=>a≤p.cell.length) (fun (a:Nat)=>p.cell.length - a) (0) [(0,0),(1,1)] [] (by simp) (by (refine ⟨rfl,rfl,rfl,?_,?_⟩;repeat' first|exact trivial|exact rfl|refine And.intro ?_ ?_|refine ⟨_,rfl,?_⟩|decide)) ?_
 rintro a ha
 by_cases hal:a < p.cell.length
 ·have hd:=zo4 hal
  have cw:=zx1 (T:=T) hR p hp (a:Int)
  rw [show zdx p (a:Int)=(zW p a,0) by rw [zdx,if_neg (not_not_intro hc0),if_neg (by omega)];rfl] at cw
  (repeat' ((conv=>whnf);first|refine vA ?_|(refine vF ?_ ?_<;>intro hc<;>try simp only [vL] at hc)|refine vK fun hg=>?_|refine vT ?_|(refine vP ?_ ?_;·omega)|fail));all_goals try conv=>whnf
  ·refine zn (fun ((w,zs):Nat×List D)=>[(0,.yld l),(1,.ptr 0 0),(3,.d (.int .i64 ((a:Int)))),(4,.own 2),(10,.d (.int .i64 ((p.cell.map dI).length:Int))),(11,.d (.int .i64 ((a:Int)))),(18,.d (.int .i64 ((List.replicate p.W.toNat (D.u64 (0:BitVec 64))).length:Int))),(19,.d (.int .i64 ((w:Int))))]) (fun ((w,zs):Nat×List D)=>[(0,some (zay p)),(1,some (.todo (some (zaQ p a)))),(2,some (.row 1 zs))]) 3 (fun ((w,zs):Nat×List D)=>w≤p.W.toNat∧zs=(List.range p.W.toNat).map fun (u:Nat)=>D.u64 (if u < w then zaC p (a:Int) (u:Int) else 0)) (fun ((w,zs):Nat×List D)=>p.W.toNat - w) ((0,List.replicate p.W.toNat (D.u64 0))) [(0,0),(1,1),(2,2)] [] (⟨by simp,by simp only [Nat.not_lt_zero,if_false];exact zaW _ _⟩) (by (refine ⟨rfl,rfl,rfl,?_,?_⟩;repeat' first|exact trivial|exact rfl|refine And.intro ?_ ?_|refine ⟨_,rfl,?_⟩|decide)) ?_
   rintro ⟨w,zs⟩ ⟨hw,hz⟩
   have hzl:zs.length=p.W.toNat:=by rw [hz];simp
   by_cases hwl:w < p.W.toNat
   ·(repeat' ((conv=>whnf);first|refine vA ?_|(refine vF ?_ ?_<;>intro hc<;>try simp only [vL] at hc)|refine vT ?_|((first|refine vO ?_ ?_|refine vP ?_ ?_);·omega)|refine yD (zBn hR p hp (a:Int) (w:Int)) ⟨⟨rfl,rfl⟩,⟨rfl,rfl⟩,⟨rfl,rfl⟩,rfl⟩ rfl ?_));all_goals try conv=>whnf
    ·refine ⟨(w+1,_),[(0,0),(1,1),(2,2)],[],?_,?_,by (refine ⟨rfl,rfl,rfl,?_,?_⟩;repeat' first|exact trivial|exact rfl|refine And.intro ?_ ?_|refine ⟨_,rfl,?_⟩|decide)⟩
     ·refine ⟨by (omega),?_⟩
      rw [hz]
      refine (zbs _).trans (zt fun u hu=>?_)
      show (if u=w then _ else _)=_
      by_cases e:u=w
      ·subst e
       rw [if_pos rfl,if_pos (show u < u+1 by omega)]
      ·rw [if_neg e]
       by_cases e2:u < w
       ·rw [if_pos e2,if_pos (show u < w+1 by omega)]
       ·rw [if_neg e2,if_neg (show ¬ u < w+1 by omega)]
     ·((simp only [vM] at *;omega))
    all_goals omega
   ·have e0:w=p.W.toNat:=by omega
    obtain rfl:zs=(zjz p a).map D.u64:=by
     rw [hz];unfold zjz;rw [List.map_map]
     exact zt fun u hu=>by rw [if_pos (by omega)];rfl
    (repeat' ((conv=>whnf);first|refine vA ?_|(refine vF ?_ ?_<;>intro hc<;>try simp only [vL] at hc)|refine vT ?_|refine yN cw ⟨⟨rfl,rfl⟩,⟨rfl,rfl⟩,rfl⟩ ?_));all_goals try conv=>whnf
    ·omega
    ·refine ⟨rfl,zfR a false (zjz p a),zfR a true (zW p a)::zaQ p (a+1),congrArg (fun l=>some (Ob.todo (some l))) hd,rfl,rfl,rfl,?_,?_⟩
     ·(repeat' ((conv=>whnf);first|refine vE ?_|refine vG ?_|refine vT ?_));all_goals try conv=>whnf
      refine ⟨rfl,zfR a true (zW p a),zaQ p (a+1),rfl,rfl,rfl,rfl,?_,?_⟩
      ·(repeat' ((conv=>whnf);first|refine vE ?_|refine vG ?_|refine vT ?_|(refine vO ?_ ?_;·omega)|fail));all_goals try conv=>whnf
       exact ⟨a+1,[(0,0),(1,1)],[],by (omega),by (omega),by (refine ⟨rfl,rfl,rfl,?_,?_⟩;repeat' first|exact trivial|exact rfl|refine And.intro ?_ ?_|refine ⟨_,rfl,?_⟩|decide)⟩
      ·(repeat' ((conv=>whnf);first|refine vE ?_|refine vH ?_|refine vT ?_));all_goals try conv=>whnf
       right;rfl
     ·(repeat' ((conv=>whnf);first|refine vE ?_|refine vH ?_|refine vT ?_));all_goals try conv=>whnf
      right;rfl
  ·omega
 ·(repeat' ((conv=>whnf);first|refine vA ?_|(refine vF ?_ ?_<;>intro hc<;>try simp only [vL] at hc)|refine vK fun hg=>?_|refine vT ?_|(refine vP ?_ ?_;·omega)|fail));all_goals try conv=>whnf
  ·omega
  ·left;exact congrArg (fun l=>some (Ob.todo (some l))) (zqF (by omega))
theorem zrZ (p:PM):Fn Tryz.prog T zdX [.d (dPM p)] [] (.fn zaN [.ptr 0 0]) [some (zay p)]:=by
 refine zag zw zns (by show 1≤4;decide) _ (fun e env mem n h=>h) ?_
 (repeat' ((conv=>whnf);refine vT ?_));all_goals try conv=>whnf
 exact ⟨trivial,_,[(0,0)],[],rfl,.inl (by (repeat' first|exact rfl|refine And.intro ?_ ?_|refine ⟨_,rfl,?_⟩)),⟨rfl,rfl,rfl,trivial,by (repeat' first|exact trivial|exact rfl|refine And.intro ?_ ?_|refine ⟨_,rfl,?_⟩|exact of_decide_eq_true rfl)⟩,trivial⟩
def zb4:Nat→List (BitVec 64)→List (D×D)
 | _,[]=>[]
 | i,x::r=>(.u64 x,.int .i64 (i:Int))::zb4 (i+1) r
def zih (dl:List (BitVec 64)) (x:BitVec 64):List (BitVec 64):=if x∈dl then dl else dl++[x]
theorem zpL : ∀ (dl:List (BitVec 64)) (i:Nat),(zb4 i dl).length=dl.length
 | [],_=>rfl
 | x::r,i=>by simp [zb4,zpL r (i+1)]
theorem zo6 (x:BitVec 64) : ∀ (dl:List (BitVec 64)) (i:Nat),zb4 i (dl++[x])=zb4 i dl++[(.u64 x,.int .i64 ((i+dl.length:Nat):Int))]
 | [],i=>by simp [zb4]
 | y::r,i=>by
  rw [List.cons_append,zb4,zb4,zo6 x r (i+1),List.cons_append,List.length_cons,show i+1+r.length=i+(r.length+1) by omega]
theorem zsi (x:BitVec 64) : ∀ (dl:List (BitVec 64)) (i:Nat),zac (zb4 i dl) (.u64 x)=some (if x∈dl then some (.int .i64 ((i+dl.idxOf x:Nat):Int)) else none)
 | [],i=>by simp [zb4,zac]
 | y::r,i=>by
  have ih:=zsi x r (i+1)
  show (match D.eqk (.u64 x) (.u64 y) with
   | some true=>some (some (D.int .i64 (i:Int)))
   | some false=>zac (zb4 (i+1) r) (.u64 x)
   | none=>none)=_
  show (match some (decide (x=y)) with
   | some true=>some (some (D.int .i64 (i:Int)))
   | some false=>zac (zb4 (i+1) r) (.u64 x)
   | none=>none)=_
  by_cases e:x=y
  ·subst e;simp
  ·rw [decide_eq_false e]
   show zac (zb4 (i+1) r) (.u64 x)=_
   rw [ih,List.idxOf_cons]
   have:(y==x)=false:=by simp [Ne.symm e]
   rw [this]
   by_cases hm:x∈r
   ·rw [if_pos hm,if_pos (List.mem_cons_of_mem _ hm)]
    show some (some (D.int .i64 _))=some (some (D.int .i64 _))
    congr 4
    simp only [cond_false]
    omega
   ·rw [if_neg hm,if_neg (by simp [e,hm])]
theorem zBg (s:BitVec 64) (k m:Nat):(s >>> k&&&(1:BitVec 64)) <<< m=if s.getLsbD k=true then 1#64 <<< m else 0#64:=by
 by_cases h:s.getLsbD k=true
 ·rw [if_pos h,show s >>> k&&&(1:BitVec 64)=1#64 from (zee s k).2 h]
 ·rw [if_neg h,show s >>> k&&&(1:BitVec 64)=0#64 from (zeP s k).2 (by simpa using h)];simp
theorem zto {q:Nat→Nat} {s:BitVec 64} {k:Nat} : zZ q s k|||(s >>> k&&&(1:BitVec 64)) <<< q k=zZ q s (k+1):=by
 rw [zBg,ziP]
 split<;>simp
theorem zCg {n:Nat} {q:Nat→Nat} (hq:zdM n q) (hn:n≤64) (s:BitVec 64) (dl:List (BitVec 64)) (hdl:dl.length≤64):Fn Tryz.prog T zb2 [.d (.u64 s),.ptr 0 0,.ptr 1 0] [.box [.d (dI (ptL n q))],.box [.map 2],.map (zb4 0 dl)]
  (.d (.int .i64 (((zih dl (zZ q s n)).idxOf (zZ q s n):Nat):Int))) [some (.box [.d (dI (ptL n q))]),some (.box [.map 2]),some (.map (zb4 0 (zih dl (zZ q s n))))]:=by
 refine zag zw zlq (by show 3≤41;decide) _ (fun e env mem n h=>h) ?_
 (repeat' ((conv=>whnf);first|refine vA ?_|refine vJ fun hg=>?_|refine vT ?_));all_goals try conv=>whnf
 refine zn (fun ((k,o):Nat×BitVec 64)=>[(0,.d (.u64 (s))),(1,.ptr 0 0),(2,.ptr 1 0),(5,.d (.u64 (o))),(10,.d (dI (ptL n q))),(11,.d (.int .i64 (((ptL n q).map (D.int .i64)).length:Int))),(12,.d (.int .i64 ((k:Int)))),(1000000,.ptr 0 0),(1000001,.ptr 1 0),(1000002,.map 2)]) (fun ((k,o):Nat×BitVec 64)=>[(0,some (.box [.d (dI (ptL n q))])),(1,some (.box [.map 2])),(2,some (.map (zb4 0 dl)))]) 3 (fun ((k,o):Nat×BitVec 64)=>k≤n∧o=zZ q s k) (fun ((k,o):Nat×BitVec 64)=>n - k) ((0,0#64)) [(0,0),(1,1),(2,2)] [] (⟨by simp,rfl⟩) (by (refine ⟨rfl,rfl,rfl,?_,?_⟩;repeat' first|exact trivial|exact rfl|refine And.intro ?_ ?_|refine ⟨_,rfl,?_⟩|decide)) ?_
 rintro ⟨k,o⟩ ⟨hk,hI⟩
 have hpl:=zcu (n:=n) (q:=q)
 by_cases hkl:k < n
 ·have e1:(ptL n q)[k]? = some ((q k:Nat):Int):=zb1 hkl
  have b1:=hq.le k hkl
  (repeat' ((conv=>whnf);first|refine vA ?_|(refine vF ?_ ?_<;>intro hc<;>try simp only [vL] at hc)|refine vT ?_|refine vN ‹_› ?_|((first|refine vO ?_ ?_|refine vP ?_ ?_);·omega)|fail));all_goals try conv=>whnf
  ·refine ⟨(k+1,_),[(0,0),(1,1),(2,2)],[],?_,?_,by (refine ⟨rfl,rfl,rfl,?_,?_⟩;repeat' first|exact trivial|exact rfl|refine And.intro ?_ ?_|refine ⟨_,rfl,?_⟩|decide)⟩
   ·refine ⟨by (omega),?_⟩
    rw [hI];exact zto
   ·((simp only [vM] at *;omega))
  ·omega
 ·have e0:k=n:=by omega
  subst e0
  subst hI
  have hfd:=zsi (zZ q s k) dl 0
  by_cases hm:zZ q s k∈dl
  ·rw [if_pos hm,Nat.zero_add] at hfd
   have ea:zih dl (zZ q s k)=dl:=if_pos hm
   rw [ea]
   (repeat' ((conv=>whnf);first|refine vA ?_|refine vE ?_|refine vG ?_|(refine vF ?_ ?_<;>intro hc<;>try simp only [vL] at hc)|refine vT ?_|(refine vQ ?_ fun x hx=>?_;·omega)|((first|refine vO ?_ ?_|refine vP ?_ ?_);·omega)|refine zn9.mk _ ‹_› ?_));all_goals try conv=>whnf
   ·omega
   ·refine ⟨trivial,_,[(0,0),(1,1),(2,2)],[],rfl,.inl (by (repeat' exact rfl)),⟨by rfl,by rfl,by rfl,trivial,by (repeat' first|exact trivial|exact rfl|refine And.intro ?_ ?_|refine ⟨_,rfl,?_⟩|exact of_decide_eq_true rfl)⟩,by (repeat' first|exact trivial|exact rfl|refine And.intro ?_ ?_|refine ⟨_,rfl,?_⟩)⟩
  ·rw [if_neg hm] at hfd
   have ea:zih dl (zZ q s k)=dl++[zZ q s k]:=if_neg hm
   have eb:zb4 0 (dl++[zZ q s k])=zb4 0 dl++[(.u64 (zZ q s k),.int .i64 ((zb4 0 dl).length:Int))]:=by rw [zo6,zpL,Nat.zero_add]
   have ec:(dl++[zZ q s k]).idxOf (zZ q s k)=(zb4 0 dl).length:=by rw [zpL,List.idxOf_append,if_neg hm];simp
   have hfn:zac (zb4 0 dl++[(.u64 (zZ q s k),.int .i64 ((zb4 0 dl).length:Int))]) (.u64 (zZ q s k))=some (some (.int .i64 ((zb4 0 dl).length:Int))):=by rw [zfL _ _ _ hfd];simp [zac,D.eqk,D.same]
   rw [ea,eb,ec]
   (repeat' ((conv=>whnf);first|refine vA ?_|(refine vF ?_ ?_<;>intro hc<;>try simp only [vL] at hc)|refine vT ?_|(refine vQ ?_ fun x hx=>?_;·omega)|((first|refine vO ?_ ?_|refine vP ?_ ?_);·omega)|refine zn9.mk _ ‹_› ?_));all_goals try conv=>whnf
   ·omega
   ·refine ⟨trivial,_,[(0,0),(1,1),(2,2)],[],rfl,.inl (by (repeat' exact rfl)),⟨by rfl,by rfl,by rfl,trivial,by (repeat' first|exact trivial|exact rfl|refine And.intro ?_ ?_|refine ⟨_,rfl,?_⟩|exact of_decide_eq_true rfl)⟩,by (repeat' first|exact trivial|exact rfl|refine And.intro ?_ ?_|refine ⟨_,rfl,?_⟩)⟩
end Go.Ab
namespace Go.Ab
open Go Go.Proofs
set_option maxRecDepth 10000
set_option maxHeartbeats 4000000
variable {T:Nat→Obj→Prop}
def zfU (bl:Nat→BitVec 64) (k:Nat):List (BitVec 64):=(List.range k).foldl (fun l w=>zih l (bl w)) []
theorem zhp (bl:Nat→BitVec 64) (k:Nat):zfU bl (k+1)=zih (zfU bl k) (bl k):=by
 unfold zfU;rw [List.range_succ,List.foldl_append];rfl
theorem zpk (l:List (BitVec 64)) (x:BitVec 64):(∃ t,zih l x=l++t)∧x∈zih l x∧(zih l x).length≤l.length+1:=by
 unfold zih
 split
 ·rename_i h;exact ⟨⟨[],by simp⟩,h,by omega⟩
 ·exact ⟨⟨[x],rfl⟩,by simp,by simp⟩
theorem zuq (bl:Nat→BitVec 64) : ∀ k,(zfU bl k).length≤k
 | 0=>by simp [zfU]
 | k+1=>by
  rw [zhp]
  have:=(zpk (zfU bl k) (bl k)).2.2
  have:=zuq bl k
  omega
theorem zur (bl:Nat→BitVec 64) {k:Nat} : ∀ m,k≤m → ∃ t,zfU bl m=zfU bl k++t
 | 0,h=>⟨[],by have:k=0:=Nat.le_zero.1 h;subst this;simp⟩
 | m+1,h=>by
  by_cases e:k=m+1
  ·exact ⟨[],by rw [e];simp⟩
  ·obtain ⟨t,ht⟩:=zur bl (k:=k) m (by omega)
   obtain ⟨⟨t',ht'⟩,-⟩:=zpk (zfU bl m) (bl m)
   exact ⟨t++t',by rw [zhp,ht',ht];simp⟩
def zeV (bl:Nat→BitVec 64) (w:Nat):Nat:=(zfU bl (w+1)).idxOf (bl w)
theorem zv1 (bl:Nat→BitVec 64) {w m:Nat} (h:w < m):zeV bl w=(zfU bl m).idxOf (bl w)∧bl w∈zfU bl m:=by
 obtain ⟨t,ht⟩:=zur bl (k:=w+1) m (by omega)
 have hm:bl w∈zfU bl (w+1):=by rw [zhp];exact (zpk _ _).2.1
 rw [ht]
 exact ⟨by rw [List.idxOf_append,if_pos hm];rfl,List.mem_append_left _ hm⟩
theorem zz8 (bl:Nat→BitVec 64) {v w n:Nat} (hv:v < n) (hw:w < n):zeV bl v=zeV bl w↔bl v=bl w:=by
 obtain ⟨h1,m1⟩:=zv1 bl hv
 obtain ⟨h2,m2⟩:=zv1 bl hw
 rw [h1,h2]
 constructor
 ·intro h
  have g1:=List.getElem_idxOf (List.idxOf_lt_length_of_mem m1)
  have g2:=List.getElem_idxOf (List.idxOf_lt_length_of_mem m2)
  rw [← g1,← g2]
  congr 1
 ·intro h;rw [h]
theorem zyX (n:Nat) (q:Nat→Nat):za3 n [] q=zew q:=by
 funext v w;simp [za3,zew]
theorem zyY {n i:Nat} {rels:List (Nat→BitVec 64)} {q:Nat→Nat} {r:Nat→BitVec 64} (hr:rels[i]? = some r) {w:Nat} (hw:w < n) :
  zV (zfV (ptL n (zV (za3 n (rels.take i) q))) (ptL n (zeV fun w=>zZ q (r w) n))) w=zV (za3 n (rels.take (i+1)) q) w:=by
 refine zpG fun v hv=>?_
 have h1:at0 (ptL n (zV (za3 n (rels.take i) q))) v=((zV (za3 n (rels.take i) q) v:Nat):Int):=zy (zb1 (by omega))
 have h2:at0 (ptL n (zV (za3 n (rels.take i) q))) w=((zV (za3 n (rels.take i) q) w:Nat):Int):=zy (zb1 hw)
 have h3:at0 (ptL n (zeV fun w=>zZ q (r w) n)) v=((zeV (fun w=>zZ q (r w) n) v:Nat):Int):=zy (zb1 (by omega))
 have h4:at0 (ptL n (zeV fun w=>zZ q (r w) n)) w=((zeV (fun w=>zZ q (r w) n) w:Nat):Int):=zy (zb1 hw)
 unfold zfV
 rw [h1,h2,h3,h4]
 have e1:=zka (zfe n (rels.take i) q) (v:=v) (w:=w)
 have e2:=zz8 (fun w=>zZ q (r w) n) (v:=v) (w:=w) (n:=n) (by omega) hw
 rw [Bool.eq_iff_iff,decide_eq_true_eq]
 rw [show (((zV (za3 n (rels.take i) q) v:Nat):Int)=((zV (za3 n (rels.take i) q) w:Nat):Int))↔za3 n (rels.take i) q v w=true from by rw [← e1];omega]
 rw [show (((zeV (fun w=>zZ q (r w) n) v:Nat):Int)=((zeV (fun w=>zZ q (r w) n) w:Nat):Int))↔zZ q (r v) n=zZ q (r w) n from by rw [← e2];omega]
 unfold za3
 rw [List.take_add_one,hr]
 simp [and_assoc]
theorem zq7 (p:PM) (a:Nat):zW p a=(List.range p.W.toNat).map (wkB p a):=by
 have e : ∀ w,w < p.W.toNat→wkB p a w=zbr (za p.cell a) (za p.rank a) w p.W.toNat:=fun w hw=>by
  unfold wkB uAt zW
  rw [List.getD,List.getElem?_map,List.getElem?_range hw];rfl
 exact (zt e).symm
def zlQ (p:PM) (a:Nat):List (Nat→BitVec 64):=((List.range p.cell.length).drop a).flatMap fun (a:Nat)=>[fun (w:Nat)=>zaC p (a:Int) (w:Int),fun w=>wkB p a w]
theorem zxk {p:PM} {a:Nat} (ha:a < p.cell.length):zlQ p a=(fun (w:Nat)=>zaC p (a:Int) (w:Int))::(fun w=>wkB p a w)::zlQ p (a+1):=by
 unfold zlQ
 rw [List.drop_eq_getElem_cons (by simpa using ha),List.flatMap_cons]
 simp
theorem zyO {p:PM} {a:Nat} (ha:p.cell.length≤a):zlQ p a=[]:=by
 unfold zlQ
 rw [List.drop_eq_nil_of_le (by simpa using ha)];rfl
theorem zpE {p:PM} : ∀ (k a:Nat),p.cell.length - a=k→(zaQ p a).length=(zlQ p a).length ∧ ∀ {i:Nat} {x:List D},(zaQ p a)[i]? = some x → ∃ (ag:Nat) (b:Bool) (r:Nat→BitVec 64),x=zfR ag b ((List.range p.W.toNat).map r)∧(zlQ p a)[i]? = some r
 | 0,a,h=>by
  rw [zqF (p:=p) (a:=a) (by omega),zyO (p:=p) (a:=a) (by omega)]
  exact ⟨rfl,fun {i x} h=>by simp at h⟩
 | k+1,a,h=>by
  obtain ⟨h1,h2⟩:=zpE (p:=p) k (a+1) (by omega)
  rw [zo4 (p:=p) (a:=a) (by omega),zxk (p:=p) (a:=a) (by omega)]
  refine ⟨by simp [h1],fun {i x} hx=>?_⟩
  match i,hx with
  | 0,hx=>exact ⟨a,false,_,(Option.some.inj hx).symm,rfl⟩
  | 1,hx=>exact ⟨a,true,_,by rw [← zq7];exact (Option.some.inj hx).symm,rfl⟩
  | i+2,hx=>exact h2 hx
theorem zBx {p:PM} {i:Nat} {x:List D} (h:(zaQ p 0)[i]? = some x) : ∃ (a:Nat) (b:Bool) (r:Nat→BitVec 64),x=zfR a b ((List.range p.W.toNat).map r)∧(zbF p)[i]? = some r:=(zpE (p:=p) p.cell.length 0 (by omega)).2 h
theorem zyt (p:PM):(zaQ p 0).length=(zbF p).length:=(zpE (p:=p) p.cell.length 0 (by omega)).1
theorem zzW (hR:zds T) (p:PM) (hp:zas p.rank) (hc0:zm p=0) {q:Nat→Nat} (hq:zdM p.W.toNat q):Fn Tryz.prog T zdW [.d (dPM p),.d (dI (ptL p.W.toNat q))] [] (.d (dI (ptL p.W.toNat (zbR p.W.toNat (zbF p) q)))) []:=by
 have hg:=zz hc0
 have w1:=hg.w1
 have w2:=hg.w2
 have h64:=W64 hc0
 have hpl:=zcu (n:=p.W.toNat) (q:=q)
 refine zh zw znr (by show 2≤43;decide) ?_
 (repeat' ((conv=>whnf);first|refine vA ?_|refine vT ?_));all_goals try conv=>whnf
 refine zN.res (zrZ p) (by (repeat refine ⟨⟨rfl,rfl⟩,?_⟩);rfl) ?_
 (repeat' ((conv=>whnf);refine vT ?_));all_goals try conv=>whnf
 refine zhs (zpB hR p hp hc0) [3] [] (by first|((repeat refine ⟨⟨rfl,rfl⟩,?_⟩);rfl)|(repeat' first|exact rfl|refine And.intro ?_ ?_|refine ⟨_,rfl,?_⟩)) (by (repeat' first|exact rfl|refine And.intro ?_ ?_|refine ⟨_,rfl,?_⟩)) (by rfl) (by rfl) [(3,.ptr 0 0),(5,.ptr 1 0)] (fun (a:List Int)=>[(0,some (.box [.d (dI (ptL p.W.toNat q))])),(1,some (.box [.d (dI a)]))]) 2 (fun i (a:List Int)=>a=ptL p.W.toNat (zV (za3 p.W.toNat ((zbF p).take i) q))) (ptL p.W.toNat q) [(0,1),(1,2)] [] (zd8 fun w hw=>by rw [List.take_zero,zyX];exact (zzO hq hw).symm) (by (refine ⟨rfl,rfl,rfl,?_,?_⟩;repeat' first|exact trivial|exact rfl|refine And.intro ?_ ?_|refine ⟨_,rfl,?_⟩|decide)) ?_ ?_
 ·intro i x a hx ha
  obtain ⟨ag,bo,r,rfl,hr⟩:=zBx hx
  subst ha
  refine ⟨rfl,?_⟩
  obtain ⟨bl,hbl⟩ : ∃ bl:Nat→BitVec 64,bl=fun w=>zZ q (r w) p.W.toNat:=⟨_,rfl⟩
  (repeat' ((conv=>whnf);first|refine vA ?_|refine vJ fun hg=>?_|refine vK fun hg=>?_|refine vT ?_|(refine vP ?_ ?_;·(simp only [vM] at *;omega))|fail));all_goals try conv=>whnf
  refine zn (fun ((w,dl,zs):Nat×List (BitVec 64)×List D)=>[(3,.ptr 0 0),(5,.ptr 1 0),(6,.ptr 2 0),(8,.fn zb2 [.ptr 0 0,.ptr 4 0]),(9,.own 5),(21,.d (.int .i64 ((List.replicate (((ptL p.W.toNat q).map (D.int .i64)).length:Int).toNat (D.int .i64 0)).length:Int))),(22,.d (.int .i64 ((w:Int)))),(1000003,.ptr 0 0),(1000005,.ptr 1 0)]) (fun ((w,dl,zs):Nat×List (BitVec 64)×List D)=>[(0,some (.box [.d (dI (ptL p.W.toNat q))])),(1,some (.box [.d (dI (ptL p.W.toNat (zV (za3 p.W.toNat ((zbF p).take i) q))))])),(2,some (.box [.d (.int .i64 (ag:Int)),.d (.bool bo),.d (dU ((List.range p.W.toNat).map r))])),(3,some (.map (zb4 0 dl))),(4,some (.box [.map 3])),(5,some (.row 1 zs))]) 6 (fun ((w,dl,zs):Nat×List (BitVec 64)×List D)=>w≤p.W.toNat∧dl=zfU bl w∧zs=(List.range p.W.toNat).map fun u=>D.int .i64 (if u < w then (zeV bl u:Int) else 0)) (fun ((w,dl,zs):Nat×List (BitVec 64)×List D)=>p.W.toNat - w) ((0,[],_)) [(0,0),(1,1),(2,2),(3,3),(4,4),(5,5)] [] (⟨by simp,rfl,by simp only [Nat.not_lt_zero,if_false];rw [List.length_map,Int.toNat_natCast,zcu];exact zaW _ _⟩) (by (refine ⟨rfl,rfl,rfl,?_,?_⟩;repeat' first|exact trivial|exact rfl|exact .inl rfl|refine And.intro ?_ ?_|refine ⟨_,rfl,?_⟩|decide)) ?_
  rintro ⟨w,dl,zs⟩ ⟨hw,hdl,hz⟩
  have hzl:zs.length=p.W.toNat:=by rw [hz];simp
  by_cases hwl:w < p.W.toNat
  ·have er:((List.range p.W.toNat).map r)[w]? = some (r w):=by rw [List.getElem?_map,List.getElem?_range hwl];rfl
   have hdl64:dl.length≤64:=by rw [hdl];have:=zuq bl w;omega
   (repeat' ((conv=>whnf);first|refine vA ?_|(refine vF ?_ ?_<;>intro hc<;>try simp only [vL] at hc)|refine vT ?_|refine vN ‹_› ?_));all_goals try conv=>whnf
   ·refine zN.objs [0,4,3] (zCg hq h64 (r w) dl hdl64) (by (repeat' first|exact rfl|refine And.intro ?_ ?_|refine ⟨_,rfl,?_⟩)) (by (repeat' first|exact rfl|refine And.intro ?_ ?_|refine ⟨_,rfl,?_⟩)) (by rfl) (by rfl) (by simp) ?_
    (repeat' ((conv=>whnf);first|refine vT ?_|((first|refine vO ?_ ?_|refine vP ?_ ?_);·omega)|fail));all_goals try conv=>whnf
    ·refine ⟨(w+1,zih dl (zZ q (r w) p.W.toNat),_),[(0,0),(1,1),(2,2),(3,3),(4,4),(5,5)],[],?_,?_,by (refine ⟨rfl,rfl,rfl,?_,?_⟩;repeat' first|exact trivial|exact rfl|exact .inl rfl|refine And.intro ?_ ?_|refine ⟨_,rfl,?_⟩|decide)⟩
     ·refine ⟨by (omega),by rw [zhp,hdl,hbl],?_⟩
      rw [hz]
      refine (zbs _).trans (zt fun u hu=>?_)
      show (if u=w then _ else _)=_
      by_cases e:u=w
      ·subst e
       rw [if_pos rfl,if_pos (show u < u+1 by omega),zeV,zhp,hdl,hbl]
      ·rw [if_neg e]
       by_cases e2:u < w
       ·rw [if_pos e2,if_pos (show u < w+1 by omega)]
       ·rw [if_neg e2,if_neg (show ¬ u < w+1 by omega)]
     ·((simp only [vM] at *;omega))
    all_goals omega
   ·omega
  ·have e0:w=p.W.toNat:=by omega
   obtain rfl:zs=(ptL p.W.toNat (zeV bl)).map (D.int .i64):=by
    rw [hz];unfold ptL;rw [List.map_map]
    exact zt fun u hu=>by rw [if_pos (by omega)];rfl
   have cs:=ztX (T:=T) (zpF (zfe p.W.toNat ((zbF p).take i) q) p.W.toNat) h64 (ptL p.W.toNat (zeV bl)) zcu
   (repeat' ((conv=>whnf);first|refine vA ?_|(refine vF ?_ ?_<;>intro hc<;>try simp only [vL] at hc)|refine vT ?_|(refine vQ ?_ fun x hx=>?_;·omega)|refine yN cs ⟨⟨rfl,rfl⟩,⟨rfl,rfl⟩,rfl⟩ ?_));all_goals try conv=>whnf
   ·omega
   ·exact ⟨ptL p.W.toNat (zV (zfV (ptL p.W.toNat (zV (za3 p.W.toNat ((zbF p).take i) q))) (ptL p.W.toNat (zeV bl)))),[(0,0),(1,1)],[],zd8 fun u hu=>by rw [hbl];exact zyY hr hu,by (refine ⟨rfl,rfl,rfl,?_,?_⟩;repeat' first|exact trivial|exact rfl|refine And.intro ?_ ?_|refine ⟨_,rfl,?_⟩|decide)⟩
 ·intro a ha
  (repeat' ((conv=>whnf);refine vT ?_));all_goals try conv=>whnf
  rw [zyt,List.take_length] at ha
  subst ha;rfl
end Go.Ab
namespace Go.Ab
open Go Go.Proofs
set_option maxRecDepth 10000
set_option maxHeartbeats 4000000
variable {T:Nat→Obj→Prop}
theorem zzs (n:Nat):zdM n (fun _=>0):=⟨fun w _=>Nat.zero_le w,fun w _=>rfl⟩
theorem zwN (p:PM) {w:Nat} (hw:w < p.W.toNat):zV (zfV (ptL p.W.toNat fun _=>0) (zjO p)) w=zs2 p w:=by
 refine zpG fun v hv=>?_
 have h1:at0 (ptL p.W.toNat fun _=>0) v=0:=zy (zb1 (q:=fun _=>0) (by omega))
 have h2:at0 (ptL p.W.toNat fun _=>0) w=0:=zy (zb1 (q:=fun _=>0) hw)
 have h3:at0 (zjO p) v=((zeg p v:Nat):Int):=zy (zb1 (by omega))
 have h4:at0 (zjO p) w=((zeg p w:Nat):Int):=zy (zb1 hw)
 unfold zfV zew
 rw [h1,h2,h3,h4]
 rw [Bool.eq_iff_iff,decide_eq_true_eq,decide_eq_true_eq]
 omega
def zeL (p:PM) (j:Nat):Prop:=ptL p.W.toNat (zaA p (j+1))=ptL p.W.toNat (zaA p j)
instance (p:PM) (j:Nat):Decidable (zeL p j):=inferInstanceAs (Decidable (_=_))
def zcL (p:PM):Nat:=zV (fun v _=>decide (zeL p v)) 65
theorem zAU {p:PM} {j:Nat} (hj:j < 65) (h:zeL p j) (hn : ∀ i,i < j → ¬zeL p i):zcL p=j:=by
 have h1:=zh3 (fun v _=>decide (zeL p v)) 65
 rcases Nat.lt_trichotomy (zcL p) j with hl|hl|hl
 ·exfalso
  rcases h1.1 with ⟨h2,h3⟩|h2
  ·exact hn _ hl (of_decide_eq_true h3)
  ·unfold zcL at hl;omega
 ·exact hl
 ·have:=h1.2 j hl
  simp [h] at this
theorem zwj {p:PM} (hc0:zm p=0) {j:Nat} (hn : ∀ i,i < j → ¬zeL p i):j≤64:=by
 have h64:=W64 hc0
 have h1:=zln (rels:=zbF p) (zdv p p.W.toNat) (k:=j) (fun i hi=>by
  refine Classical.byContradiction fun hne=>hn i hi (zd8 fun w hw=>?_)
  exact Classical.byContradiction fun hw'=>hne ⟨w,hw,hw'⟩) j (Nat.le_refl _)
 have h2:=zef p.W.toNat (zbl p.W.toNat (zbF p) (zs2 p) j)
 omega
def zgH (p:PM):List (List Int):=(List.range (zcL p+1)).map fun i=>ptL p.W.toNat (zaA p i)
theorem zwX (hR:zds T) (p:PM) (hp:zas p.rank) (hc0:zm p=0):Fn Tryz.prog T zga [.d (dPM p)] [] (.d (dII (zgH p))) []:=by
 have hg:=zz hc0
 have w1:=hg.w1
 have w2:=hg.w2
 have h64:=W64 hc0
 have cs:=ztX (T:=T) (zzs p.W.toNat) h64 (zjO p) zcu
 rw [show dI (ptL p.W.toNat fun _=>0)=D.arr 1 (List.replicate p.W.toNat (D.int .i64 0)) by show D.arr 1 ((ptL p.W.toNat fun _=>0).map (D.int .i64))=_;unfold ptL;rw [List.map_map];exact congrArg _ (zaW _ _).symm,zd8 fun w hw=>zwN p hw] at cs
 refine zh zw zmm (by show 1≤30;decide) ?_
 (repeat' ((conv=>whnf);first|refine vA ?_|refine vT ?_|(refine vP ?_ ?_;·omega)|(refine vU ?_ ?_;·kernel_rfl)|refine yN (zya p hc0) ⟨⟨rfl,rfl⟩,rfl⟩ ?_|refine yN cs ⟨⟨rfl,rfl⟩,⟨rfl,rfl⟩,rfl⟩ ?_));all_goals try conv=>whnf
 refine zn (fun ((j,zs):Nat×List D)=>[(1,.ptr 0 0),(3,.d (dI (ptL p.W.toNat (zaA p j)))),(5,.own 1)]) (fun ((j,zs):Nat×List D)=>[(0,some (zay p)),(1,some (.row 1 zs))]) 2 (fun ((j,zs):Nat×List D)=>(∀ i,i < j → ¬zeL p i)∧zs=(List.range (j+1)).map fun i=>dI (ptL p.W.toNat (zaA p i))) (fun ((j,zs):Nat×List D)=>65 - j) ((0,[dI (ptL p.W.toNat (zaA p 0))])) [(0,0),(1,2)] [] (⟨fun i hi=>by omega,rfl⟩) (by (refine ⟨rfl,rfl,rfl,?_,?_⟩;repeat' first|exact trivial|exact rfl|refine And.intro ?_ ?_|refine ⟨_,rfl,?_⟩|decide)) ?_
 rintro ⟨j,zs⟩ ⟨hn,hz⟩
 have hj:=zwj hc0 hn
 have hzl:zs.length=j+1:=by rw [hz];simp
 have cf:Fn Tryz.prog T zdW [.d (dPM p),.d (dI (ptL p.W.toNat (zaA p j)))] [] (.d (dI (ptL p.W.toNat (zaA p (j+1))))) []:=zzW hR p hp hc0 (zhP p j)
 (repeat' ((conv=>whnf);refine vT ?_));all_goals try conv=>whnf
 refine zN.dataN (cf) (by (repeat refine ⟨⟨rfl,rfl⟩,?_⟩);rfl) ?_
 (repeat' ((conv=>whnf);first|refine vA ?_|(refine vI ?_ ?_<;>intro hc)|refine vT ?_|(refine vP ?_ ?_;·(simp only [vM] at *;omega))|refine yD (ztT _ _) ⟨⟨rfl,rfl⟩,⟨rfl,rfl⟩,rfl⟩ rfl ?_));all_goals try conv=>whnf
 ·have hs:=zAU (p:=p) (by omega) (by simpa [zeL] using hc) hn
  refine congrArg (fun l=>some (D.arr 1 l)) ?_
  rw [hz,zgH,hs,List.map_map];rfl
 ·refine ⟨(j+1,_),[(0,0),(1,3)],[],?_,?_,by (refine ⟨rfl,rfl,rfl,?_,?_⟩;repeat' first|exact trivial|exact rfl|refine And.intro ?_ ?_|refine ⟨_,rfl,?_⟩|decide)⟩
  ·refine ⟨fun i hi=>?_,by rw [hz,List.range_succ (n:=j+1),List.map_append];rfl⟩
   by_cases e:i=j
   ·subst e;simpa [zeL] using hc
   ·exact hn i (by omega)
  ·((simp only [vM] at *;omega))
def zcc (p:PM) (n:Int):List Int×Int:=if zm p≠0 then ([],zm p) else if n < 0 then ([],2) else (ptL p.W.toNat (zaA p n.toNat),0)
abbrev dLI (x:List Int×Int):D := .tup [dI x.1,.int .i64 x.2]
theorem zwi {p:PM} (hc0:zm p=0):zcL p≤64∧zeL p (zcL p):=by
 have h1:=zh3 (fun v _=>decide (zeL p v)) 65
 have h2 : ∀ i,i < zcL p → ¬zeL p i:=fun i hi=>by have:=h1.2 i hi;simpa using this
 have h3:=zwj hc0 h2
 refine ⟨h3,?_⟩
 rcases h1.1 with ⟨h4,h5⟩|h4
 ·exact of_decide_eq_true h5
 ·unfold zcL at h3;omega
theorem zyV {p:PM} (hc0:zm p=0) {n:Nat} : (zgH p)[min n (zcL p)]? = some (ptL p.W.toNat (zaA p n)):=by
 obtain ⟨h1,h2⟩:=zwi hc0
 unfold zgH
 rw [List.getElem?_map,List.getElem?_range (by omega)]
 show some (ptL p.W.toNat (zaA p (min n (zcL p))))=_
 congr 1
 by_cases h:n≤zcL p
 ·rw [show min n (zcL p)=n by omega]
 ·rw [show min n (zcL p)=zcL p by omega]
  exact (zd8 fun w hw=>zlo (rels:=zbF p) (zdv p p.W.toNat) (k:=zcL p) (fun w hw=>zBH h2 hw) n (by omega) w hw).symm
theorem zwV (hR:zds T) (p:PM) (hp:zas p.rank) (n:Int):Fn Tryz.prog T zf9 [.d (dPM p),.d (.int .i64 n)] [] (.d (dLI (zcc p n))) []:=by
 refine zh zw zml (by show 2≤25;decide) ?_
 by_cases hc0:zm p=0
 ·have hlen:(zgH p).length=zcL p+1:=by simp [zgH]
  have hst:=(zwi hc0).1
  have hat:=zyV hc0 (n:=n.toNat)
  (repeat' ((conv=>whnf);first|refine vA ?_|((first|refine vD ?_ ?_|refine vF ?_ ?_)<;>intro hc<;>try simp only [vL] at hc)|refine vJ fun hg=>?_|refine vT ?_|((first|refine vO ?_ ?_|refine vS ?_ fun x hx=>?_);·(simp only [vM] at *;omega))|refine yD (zei hR p hp) ⟨⟨rfl,rfl⟩,rfl⟩ rfl ?_|refine yN (zwX hR p hp hc0) ⟨⟨rfl,rfl⟩,rfl⟩ ?_));all_goals try conv=>whnf
  ·exact absurd hc0 hc
  ·rw [zcc,if_neg (by omega),if_pos hc];rfl
  ·have hi:(min n (↑(List.map dI (zgH p)).length - 1)).toNat=min n.toNat (zcL p):=by rw [List.length_map,hlen];omega
   rw [hi,hat] at hx
   injection hx with hx
   subst hx
   rw [zcc,if_neg (by omega),if_neg (by omega)];rfl
  all_goals skip
 ·(repeat' ((conv=>whnf);first|refine vA ?_|((first|refine vD ?_ ?_|refine vF ?_ ?_)<;>intro hc<;>try simp only [vL] at hc)|refine vT ?_|refine yD (zei hR p hp) ⟨⟨rfl,rfl⟩,rfl⟩ rfl ?_));all_goals try conv=>whnf
  ·rw [zcc,if_pos hc];rfl
  ·exact absurd ‹zm p=0› hc0
  ·exact absurd ‹zm p=0› hc0
theorem zt0 (hR:zds T) (p:PM) (hp:zas p.rank):Fn Tryz.prog T ze2 [.d (dPM p)] [] (.d (dLI (zcc p 64))) []:=by
 refine zh zw zjZ (by show 1≤8;decide) ?_
 (repeat' ((conv=>whnf);first|refine vT ?_|refine yN (zwV hR p hp 64) ⟨⟨rfl,rfl⟩,⟨rfl,rfl⟩,rfl⟩ ?_));all_goals try conv=>whnf
 ·rfl
end Go.Ab
namespace Go.Ab
open Go Go.Proofs Go.MapKept
theorem Sim.grown {B : zu} {ρ : Nat → V} {M : Nat → Option Ob} {F : Nat → Prop} {σ : Nat → Option Nat} {a : Act} {w w' : World} (h : Sim B ρ M F σ a w) (hg : w.grownBy w' none) : Sim B ρ M F σ a w' := by
  refine h.step ⟨fun id ob hid => .inr ⟨rfl, ob, hid, zbB.refl ob⟩, fun id h1 h2 => ⟨h1, h2⟩, hg.size, fun b _ hb => hg.block b hb (by simp), fun b _ hx => hx, fun id b c e _ _ hc => ⟨c, (hg.block b (zg hc) (by simp)).trans hc, rfl⟩⟩
    (fun id ob hid => .inl ⟨hid, rfl, fun b hb => ?_⟩) h.inj h.mine h.free ?_ (fun b hb => hg.block b (h.olt b hb) (by simp)) (fun _ _ h => h)
  · obtain ⟨o, ho⟩ := (h.mem id ob hid).block hb
    exact hg.block b (zg ho) (by simp)
  · refine ⟨hg.os.trans h.kept.os, hg.tape.trans h.kept.tape, hg.output.trans h.kept.output, Nat.le_trans h.kept.size hg.size, fun b hb hR => (hg.block b (Nat.lt_of_lt_of_le hb h.kept.size) (by simp)).trans (h.kept.block b hb hR), fun b c e hc => ?_⟩
    obtain ⟨c', h1, h2⟩ := h.kept.cells b c e hc
    exact ⟨c', (hg.block b (zg h1) (by simp)).trans h1, h2⟩
theorem zyL {w w' : World} {X : Nat → Prop} {cell rank : List Int} {es : Array MapEntry} {clock : Nat} {blk : Nat → Nat} (hX : ∀ b, w.heap.size ≤ b → ¬X b)
    (hG : Grp (O2 (w.heap.size + 1)) w' w.heap.size ((zJ cell rank cell.length).map fun p => (p.1, zeS p.2)) es clock blk) : zi X w' (.map (zhr cell rank)) (.map (some w.heap.size)) := by
  have hgl : ((zJ cell rank cell.length).map fun p => (p.1, zeS p.2)).length = (zB cell).length := by simp [zJ]
  have hgd : ∀ i, i < (zB cell).length → ((zJ cell rank cell.length).map fun p => (p.1, zeS p.2)).getD i default = ((zB cell).getD i 0, zai cell rank ((zB cell).getD i 0)) := by
    intro i hi
    simp only [zJ, List.take_length, List.map_map, List.getD, List.getElem?_map, List.getElem?_eq_getElem hi, Option.map_some, Option.getD_some, Function.comp, zvS]
    rfl
  refine .map _ _ es clock (hX _ (Nat.le_refl _)) (zg hG.heap) hG.heap (by rw [hG.size, hgl]; simp) hG.st (fun i hi => ?_) (fun i hi => ?_)
  · rw [List.length_map] at hi
    rw [hG.key i (by rw [hgl]; exact hi), hgd i hi, show ((zB cell).map fun c => (D.int .i64 c, dI (zai cell rank c))).getD i (.nil, .nil) = (D.int .i64 ((zB cell).getD i 0), dI (zai cell rank ((zB cell).getD i 0))) by simp [List.getD, hi]]
    exact .int .i64 _ (by simp)
  · rw [List.length_map] at hi
    have hv := hG.val i (by rw [hgl]; exact hi)
    rw [hgd i hi] at hv
    rw [show ((zB cell).map fun c => (D.int .i64 c, dI (zai cell rank c))).getD i (.nil, .nil) = (D.int .i64 ((zB cell).getD i 0), dI (zai cell rank ((zB cell).getD i 0))) by simp [List.getD, hi]]
    simp only
    generalize zai cell rank ((zB cell).getD i 0) = zs at hv
    replace hv : O2 (w.heap.size + 1) w' (es.getD i default).val (blk i) zs := hv
    obtain ⟨cap, c, e, q1, q2, q3, q4, q5, q6, q7⟩ := hv
    rw [q1]
    have hl : (zs.map (D.int .i64)).length = zs.length := List.length_map _
    rw [← hl]
    refine .arr 1 (zs.map (D.int .i64)) (blk i) 0 cap (fun j => c.getD j undef) (hX _ (by omega)) (zg q3) (fun x hx => ?_) (by omega) (by omega) (fun j hj => ?_) (fun j k hj hk => ?_)
    · obtain ⟨y, -, rfl⟩ := List.mem_map.1 hx; rfl
    · have hjc : j < c.size := by omega
      simp [World.cell?, q3, Array.getD_eq_getD_getElem?, hjc]
    · have : k = 0 := by omega
      subst this
      rw [hl] at hj
      rw [Nat.mul_one, Nat.add_zero]
      rw [q7 j hj, show (zs.map (D.int .i64)).getD j .nil = .int .i64 (zs.getD j 0) by simp [List.getD, hj]]
      exact .int .i64 _ (by simp)
end Go.Ab
namespace Go.Ab
open Go Go.Proofs Go.MapKept
variable {T : Nat → Obj → Prop}
theorem zyM {cell rank : List Int} (hle : cell.length ≤ rank.length) (h64 : rank.length ≤ 64) : Fn Tryz.prog T zeM [.own 0, .own 1] [zaJ cell, zaJ rank] (.d (.map (zhr cell rank))) [some (zaJ cell), some (zaJ rank)] := by
  refine zjb ⟨_, Tryz.func70, by decide, rfl⟩ fun B σ a w args hT hS hsz hargs => ?_
  have ha : args = #[args.getD 0 undef, args.getD 1 undef] := by
    apply Array.ext
    · simpa using hsz
    · intro i h1 h2
      match i, h2 with
      | 0, _ => simp [Array.getD, show 0 < args.size by omega]
      | 1, _ => simp [Array.getD, show 1 < args.size by omega]
  have h0 := hargs 0 (by simp)
  have h1 := hargs 1 (by simp)
  have fin : ∀ (e : Ending) (w' : World) (es : Array MapEntry) (clock : Nat) (blk : Nat → Nat), e = .returned (.map (some w.heap.size)) → w.grownBy w' none → Grp (O2 (w.heap.size + 1)) w' w.heap.size ((zJ cell rank cell.length).map fun p => (p.1, zeS p.2)) es clock blk →
      ∃ v' σ', e = .returned v' ∧ Sim B (fun _ => .undef) (zq [some (zaJ cell), some (zaJ rank)]) (fun i => 2 ≤ i) σ' a w' ∧ VSim σ' (zq [some (zaJ cell), some (zaJ rank)]) (fun i => 2 ≤ i) (B.X σ' (zq [some (zaJ cell), some (zaJ rank)])) w' (.d (.map (zhr cell rank))) v' ∧
        ∀ i ob, [zaJ cell, zaJ rank][i]? = some ob → zq [some (zaJ cell), some (zaJ rank)] i = none ∨ (σ' i = σ i ∧ ∃ ob', zq [some (zaJ cell), some (zaJ rank)] i = some ob' ∧ zbB ob ob') := by
    intro e w' es clock blk he hg hG
    refine ⟨_, σ, he, hS.grown hg, .d _ _ (zyL (fun b hb => ?_) hG), fun i ob hi => .inr ⟨rfl, ob, ?_, zbB.refl ob⟩⟩
    · rintro (h | ⟨id, h, h2⟩)
      · have := hS.olt b h; omega
      · obtain ⟨ob, hob⟩ := Option.ne_none_iff_exists'.1 h
        obtain ⟨o, ho⟩ := (hS.mem id ob hob).block h2
        have := zg ho; omega
    · match i, hi with
      | 0, hi => simpa [zq] using hi
      | 1, hi => simpa [zq] using hi
  rw [ha]
  have m0 : zq ([zaJ cell, zaJ rank].map some) 0 = some (zaJ cell) := rfl
  have m1 : zq ([zaJ cell, zaJ rank].map some) 1 = some (zaJ rank) := rfl
  change VSim _ _ _ _ _ (.own 0) _ at h0
  change VSim _ _ _ _ _ (.own 1) _ at h1
  generalize args.getD 0 undef = va at h0
  generalize args.getD 1 undef = vb at h1
  have rd : ∀ {g : Nat} {v : Value} {xs : List Int}, O2 0 w v g xs → ∃ cap, v = .slice (some ⟨g, 0, none⟩) xs.length cap ∧ g < w.heap.size ∧ ∀ j, j < xs.length → w.cell? ⟨g, 0 + j, none⟩ = some (.int .i64 (at0 xs j)) := by
    rintro g v xs ⟨cap, c, e, q1, -, q3, q4, q5, -, q7⟩
    refine ⟨cap, q1, zg q3, fun j hj => ?_⟩
    have hjc : j < c.size := by omega
    have := q7 j hj
    rw [Array.getD_eq_getD_getElem?, Array.getElem?_eq_getElem hjc] at this
    simp only [Option.getD_some] at this
    simp [World.cell?, q3, hjc, this, at0]
  by_cases hc : cell = []
  · subst hc
    have hv : ∃ a' cap, va = .slice a' 0 cap := by
      cases h0 with
      | ownDead _ ad l c g1 => rw [m0] at g1; cases g1
      | ownNil => exact ⟨none, 0, rfl⟩
      | own _ s xs b cap c e g1 g2 g3 g4 g5 =>
        rw [m0] at g1
        simp only [zaJ, Option.some.injEq, Ob.row.injEq] at g1
        obtain ⟨-, rfl⟩ := g1
        exact ⟨_, cap, rfl⟩
    obtain ⟨a', cap, rfl⟩ := hv
    refine (zqQ a' cap vb w).mono ?_
    rintro e w' ⟨he, hg, hh⟩
    exact fin e w' #[] 0 (fun _ => 0) he hg ⟨hh, ⟨fun i j hi => by simp at hi, fun i hi => by simp at hi⟩, rfl, fun i hi => by simp [zJ, zB] at hi, fun i hi => by simp [zJ, zB] at hi, fun i j hi => by simp [zJ, zB] at hi⟩
  · have hpos : 0 < cell.length := List.length_pos_iff.2 hc
    obtain ⟨g1, -, o1⟩ := zrz h0 (hS.mem 0 _ m0) m0 (by omega) hc
    obtain ⟨g2, -, o2⟩ := zrz h1 (hS.mem 1 _ m1) m1 (by omega) (fun e => by rw [e] at hle; simp at hle; exact hc hle)
    obtain ⟨cap1, rfl, l1, c1⟩ := rd o1
    obtain ⟨cap2, rfl, l2, c2⟩ := rd o2
    refine (zqS (T := T) g1 0 cap1 g2 0 cap2 rank.length cell rank w hpos hle (by omega) (fun b o ht => hS.pins b o (hT b o ht)) l1 l2 c1 (fun j hj => c2 j (by omega))).mono ?_
    rintro e w' ⟨he, hg, es, clock, blk, hG⟩
    exact fin e w' es clock blk he hg hG
end Go.Ab
namespace Go.Ab
open Go Go.Proofs
set_option maxRecDepth 10000
set_option maxHeartbeats 4000000
def zgW:List D→Option (List Int)
 | []=>some []
 | .int .i64 n::r=>match zgW r with
  | some l=>some (n::l)
  | none=>none
 | _=>none
theorem zgu : ∀ {ds:List D} {l:List Int},zgW ds=some l→ds=l.map (D.int .i64)
 | [],l,h=>by cases h;rfl
 | .int .i64 n::r,l,h=>by
  unfold zgW at h
  split at h
  ·rename_i l' h';cases h;rw [zgu h'];rfl
  ·cases h
def zq8:List D→Option (List (BitVec 64))
 | []=>some []
 | .u64 n::r=>match zq8 r with
  | some l=>some (n::l)
  | none=>none
 | _=>none
theorem zsA : ∀ {ds:List D} {l:List (BitVec 64)},zq8 ds=some l→ds=l.map D.u64
 | [],l,h=>by cases h;rfl
 | .u64 n::r,l,h=>by
  unfold zq8 at h
  split at h
  ·rename_i l' h';cases h;rw [zsA h'];rfl
  ·cases h
def zj8:List D→Option (List (List Int))
 | []=>some []
 | .arr 1 x::r=>match zgW x with
  | some a=>match zj8 r with
   | some l=>some (a::l)
   | none=>none
  | none=>none
 | _=>none
theorem znD : ∀ {ds:List D} {l:List (List Int)},zj8 ds=some l→ds=l.map dI
 | [],l,h=>by cases h;rfl
 | .arr 1 x::r,l,h=>by
  replace h:(match zgW x with
   | some a=>match zj8 r with
    | some l=>some (a::l)
    | none=>none
   | none=>none)=some l:=h
  cases h1:zgW x with
  | none=>rw [h1] at h;cases h
  | some a =>
   cases h2:zj8 r with
   | none=>rw [h1,h2] at h;cases h
   | some l'=>rw [h1,h2] at h;cases h;rw [znD h2,zgu h1];rfl
def okI (l:List Int):Bool:=l.all fun x=>decide (-9223372036854775808≤x)&&decide (x≤9223372036854775807)
def zz7:Nat→List V→List Ob→Option (List (List D)):=fun g vs obs =>
 cond (Nat.beq g zaX) (match vs,obs with
  | [.ptr 0 0],[.box [.d (.u64 s)]]=>some (ziR s)
  | _,_=>none)
 (cond (Nat.beq g zaN) (match vs,obs with
  | [.ptr 0 0],[.box [.d (.int .i64 W),.d (.arr 1 vl),.d (.arr 1 cs),.d (.arr 1 rs)]]=>match zq8 vl,zj8 cs,zj8 rs with
   | some vl,some cs,some rs=>cond (rs.all okI&&decide (zm ⟨W,vl,cs,rs⟩=0)) (some (zaQ ⟨W,vl,cs,rs⟩ 0)) none
   | _,_,_=>none
  | _,_=>none) none)
def zud:Fs:=fun f vs obs =>
 cond (Nat.beq f zeM) (match vs,obs with
  | [.d (.arr 1 a),.d (.arr 1 b)],[]=>match zgW a,zgW b with
   | some a,some b=>cond (Nat.ble a.length b.length&&Nat.ble a.length 64) (some (.d (.map (zhr a b)),[])) none
   | _,_=>none
  | [.own 0,.own 1],[.row 1 a,.row 1 b]=>match zgW a,zgW b with
   | some a,some b=>cond (Nat.ble a.length b.length&&Nat.ble b.length 64) (some (.d (.map (zhr a b)),[some (.row 1 (a.map (D.int .i64))),some (.row 1 (b.map (D.int .i64)))])) none
   | _,_=>none
  | _,_=>none)
 (cond (Nat.beq f zaU) (match vs,obs with
  | [.d (.u64 w)],[]=>some (.d (.int .i64 (Lib.ctz 64 w.toNat)),[])
  | _,_=>none)
 (cond (Nat.beq f zcY) (match vs,obs with
  | [.d (.u64 w)],[]=>some (.d (.int .i64 (Sort.bitsLen w.toNat:Int)),[])
  | _,_=>none)
 (cond (Nat.beq f zdG) (match vs,obs with
  | [.d (.u64 w)],[]=>some (.d (.int .i64 (Sort.bitsLen w.toNat:Int)),[])
  | _,_=>none) none)))
def zC3 (f:Nat):Bool:=Nat.beq f zdX||(Nat.beq f zev||Nat.beq f zjL)
noncomputable def zB9:Cfg:=⟨zj Tryz.prog,zud,zz7,zC3,fun f=>Nat.beq f zdk,150⟩
theorem zCo {rs:List (List Int)} (h:rs.all okI=true):zas rs:=by
 intro r hr x hx
 have h1:=List.all_eq_true.1 (List.all_eq_true.1 h r hr) x hx
 rw [Bool.and_eq_true,decide_eq_true_eq,decide_eq_true_eq] at h1
 exact h1
variable {T:Nat→Obj→Prop}
theorem zCl (hT:zeO T) : ∀ g vs obs xs,zz7 g vs obs=some xs→It Tryz.prog T g vs obs xs:=by
 intro g vs obs xs h
 unfold zz7 at h
 cases hg:Nat.beq g zaX with
 | true =>
  rw [hg,cond_true] at h
  rw [Nat.eq_of_beq_eq_true hg]
  split at h
  ·cases h;exact zgX hT _
  ·cases h
 | false =>
  rw [hg,cond_false] at h
  cases hg2:Nat.beq g zaN with
  | true =>
   rw [hg2,cond_true] at h
   rw [Nat.eq_of_beq_eq_true hg2]
   split at h
   ·split at h
    ·rename_i vl' cs' rs' h1 h2 h3
     rename_i vl cs rs _ _ _
     rw [zsA h1,znD h2,znD h3]
     cases hb:rs'.all okI&&decide (zm ⟨_,vl',cs',rs'⟩=0) with
     | true =>
      rw [hb] at h
      rw [Bool.and_eq_true,decide_eq_true_eq] at hb
      cases h
      exact zpB zlP _ (zCo hb.1) hb.2
     | false=>rw [hb] at h;cases h
    ·cases h
   ·cases h
  | false=>rw [hg2] at h;cases h
theorem zz9 (hT:zeO T):zwn Tryz.prog T zud:=by
 intro f vs obs v obs' h
 unfold zud at h
 cases h1:Nat.beq f zeM with
 | true =>
  rw [h1,cond_true] at h
  rw [Nat.eq_of_beq_eq_true h1]
  split at h
  ·split at h
   ·rename_i a b ha hb
    rw [zgu ha,zgu hb]
    cases hc:Nat.ble a.length b.length&&Nat.ble a.length 64 with
    | true =>
     rw [hc] at h
     rw [Bool.and_eq_true,Nat.ble_eq,Nat.ble_eq] at hc
     cases h
     exact zlP _ _ hc.1 hc.2
    | false=>rw [hc] at h;cases h
   ·cases h
  ·split at h
   ·rename_i a b ha hb
    rw [zgu ha,zgu hb]
    cases hc:Nat.ble a.length b.length&&Nat.ble b.length 64 with
    | true =>
     rw [hc] at h
     rw [Bool.and_eq_true,Nat.ble_eq,Nat.ble_eq] at hc
     cases h
     exact zyM hc.1 hc.2
    | false=>rw [hc] at h;cases h
   ·cases h
  ·cases h
 | false =>
  rw [h1,cond_false] at h
  cases h2:Nat.beq f zaU with
  | true =>
   rw [h2,cond_true] at h
   rw [Nat.eq_of_beq_eq_true h2]
   split at h
   ·cases h;exact hT _
   ·cases h
  | false =>
   rw [h2,cond_false] at h
   cases h3:Nat.beq f zcY with
   | true =>
    rw [h3,cond_true] at h
    rw [Nat.eq_of_beq_eq_true h3]
    split at h
    ·cases h;exact ztW _
    ·cases h
   | false =>
    rw [h3,cond_false] at h
    cases h4:Nat.beq f zdG with
    | true =>
     rw [h4,cond_true] at h
     rw [Nat.eq_of_beq_eq_true h4]
     split at h
     ·cases h;exact zx0 _
     ·cases h
    | false=>rw [h4] at h;cases h
theorem zCa (hT:zeO T):zwl Tryz.prog T zB9:=⟨fun f c h=>h,zz9 hT,zCl hT⟩
end Go.Ab
namespace Go.Ab
open Go Go.Proofs
set_option maxRecDepth 10000
set_option maxHeartbeats 4000000
variable {T:Nat→Obj→Prop}
def zm6 (p:PM) (n:Int):Bool:=decide (p.W≤n)&&(decide (p.val.length≤10)&&(decide (p.cell.length≤6)&&(decide (p.rank.length≤6)&&decide (p.val.length≤20∧p.cell.length≤8∧p.rank.length≤8∧(∀ a,a < p.cell.length→(za p.cell a).length≤20) ∧ ∀ a,a < p.rank.length→(za p.rank a).length≤20))))
theorem zzV (p:PM) (n:Int):Fn Tryz.prog T zhd [.d (dPM p),.d (.int .i64 n)] [] (.d (.bool (zm6 p n))) []:=by
 refine zh zw znt (by show 2≤31;decide) ?_
 (repeat' ((conv=>whnf);first|refine vA ?_|(refine vF ?_ ?_<;>intro hc<;>try simp only [vL] at hc)|refine vJ fun hg=>?_|refine vT ?_|refine vZ ?_|refine yD (zCd p) ⟨⟨rfl,rfl⟩,rfl⟩ rfl ?_));all_goals try conv=>whnf
 ·rw [zm6,decide_eq_true ‹p.W≤n›,decide_eq_true (show p.val.length≤10 by omega),decide_eq_true (show p.cell.length≤6 by omega),decide_eq_true (show p.rank.length≤6 by omega)];rfl
 ·rw [zm6,decide_eq_true ‹p.W≤n›,decide_eq_true (show p.val.length≤10 by omega),decide_eq_true (show p.cell.length≤6 by omega),decide_eq_false (show ¬ p.rank.length≤6 by omega)];rfl
 ·rw [zm6,decide_eq_true ‹p.W≤n›,decide_eq_true (show p.val.length≤10 by omega),decide_eq_false (show ¬ p.cell.length≤6 by omega)];rfl
 ·rw [zm6,decide_eq_true ‹p.W≤n›,decide_eq_false (show ¬ p.val.length≤10 by omega)];rfl
 ·rw [zm6,decide_eq_false (show ¬ p.W≤n by omega)];rfl
end Go.Ab
namespace Go.Ab
open Go Go.Proofs
set_option maxRecDepth 10000
set_option maxHeartbeats 4000000
variable {T:Nat→Obj→Prop}
abbrev zd7 (n:Nat) (q:Nat→Nat):List D:=(ptL n (z2 q)).map (D.int .i64)
theorem zx6 {n:Nat} {q:Nat→Nat} (hn:n≤64) (hb : ∀ w,w < n→z2 q w < 64) (s:BitVec 64):Fn Tryz.prog T zaw [.d (.u64 s),.ptr 0 0] [.box [.own 1],.row 1 (zd7 n q)]
  (.d (.u64 (zZ (z2 q) s n))) [some (.box [.own 1]),some (.row 1 (zd7 n q))]:=by
 refine zag zw ziJ (by show 2≤24;decide) _ (fun e env mem n h=>h) ?_
 have hpl:(zd7 n q).length=n:=by simp [zd7,ptL]
 (repeat' ((conv=>whnf);first|refine vA ?_|refine vJ fun hg=>?_|refine vT ?_));all_goals try conv=>whnf
 refine zn (fun ((k,o):Nat×BitVec 64)=>[(0,.d (.u64 (s))),(4,.d (.u64 (o))),(7,.own 1),(8,.d (.int .i64 (((zd7 n q).length:Int)))),(9,.d (.int .i64 ((k:Int)))),(1000000,.ptr 0 0),(1000001,.own 1)]) (fun ((k,o):Nat×BitVec 64)=>[(0,some (.box [.own 1])),(1,some (.row 1 (zd7 n q)))]) 2 (fun ((k,o):Nat×BitVec 64)=>k≤n∧o=zZ (z2 q) s k) (fun ((k,o):Nat×BitVec 64)=>n - k) ((0,0#64)) [(0,0),(1,1)] [] (⟨by simp,rfl⟩) (by (refine ⟨rfl,rfl,rfl,?_,?_⟩;repeat' first|exact trivial|exact rfl|refine And.intro ?_ ?_|refine ⟨_,rfl,?_⟩|decide)) ?_
 rintro ⟨k,o⟩ ⟨hk,hI⟩
 by_cases hkl:k < n
 ·have e1:(ptL n (z2 q))[(k:Int).toNat]? = some ((z2 q k:Nat):Int):=zb1 hkl
  have b1:=hb k hkl
  (repeat' ((conv=>whnf);first|refine vA ?_|(refine vF ?_ ?_<;>intro hc<;>try simp only [vL] at hc)|refine vT ?_|refine vN ‹_› ?_|((first|refine vO ?_ ?_|refine vP ?_ ?_);·omega)|fail));all_goals try conv=>whnf
  ·refine ⟨(k+1,_),[(0,0),(1,1)],[],?_,?_,by (refine ⟨rfl,rfl,rfl,?_,?_⟩;repeat' first|exact trivial|exact rfl|refine And.intro ?_ ?_|refine ⟨_,rfl,?_⟩|decide)⟩
   ·refine ⟨by (omega),?_⟩
    rw [hI];exact zto
   ·((simp only [vM] at *;omega))
  ·have:=zcu (n:=n) (q:=z2 q);omega
 ·(repeat' ((conv=>whnf);first|refine vA ?_|(refine vF ?_ ?_<;>intro hc<;>try simp only [vL] at hc)|refine vT ?_|(refine vQ ?_ fun x hx=>?_;·omega)|((first|refine vO ?_ ?_|refine vP ?_ ?_);·first|omega|(simp only [vM] at *;omega))|fail));all_goals try conv=>whnf
  ·have:=zcu (n:=n) (q:=z2 q);omega
  ·have e0:k=n:=by omega
   subst e0
   subst hI
   refine ⟨trivial,_,[(0,0),(1,1)],[],rfl,.inl (by (repeat' exact rfl)),⟨by rfl,by rfl,by rfl,trivial,by (repeat' first|exact trivial|exact rfl|refine And.intro ?_ ?_|refine ⟨_,rfl,?_⟩|exact of_decide_eq_true rfl)⟩,by (repeat' first|exact trivial|exact rfl|refine And.intro ?_ ?_|refine ⟨_,rfl,?_⟩)⟩
theorem zi0 {α:Type} (f g:Nat→α) : ∀ n:Nat,((List.range n).flatMap fun a=>[f a,g a]).length=2 * n
 | 0=>rfl
 | n+1=>by rw [List.range_succ,List.flatMap_append,List.length_append,zi0 f g n];simp;omega
theorem zuw {α:Type} (f g:Nat→α) : ∀ (n i:Nat),i < 2 * n→((List.range n).flatMap fun a=>[f a,g a])[i]? = some (if i % 2=0 then f (i / 2) else g (i / 2))
 | 0,i,h=>by omega
 | n+1,i,h=>by
  have hl:=zi0 f g n
  rw [List.range_succ,List.flatMap_append]
  by_cases hi:i < 2 * n
  ·rw [List.getElem?_append_left (by omega)];exact zuw f g n i hi
  ·rw [List.getElem?_append_right (by omega),hl]
   have:i=2 * n∨i=2 * n+1:=by omega
   rcases this with rfl|rfl
   ·rw [if_pos (by omega),show 2 * n / 2=n by omega];simp
   ·rw [if_neg (by omega),show (2 * n+1) / 2=n by omega,show 2 * n+1 - 2 * n=1 by omega];simp
theorem zys {p:PM} {i:Nat} {x:List D} (h:(zaQ p 0)[i]? = some x):i < 2 * p.cell.length∧x=if i % 2=0 then zfR (i / 2) false (zjz p (i / 2)) else zfR (i / 2) true (zW p (i / 2)):=by
 have hl:(zaQ p 0).length=2 * p.cell.length:=by unfold zaQ;rw [List.drop_zero];exact zi0 _ _ _
 have hi:i < (zaQ p 0).length:=(List.getElem?_eq_some_iff.1 h).1
 refine ⟨by omega,?_⟩
 unfold zaQ at h
 rw [List.drop_zero,zuw _ _ _ _ (by omega)] at h
 exact (Option.some.inj h).symm
noncomputable def zpg (p:PM):PM×List Int×Int:=if zm p≠0 then (⟨0,[],[],[]⟩,[],zm p) else ((zfX p (zaA p 64)).1,ptL p.W.toNat (z2 (zaA p 64)),0)
abbrev zC2 (x:PM×List Int×Int):D := .tup [dPM x.1,dI x.2.1,.int .i64 x.2.2]
theorem zqX (n:Nat) (q:Nat→Nat):zM (n+1) q=zM n q++if q n=n then [n] else []:=by
 unfold zM
 rw [List.range_succ,List.filter_append]
 congr 1
 by_cases h:q n=n
 ·rw [if_pos h];simp [h]
 ·rw [if_neg h];simp [h]
theorem zAo {q:Nat→Nat} {w:Nat} (h:q w=w):z2 q w=(zM w q).length:=by unfold z2;rw [h];rfl
theorem zCn {n:Nat} {q:Nat→Nat} (hq:zdM n q) {w:Nat} (hw:w < n):z2 q (q w)=z2 q w:=by unfold z2;rw [hq.idem w hw]
def zeN (n:Nat) (q:Nat→Nat):List Int:=(zM n q).map fun (u:Nat)=>(u:Int)
theorem zvi (hT:zeO T) (p:PM) (hp:zas p.rank) (h12:p.W≤12):Fn Tryz.prog T ze3 [.d (dPM p)] [] (.d (zC2 (zpg p))) []:=by
 have hR:=zlP (T:=T)
 have cc:=zt0 hR p hp
 refine zh zw zj0 (by show 1≤116;decide) ?_
 by_cases hc0:zm p=0
 ·obtain ⟨q,hq⟩ : ∃ q,q=zaA p 64:=⟨_,rfl⟩
  have hg:=zz hc0
  have w1:=hg.w1
  have w2:=hg.w2
  have v8:=hg.v8
  have n4:=hg.n4
  have S:zig p q:=by rw [hq];exact zpX hc0 (by omega)
  have hcan:=S.canon
  have hpl:=zcu (n:=p.W.toNat) (q:=q)
  have h64:=W64 hc0
  rw [show zcc p 64=(ptL p.W.toNat q,0) by rw [zcc,if_neg (by omega),if_neg (by omega),hq];rfl] at cc
  (repeat' ((conv=>whnf);first|refine vA ?_|refine vH ?_|refine vJ fun hg=>?_|refine vT ?_|(refine vP ?_ ?_;·(simp only [vM] at *;omega))|refine yN cc ⟨⟨rfl,rfl⟩,rfl⟩ ?_));all_goals try conv=>whnf
  refine zn (fun ((k,zs,ys):Nat×List D×List D)=>[(1,.ptr 0 0),(2,.ptr 1 0),(7,.ptr 2 0),(8,.ptr 3 0),(33,.d (dI (ptL p.W.toNat q))),(34,.d (.int .i64 ((((ptL p.W.toNat q).map (D.int .i64)).length:Int)))),(35,.d (.int .i64 ((k:Int))))]) (fun ((k,zs,ys):Nat×List D×List D)=>[(0,some (zay p)),(1,some zpn),(2,some (.box [.own 4])),(3,some (.box [.own 5])),(4,some (.row 1 zs)),(5,some (.row 1 ys))]) 6 (fun ((k,zs,ys):Nat×List D×List D)=>k≤p.W.toNat∧zs=(List.range p.W.toNat).map (fun u=>D.int .i64 (if u < k then (z2 q u:Int) else 0))∧ys=(zM k q).map fun (u:Nat)=>D.int .i64 (u:Int)) (fun ((k,zs,ys):Nat×List D×List D)=>p.W.toNat - k) ((0,_,[])) [(0,0),(1,1),(2,3),(3,4),(4,2)]   [5] (⟨by simp,by simp only [Nat.not_lt_zero,if_false];rw [List.length_map,Int.toNat_natCast,zcu];exact zaW _ _,rfl⟩) (by (refine ⟨rfl,rfl,rfl,?_,?_⟩;repeat' first|exact trivial|exact rfl|exact ⟨_,rfl⟩|refine And.intro ?_ ?_|refine ⟨_,rfl,?_⟩|decide)) ?_
  rintro ⟨k,zs,ys⟩ ⟨hk,hz,hy⟩
  have hzl:zs.length=p.W.toNat:=by rw [hz];simp
  have hyl:ys.length≤k:=by rw [hy,List.length_map];exact zef k q
  by_cases hkl:k < p.W.toNat
  ·have e1:(ptL p.W.toNat q)[k]? = some ((q k:Nat):Int):=zb1 hkl
   have b1:=hcan.le k hkl
   have e2:zs[((q k:Nat):Int).toNat]? = some (D.int .i64 (if q k < k then (z2 q (q k):Int) else 0)):=by rw [hz,List.getElem?_map,Int.toNat_natCast,List.getElem?_range (by omega)];rfl
   (repeat' ((conv=>whnf);first|refine vA ?_|(refine vF ?_ ?_<;>intro hc<;>try simp only [vL] at hc)|refine vJ fun hg=>?_|refine vK fun hg=>?_|refine vT ?_|refine vN ‹_› ?_|((first|refine vO ?_ ?_|refine vP ?_ ?_);·first|omega|(simp only [vM] at *;omega))|fail));all_goals try conv=>whnf
   ·have hqk:q k=k:=by omega
    refine ⟨(k+1,_,_),[(0,0),(1,1),(2,2),(3,3),(4,4),(5,7)],[],?_,?_,by (refine ⟨rfl,rfl,rfl,?_,?_⟩;repeat' first|exact trivial|exact rfl|refine And.intro ?_ ?_|refine ⟨_,rfl,?_⟩|decide)⟩
    ·refine ⟨by (omega),?_,?_⟩
     ·rw [hz]
      refine (zbs _).trans (zt fun u hu=>?_)
      show (if u=k then _ else _)=_
      by_cases e:u=k
      ·subst e
       rw [if_pos rfl,if_pos (show u < u+1 by omega),zAo hqk,hy,List.length_map]
      ·rw [if_neg e]
       by_cases e2:u < k
       ·rw [if_pos e2,if_pos (show u < k+1 by omega)]
       ·rw [if_neg e2,if_neg (show ¬ u < k+1 by omega)]
     ·rw [zqX,if_pos hqk,List.map_append,← hy];rfl
    ·((simp only [vM] at *;omega))
   ·have hqk:q k≠k:=by omega
    refine zdf.mk _ ⟨by omega,e2⟩ ?_
    (repeat' ((conv=>whnf);first|refine vT ?_|((first|refine vO ?_ ?_|refine vP ?_ ?_);·omega)|(refine vU ?_ ?_;·kernel_rfl)|fail));all_goals try conv=>whnf
    refine ⟨(k+1,_,_),[(0,0),(1,1),(2,2),(3,3),(4,4),(5,5)],[],?_,?_,by (refine ⟨rfl,rfl,rfl,?_,?_⟩;repeat' first|exact trivial|exact rfl|refine And.intro ?_ ?_|refine ⟨_,rfl,?_⟩|decide)⟩
    ·refine ⟨by (omega),?_,?_⟩
     ·rw [hz]
      refine (zbs _).trans (zt fun u hu=>?_)
      show (if u=k then _ else _)=_
      by_cases e:u=k
      ·subst e
       rw [if_pos rfl,if_pos (show u < u+1 by omega),if_pos (show q u < u by omega),zCn hcan hkl]
      ·rw [if_neg e]
       by_cases e2:u < k
       ·rw [if_pos e2,if_pos (show u < k+1 by omega)]
       ·rw [if_neg e2,if_neg (show ¬ u < k+1 by omega)]
     ·rw [zqX,if_neg hqk,List.append_nil,← hy]
    ·((simp only [vM] at *;omega))
   ·omega
  ·have e0:k=p.W.toNat:=by omega
   subst e0
   obtain rfl:zs=zd7 p.W.toNat q:=by
    rw [hz,zd7,ptL,List.map_map]
    exact zt fun u hu=>by rw [if_pos (by omega)];rfl
   obtain rfl:ys=(zeN p.W.toNat q).map (D.int .i64):=by rw [hy,zeN,List.map_map];rfl
   have hrl:(zeN p.W.toNat q).length=(zM p.W.toNat q).length:=by simp [zeN]
   clear hz hzl hy hyl
   have hcnt:=zef p.W.toNat q
   (repeat' ((conv=>whnf);first|refine vA ?_|(refine vF ?_ ?_<;>intro hc<;>try simp only [vL] at hc)|refine vJ fun hg=>?_|refine vT ?_|(refine vQ ?_ fun x hx=>?_;·omega)|((first|refine vO ?_ ?_|refine vP ?_ ?_);·omega)|(refine vU ?_ ?_;·kernel_rfl)|fail));all_goals try conv=>whnf
   ·omega
   ·omega
   ·refine zn (fun ((i,vs):Nat×List D)=>[(1,.ptr 0 0),(2,.ptr 1 0),(7,.ptr 2 0),(8,.ptr 3 0),(11,.ptr 6 0),(12,.own 7),(62,.d (dU p.val)),(63,.d (.int .i64 (((p.val.map D.u64).length:Int)))),(64,.d (.int .i64 ((i:Int))))]) (fun ((i,vs):Nat×List D)=>[(0,some (zay p)),(1,some zpn),(2,some (.box [.own 4])),(3,some (.box [.own 5])),(4,some (.row 1 (zd7 p.W.toNat q))),(5,some (.row 1 ((zeN p.W.toNat q).map (D.int .i64)))),(6,some (.box [.fn zaw [.ptr 2 0]])),(7,some (.row 1 vs))]) 8 (fun ((i,vs):Nat×List D)=>i≤p.val.length∧vs=(p.val.take i).map fun s=>D.u64 (zZ (z2 q) s p.W.toNat)) (fun ((i,vs):Nat×List D)=>p.val.length - i) ((0,[])) [(0,0),(1,1),(2,2),(3,3),(4,4),(5,5),(6,6)]   [7] (⟨by simp,rfl⟩) (by (refine ⟨rfl,rfl,rfl,?_,?_⟩;repeat' first|exact trivial|exact rfl|exact ⟨_,rfl⟩|refine And.intro ?_ ?_|refine ⟨_,rfl,?_⟩|decide)) ?_
    rintro ⟨i,vs⟩ ⟨hi,hv⟩
    have hvl:vs.length=i:=by rw [hv,List.length_map,List.length_take];omega
    by_cases hil:i < p.val.length
    ·obtain ⟨s,hs⟩ : ∃ s,p.val[i]? = some s:=⟨_,List.getElem?_eq_getElem hil⟩
     (repeat' ((conv=>whnf);first|refine vA ?_|(refine vF ?_ ?_<;>intro hc<;>try simp only [vL] at hc)|refine vT ?_|refine vN ‹_› ?_));all_goals try conv=>whnf
     ·refine zN.objs [2,4] (zx6 h64 (fun w hw=>S.num64 hc0 hw) s) (by (repeat' first|exact rfl|refine And.intro ?_ ?_|refine ⟨_,rfl,?_⟩)) (by (repeat' first|exact rfl|refine And.intro ?_ ?_|refine ⟨_,rfl,?_⟩)) (by rfl) (by rfl) (by simp) ?_
      (repeat' ((conv=>whnf);first|refine vT ?_|((first|refine vO ?_ ?_|refine vP ?_ ?_);·first|omega|(simp only [vM] at *;omega))|fail));all_goals try conv=>whnf
      ·refine ⟨(i+1,_),[(0,0),(1,1),(2,2),(3,3),(4,4),(5,5),(6,6),(7,9)],[],?_,?_,by (refine ⟨rfl,rfl,rfl,?_,?_⟩;repeat' first|exact trivial|exact rfl|refine And.intro ?_ ?_|refine ⟨_,rfl,?_⟩|decide)⟩
       ·refine ⟨by (omega),?_⟩
        rw [zfh hs,List.map_append,← hv];rfl
       ·((simp only [vM] at *;omega))
     ·omega
    ·obtain rfl:i=p.val.length:=by omega
     obtain rfl:vs=(zdF p q).map D.u64:=by rw [hv,List.take_length,zdF,List.map_map];rfl
     clear hv
     have hvL:(zdF p q).length=p.val.length:=by simp [zdF]
     (repeat' ((conv=>whnf);first|refine vA ?_|(refine vF ?_ ?_<;>intro hc<;>try simp only [vL] at hc)|refine vT ?_|(refine vQ ?_ fun x hx=>?_;·omega)|fail));all_goals try conv=>whnf
     ·omega
     ·refine zN.res (zrZ p) (by (repeat refine ⟨⟨rfl,rfl⟩,?_⟩);rfl) ?_
      (repeat' ((conv=>whnf);refine vT ?_));all_goals try conv=>whnf
      refine zhs (zpB hR p hp hc0) [9] [] (by first|((repeat refine ⟨⟨rfl,rfl⟩,?_⟩);rfl)|(repeat' first|exact rfl|refine And.intro ?_ ?_|refine ⟨_,rfl,?_⟩)) (by (repeat' first|exact rfl|refine And.intro ?_ ?_|refine ⟨_,rfl,?_⟩)) (by rfl) (by rfl) [(2,.ptr 0 0),(7,.ptr 1 0),(8,.ptr 2 0),(11,.ptr 5 0),(12,.own 6),(15,.ptr 7 0)] (fun (os:List D)=>[(0,some zpn),(1,some (.box [.own 3])),(2,some (.box [.own 4])),(3,some (.row 1 (zd7 p.W.toNat q))),(4,some (.row 1 ((zeN p.W.toNat q).map (D.int .i64)))),(5,some (.box [.fn zaw [.ptr 1 0]])),(6,some (.row 1 ((zdF p q).map D.u64))),(7,some (.box [.own 8])),(8,some (.row 1 os))]) 9 (fun i (os:List D)=>os=((List.range (i / 2)).map (zbL p q)).map dU) ([]) [(0,1),(1,2),(2,3),(3,4),(4,5),(5,6),(6,7),(7,8)]   [8] (rfl) (by (refine ⟨rfl,rfl,rfl,?_,?_⟩;repeat' first|exact trivial|exact rfl|exact ⟨_,rfl⟩|refine And.intro ?_ ?_|refine ⟨_,rfl,?_⟩|decide)) ?_ ?_
      ·intro i x os hx ho
       obtain ⟨hi2,rfl⟩:=zys hx
       subst ho
       by_cases hi:i % 2=0
       ·rw [if_pos hi]
        refine ⟨rfl,?_⟩
        (repeat' ((conv=>whnf);first|refine vA ?_|refine vE ?_|refine vH ?_|refine vT ?_));all_goals try conv=>whnf
        refine ⟨((List.range (i / 2)).map (zbL p q)).map dU,[(0,0),(1,1),(2,2),(3,3),(4,4),(5,5),(6,6),(7,7),(8,8)],[],?_,by (refine ⟨rfl,rfl,rfl,?_,?_⟩;repeat' first|exact trivial|exact rfl|refine And.intro ?_ ?_|refine ⟨_,rfl,?_⟩|decide)⟩
        rw [show (i+1) / 2=i / 2 by omega]
       ·rw [if_neg hi]
        refine ⟨rfl,?_⟩
        (repeat' ((conv=>whnf);first|refine vA ?_|refine vE ?_|refine vG ?_|refine vJ fun hg=>?_|refine vT ?_));all_goals try conv=>whnf
        refine zn (fun ((k,rs):Nat×List D)=>[(2,.ptr 0 0),(7,.ptr 1 0),(8,.ptr 2 0),(11,.ptr 5 0),(12,.own 6),(15,.ptr 7 0),(16,.ptr 9 0),(17,.own 10),(81,.own 4),(82,.d (.int .i64 ((((zeN p.W.toNat q).map (D.int .i64)).length:Int)))),(83,.d (.int .i64 ((k:Int)))),(1000002,.ptr 0 0),(1000007,.ptr 1 0),(1000008,.ptr 2 0),(1000011,.ptr 5 0),(1000012,.own 6),(1000015,.ptr 7 0)]) (fun ((k,rs):Nat×List D)=>[(0,some zpn),(1,some (.box [.own 3])),(2,some (.box [.own 4])),(3,some (.row 1 (zd7 p.W.toNat q))),(4,some (.row 1 ((zeN p.W.toNat q).map (D.int .i64)))),(5,some (.box [.fn zaw [.ptr 1 0]])),(6,some (.row 1 ((zdF p q).map D.u64))),(7,some (.box [.own 8])),(8,some (.row 1 (((List.range (i / 2)).map (zbL p q)).map dU))),(9,some (.box [.d (.int .i64 ((i / 2:Nat):Int)),.d (.bool true),.d (dU (zW p (i / 2)))])),(10,some (.row 1 rs))]) 11 (fun ((k,rs):Nat×List D)=>k≤(zM p.W.toNat q).length∧rs=((zM p.W.toNat q).take k).map fun u=>D.u64 (zZ (z2 q) (wkB p (i / 2) u) p.W.toNat)) (fun ((k,rs):Nat×List D)=>(zM p.W.toNat q).length - k) ((0,[])) [(0,0),(1,1),(2,2),(3,3),(4,4),(5,5),(6,6),(7,7),(8,8),(9,9)]   [10] (⟨by simp,rfl⟩) (by (refine ⟨rfl,rfl,rfl,?_,?_⟩;repeat' first|exact trivial|exact rfl|exact ⟨_,rfl⟩|exact .inl rfl|refine And.intro ?_ ?_|refine ⟨_,rfl,?_⟩|decide)) ?_
        rintro ⟨k,rs⟩ ⟨hk,hr⟩
        have hcl:(zM p.W.toNat q).length≤p.W.toNat:=zef _ _
        have hrsl:rs.length=k:=by rw [hr,List.length_map,List.length_take];omega
        by_cases hkl:k < (zM p.W.toNat q).length
        ·obtain ⟨u,hu⟩ : ∃ u,(zM p.W.toNat q)[k]? = some u:=⟨_,List.getElem?_eq_getElem hkl⟩
         have huW:u < p.W.toNat:=by have:=List.mem_of_getElem? hu;unfold zM at this;exact List.mem_range.1 (List.mem_filter.1 this).1
         have e4:(zeN p.W.toNat q)[(k:Int).toNat]? = some (u:Int):=by rw [zeN,List.getElem?_map,Int.toNat_natCast,hu];rfl
         have e5:(zW p (i / 2))[u]? = some (wkB p (i / 2) u):=by rw [zq7,List.getElem?_map,List.getElem?_range huW];rfl
         (repeat' ((conv=>whnf);first|refine vA ?_|(refine vF ?_ ?_<;>intro hc<;>try simp only [vL] at hc)|refine vT ?_|refine vN ‹_› ?_|(refine vP ?_ ?_;·first|omega|(simp only [vM] at *;omega))|fail));all_goals try conv=>whnf
         ·refine zN.objs [1,3] (zx6 h64 (fun w hw=>S.num64 hc0 hw) (wkB p (i / 2) u)) (by (repeat' first|exact rfl|refine And.intro ?_ ?_|refine ⟨_,rfl,?_⟩)) (by (repeat' first|exact rfl|refine And.intro ?_ ?_|refine ⟨_,rfl,?_⟩)) (by rfl) (by rfl) (by simp) ?_
          (repeat' ((conv=>whnf);first|refine vT ?_|((first|refine vO ?_ ?_|refine vP ?_ ?_);·first|omega|(simp only [vM] at *;omega))|(refine vU ?_ ?_;·kernel_rfl)|fail));all_goals try conv=>whnf
          ·refine ⟨(k+1,_),[(0,0),(1,1),(2,2),(3,3),(4,4),(5,5),(6,6),(7,7),(8,8),(9,9),(10,12)],[],?_,?_,by (refine ⟨rfl,rfl,rfl,?_,?_⟩;repeat' first|exact trivial|exact rfl|exact .inl rfl|refine And.intro ?_ ?_|refine ⟨_,rfl,?_⟩|decide)⟩
           ·refine ⟨by (omega),?_⟩
            rw [zfh hu,List.map_append,← hr];rfl
           ·((simp only [vM] at *;omega))
         ·omega
        ·(repeat' ((conv=>whnf);first|refine vA ?_|(refine vF ?_ ?_<;>intro hc<;>try simp only [vL] at hc)|refine vT ?_|(refine vQ ?_ fun x hx=>?_;·omega)|((first|refine vS ?_ fun x hx=>?_|refine vP ?_ ?_);·first|omega|(simp only [vM] at *;omega))|fail));all_goals try conv=>whnf
         ·omega
         ·obtain rfl:k=(zM p.W.toNat q).length:=by omega
          rw [List.take_length] at hr
          obtain rfl:rs=(zbL p q (i / 2)).map D.u64:=by rw [hr,zbL,List.map_map];rfl
          refine ⟨((List.range (i / 2)).map (zbL p q)).map dU++[dU (zbL p q (i / 2))],[(0,0),(1,1),(2,2),(3,3),(4,4),(5,5),(6,6),(7,7),(8,12)],[],?_,by (refine ⟨rfl,rfl,rfl,?_,?_⟩;repeat' first|exact trivial|exact rfl|refine And.intro ?_ ?_|refine ⟨_,rfl,?_⟩|decide)⟩
          rw [show (i+1) / 2=i / 2+1 by omega,List.range_succ,List.map_append,List.map_append];rfl
      ·intro os ho
       obtain ⟨s,hs,-⟩:=zyJ hc0 S
       have cn:=zCf hT ((zM p.W.toNat q).length:Int) (by have:=zef p.W.toNat q;have:(zM p.W.toNat q).length≤p.W.toNat:=this;omega) (zdF p q) ((List.range p.cell.length).map (zbL p q))
       rw [show zgA ((zM p.W.toNat q).length:Int) (zdF p q) ((List.range p.cell.length).map (zbL p q))=(s,0) from hs] at cn
       obtain rfl:os=((List.range p.cell.length).map (zbL p q)).map dU:=by rw [ho,show (zaQ p 0).length=2 * p.cell.length by unfold zaQ;rw [List.drop_zero];exact zi0 _ _ _,show 2 * p.cell.length / 2=p.cell.length by omega]
       rw [← hrl,show ((zeN p.W.toNat q).length:Int)=(((zeN p.W.toNat q).map (D.int .i64)).length:Int) by rw [List.length_map]] at cn
       (repeat' ((conv=>whnf);first|refine vA ?_|refine vH ?_|refine vJ fun hg=>?_|refine vT ?_|(refine vU ?_ ?_;·kernel_rfl)|refine yN cn ⟨⟨rfl,rfl⟩,⟨rfl,rfl⟩,⟨rfl,rfl⟩,rfl⟩ ?_));all_goals try conv=>whnf
       rw [zpg,if_neg (by omega),← hq,show (zfX p q).1=s by rw [hs]];rfl
 ·rw [show zcc p 64=([],zm p) by rw [zcc,if_pos hc0]] at cc
  (repeat' ((conv=>whnf);first|refine vA ?_|(refine vD ?_ ?_<;>intro hc<;>try simp only [vL] at hc)|refine vJ fun hg=>?_|refine vT ?_|(refine vP ?_ ?_;·omega)|refine yN cc ⟨⟨rfl,rfl⟩,rfl⟩ ?_));all_goals try conv=>whnf
  ·rw [zpg,if_pos hc0];rfl
  ·exact absurd ‹zm p=0› hc0
end Go.Ab
