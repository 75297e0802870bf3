/- A part of the proofs of this seat: functions and their contracts. -/
import Derived.Test.YtjehkdhnhfghiaaGreatDoorMD
import Derived.Shelf.Strconv.Itoa0
import Derived.Sort.WalkA14
import Derived.Test.YtjehkdhnhfghiaaGreatDoorProg
import Derived.Calls
import Derived.Laws.IdiomStrings
import Derived.WalkKit
import Derived.CellFam
import Derived.Sort.Row
set_option linter.unusedVariables false
set_option linter.unusedSimpArgs false
set_option linter.unusedSectionVars false
namespace Go.Ab
def mkT (p:KM) (root:Int) (i:Nat):Tup:=[[if (i:Int)=root then (0:Int) else 1],[zz p i]]
def zej (p:KM) (root:Int):(Nat→Nat)×Nat:=zcm p.W.toNat (zf p) (mkT p root)
theorem zzB {m:KM} {l k:List Nat} (hl:l.length≤64) (hk:k.length≤64) (h : ∀ x∈k,x < l.length):zC (zC m l) k=zC m (k.map fun i=>l.getD i 0):=by
 have key : ∀ s,zay (zay s l) k=zay s (k.map fun i=>l.getD i 0):=fun s=>by
  unfold zay
  rw [List.length_map]
  refine znv fun i hi=>?_
  have hm:k.getD i 0∈k:=zaf hi
  rw [show (k.map fun i=>l.getD i 0).getD i 0=l.getD (k.getD i 0) 0 by simp [List.getD,List.getElem?_map,List.getElem?_eq_getElem hi]]
  rw [Bool.eq_iff_iff,zdi hl]
  exact ⟨fun h=>h.2,fun h'=>⟨h _ hm,h'⟩⟩
 unfold zC
 simp only [List.length_map,List.map_map]
 congr 1
 ·exact List.map_congr_left fun s _=>key s
 ·refine List.map_congr_left fun r _=>?_
  show List.map _ k=List.map _ k
  refine List.map_congr_left fun w hw=>?_
  have hw:=h w hw
  show zay ((l.map fun w=>zay (r.getD w 0#64) l).getD w 0#64) k=zay (r.getD (l.getD w 0) 0#64) (k.map fun i=>l.getD i 0)
  rw [← key,show (l.map fun w=>zay (r.getD w 0#64) l).getD w 0#64=zay (r.getD (l.getD w 0) 0#64) l by
   simp [List.getD,List.getElem?_map,List.getElem?_eq_getElem hw]]
theorem zAa {m:KM} {l:List Nat} (hn:l.Nodup) (h2:l.length≤64) {w:Nat} (hw:w∈l) {i:Nat} (hi:i < l.length):mkT (zC m l) (l.idxOf w:Int) i=zex l (zz m) w i:=by
 unfold mkT zex
 rw [ziQ h2 hi]
 have h1:=zj6 hw
 by_cases e:i=l.idxOf w
 ·rw [if_pos (by omega),if_pos (by rw [e];exact h1.2)]
 ·rw [if_neg (by omega),if_neg (fun e'=>e (ze8 hn hi h1.1 (by rw [h1.2,e'])))]
theorem zyy {m:KM} {l:List Nat} (hn:l.Nodup) (h2:l.length≤64) {w:Nat} (hw:w∈l):(∀ i,i < l.length→(zej (zC m l) (l.idxOf w:Int)).1 i=(zbw l (zf m) (zz m) w).1 i)∧(zej (zC m l) (l.idxOf w:Int)).2=(zbw l (zf m) (zz m) w).2:=by
 have hid:Ren l.length fun w=>w:=⟨fun _ h=>h,fun _ _ _ _ h=>h⟩
 have:=zmD hid (zrN h2 (m:=m)) (first:=zex l (zz m) w) (first':=mkT (zC m l) (l.idxOf w:Int)) fun i hi=>zAa hn h2 hw hi
 unfold zej zbw
 rw [show (zC m l).W.toNat=l.length from Int.toNat_natCast _]
 exact this.2.2
def ziH (p:KM):Bool:=decide ((zej p (-1)).2=p.W.toNat)
theorem zA1 {p:KM} (root:Int):(zej p root).2≤p.W.toNat:=by
 unfold zej;rw [zob];exact zhJ _ _
theorem zz9 {p:KM} (h:ziH p=true) (root:Int):Ren p.W.toNat (zej p root).1:=by
 refine (zqV (g:=mkT p (-1)) (fun v w _ _ e=>?_) (of_decide_eq_true h)).2
 unfold mkT at e ⊢
 have e2:zz p v=zz p w:=by
  simp only [List.cons.injEq,and_true] at e;exact e.2
 rw [e2,if_neg (by omega),if_neg (by omega)]
noncomputable def zdo (m:KM) (w:Nat):List Nat:=zT (zG m.W.toNat (zf m) w) (zf m) (zz m) w
noncomputable def zf8 (m:KM) (w:Int):KM×List Int×Int :=
 if za m≠0 then (zbi,[],za m) else if w < 0∨m.W≤w then (zbi,[],2) else
 if ziH (zC m (zG m.W.toNat (zf m) w.toNat))=false then (zbi,[],16) else (zC m (zdo m w.toNat),(zdo m w.toNat).map fun (x:Nat)=>(x:Int),0)
theorem zjd {n:Nat} {R:zB} {w:Nat} : (zG n R w).length≤n:=by
 have:=zbJ (ziq n R w) (l':=List.range n) fun x hx=>List.mem_range.2 (zfk.1 hx).lt
 simpa using this
theorem zqa {n:Nat} {q:Nat→Nat} (h:Ren n q):zcF (ptL n q) n=true:=by
 rw [zel]
 refine ⟨zbx,fun x hx=>?_,?_⟩
 ·obtain ⟨w,hw,rfl⟩:=List.mem_map.1 hx
  have:=h.lt w (List.mem_range.1 hw);omega
 ·unfold ptL
  rw [List.Nodup,List.pairwise_map]
  exact List.Pairwise.imp_of_mem (fun {a b} ha hb hab e=>hab (h.inj a b (List.mem_range.1 ha) (List.mem_range.1 hb) (by omega))) List.nodup_range
theorem zBb {n:Nat} {q:Nat→Nat} {w:Nat} (hw:w < n):toF (ptL n q) w=q w:=by
 have:at0 (ptL n q) w=((q w:Nat):Int):=zc5 (za3 hw)
 unfold toF;omega
theorem zAY {n:Nat} {q:Nat→Nat} (h:Ren n q) {i:Nat} (hi:i < n):(za9 (ptL n q) n).getD i 0=zb7 n q i:=by
 obtain ⟨w,hw,rfl⟩:=h.surj hi
 have:=zlG (zqa h) hw
 rw [zBb hw] at this
 rw [this,zhk h hw]
theorem zxW {m:KM} (hc:za m=0) {w:Nat} (hw:w < m.W.toNat) (hmin:ziH (zC m (zG m.W.toNat (zf m) w))=true) :
  let l:=zG m.W.toNat (zf m) w
  let q:=(zej (zC m l) (l.idxOf w:Int)).1
  Ren l.length q∧zC (zC m l) (za9 (ptL l.length q) l.length)=zC m (zdo m w)∧zdo m w=(List.range l.length).map fun k=>l.getD (zb7 l.length q k) 0:=by
 intro l q
 have hg:=zk hc
 have w2:=hg.w2
 have hl:l.length≤64:=by have:=zjd (n:=m.W.toNat) (R:=zf m) (w:=w);show (zG m.W.toNat (zf m) w).length≤64;omega
 have hwl:w∈l:=ze7 hw
 have hp:=zyy (m:=m) (ziq m.W.toNat (zf m) w) hl hwl
 have hq:Ren l.length q:=by
  have:=zz9 hmin (l.idxOf w:Int)
  rw [show (zC m (zG m.W.toNat (zf m) w)).W.toNat=l.length from Int.toNat_natCast _] at this
  exact this
 have e:zdo m w=(List.range l.length).map fun k=>l.getD (zb7 l.length q k) 0:=by
  unfold zdo zT
  refine zD fun k hk=>?_
  show l.getD (zb7 l.length _ k) 0=_
  congr 1
  obtain ⟨v,hv,rfl⟩:=hq.surj hk
  have hq':Ren l.length (zbw l (zf m) (zz m) w).1:=⟨fun i hi=>(hp.1 i hi)▸hq.lt i hi,fun i j hi hj e=>hq.inj i j hi hj (((hp.1 i hi).trans e).trans (hp.1 j hj).symm)⟩
  rw [zhk hq hv,show q v=(zbw l (zf m) (zz m) w).1 v from hp.1 v hv,zhk hq' hv]
 refine ⟨hq,?_,e⟩
 have hk:(za9 (ptL l.length q) l.length).length=l.length:=zji _ _
 rw [zzB hl (by omega) (fun x hx=>?_),e]
 ·congr 1
  refine zdH (d:=0) (by simp [hk]) fun i hi=>?_
  rw [List.length_map,hk] at hi
  have h1:((za9 (ptL l.length q) l.length).map fun i=>l.getD i 0).getD i 0=l.getD ((za9 (ptL l.length q) l.length).getD i 0) 0:=by
   simp [List.getD,List.getElem?_map,List.getElem?_eq_getElem (show i < (za9 (ptL l.length q) l.length).length by omega)]
  rw [h1,zAY hq hi]
  simp [List.getD,hi]
 ·obtain ⟨i,hi,rfl⟩:=zgi hx
  exact zwy (zqa hq) (by omega)
end Go.Ab
namespace Go.Proofs
def Tryz.lays129_ren:Go.Shelf.Ren:=⟨fun|129=>65|n=>n,fun|53=>43|3=>3|4=>4|46=>44|5=>5|9=>9|n=>n,fun|n=>n⟩
theorem Tryz.lays129:Go.Proofs.Lays.n129 Tryz.prog Tryz.lays129_ren := {
 mixed:=by kernel_rfl
 f129:=Tryz.func65.trans (congrArg some (by kernel_rfl))
 t3:=Tryz.underlying3
 a3:=Tryz.isAgg3
 z3:=Tryz.sizeOf3
 v3:=Tryz.zeroValue3
 t4:=Tryz.underlying4
 a4:=Tryz.isAgg4
 z4:=Tryz.sizeOf4
 v4:=Tryz.zeroValue4
 t5:=Tryz.underlying5
 a5:=Tryz.isAgg5
 z5:=Tryz.sizeOf5
 v5:=Tryz.zeroValue5
 t9:=Tryz.underlying9
 a9:=Tryz.isAgg9
 z9:=Tryz.sizeOf9
 v9:=Tryz.zeroValue9
 t46:=Tryz.underlying44
 a46:=Tryz.isAgg44
 z46:=Tryz.sizeOf44
 v46:=Tryz.zeroValue44
 t53:=Tryz.underlying43
 a53:=Tryz.isAgg43
 z53:=Tryz.sizeOf43
 v53:=Tryz.zeroValue43 }
end Go.Proofs
namespace Go.Ab
open Go Go.Proofs
set_option maxRecDepth 10000
set_option maxHeartbeats 4000000
variable {T:Nat→Obj→Prop}
theorem zu2:zcQ Tryz.prog zg7:=⟨_,Tryz.func65,by kernel_rfl,by kernel_rfl⟩
theorem zsp (x:BitVec 64):Fn Tryz.prog T zg7 [.d (.u64 x)] [] (.d (.int .i64 (Sort.bitsLen x.toNat:Int))) []:=by
 refine zum (ds:=[.u64 x]) zu2 fun w args hw hsz hargs=>?_
 obtain ⟨X,hX⟩:=hargs 0 (by simp)
 have ha:args = #[.int .u64 (x.toNat:Int)]:=by
  have h0:args.getD 0 undef = .int .u64 (x.toNat:Int):=by
   generalize args.getD 0 undef=y at hX
   cases hX;rfl
  obtain ⟨l⟩:=args
  match l,hsz with
  | [y],_=>rw [← h0];rfl
 rw [ha]
 have:=Any.bits_Len64 Tryz.lays129 (x.toNat:Int) w (by omega) (by have:=x.isLt;omega)
 refine this.mono fun e w' he=>⟨_,he.1,he.2,fun X=>?_⟩
 rw [Int.toNat_natCast,Go.Proofs.bitLen_eq _ x.isLt]
 exact .int _ _ (by decide)
theorem zso (x:BitVec 64):Fn Tryz.prog T zdU [.d (.u64 x)] [] (.d (.int .i64 (Sort.bitsLen x.toNat:Int))) []:=by
 refine zg zx zpa (by show 1≤8;decide) ?_
 (repeat' ((conv=>whnf);first|refine vT ?_|refine vX ?_|refine yD (zsp _) ⟨⟨rfl,rfl⟩,rfl⟩ rfl ?_));all_goals try conv=>whnf
end Go.Ab
namespace Go.Ab
open Go Go.Proofs
set_option maxRecDepth 10000
set_option maxHeartbeats 4000000
section
variable {α:Type} [Inhabited α] [DecidableEq α]
def ddA (d:Array α):Nat→List α
 | 0=>[]
 | n+1=>if 0 < n∧d[n]! = d[n - 1]! then ddA d n else ddA d n++[d[n]!]
def Steps (d:Array α):Prop := ∀ j,0 < j→j < d.size→d[j]! ≠ d[j - 1]!
theorem zxx {d:Array α} {n:Nat} (h:n < d.size):d.toList.take (n+1)=d.toList.take n++[d[n]!]:=by
 rw [List.take_add_one,zbN h];rfl
theorem zmr {d:Array α} : ∀ {n:Nat},n≤d.size→(∀ j,0 < j→j < n→d[j]! ≠ d[j - 1]!)→ddA d n=d.toList.take n
 | 0,_,_=>rfl
 | n+1,h,hs=>by
  rw [ddA,if_neg (fun hh=>hs n hh.1 (by omega) hh.2),zmr (by omega) (fun j h0 h1=>hs j h0 (by omega)),zxx (by omega)]
theorem zr2 {d:Array α} {k:Nat} (h0:0 < k) (h1:k < d.size) (hk : ∀ j,0 < j→j < k→d[j]! ≠ d[j - 1]!) (he:d[k]! = d[k - 1]!):d.toList.take k=ddA d (k+1):=by
 rw [ddA,if_pos ⟨h0,he⟩,zmr (by omega) hk]
theorem ztm {e:Array α} {a:Nat} {x:α} (h:a < e.size):(e.setIfInBounds a x).toList.take (a+1)=e.toList.take a++[x]:=by
 have hl:a < e.toList.length:=by simpa using h
 rw [Array.toList_setIfInBounds,List.take_add_one,List.getElem?_set_self hl,List.take_set_of_le (Nat.le_refl a)];rfl
theorem zuG {e:Array α} {a j:Nat} {x:α} (h:a≠j):(e.setIfInBounds a x)[j]! = e[j]! := by
 simp [getElem!_def,Array.getElem?_setIfInBounds_ne h]
theorem zuj {d:Array α} {n:Nat} (h:0 < n) (he:d[n]! = d[n - 1]!):ddA d (n+1)=ddA d n:=by rw [ddA,if_pos ⟨h,he⟩]
theorem zwa {d:Array α} {n:Nat} (he:d[n]! ≠ d[n - 1]!):ddA d (n+1)=ddA d n++[d[n]!]:=by rw [ddA,if_neg (fun h=>he h.2)]
theorem zuh {enc:α→D} {e:Array α} {z:D} {a n:Nat} (h:a≤e.size):((List.take a (e.toList.map enc))++(List.replicate n z++List.drop (a+n) (e.toList.map enc))).take a=(e.toList.take a).map enc:=by
 rw [List.take_append_of_le_length (by simp;omega),List.take_take,Nat.min_self,List.map_take]
end
end Go.Ab
namespace Go.Ab
section
variable {α:Type} [Inhabited α] [DecidableEq α]
theorem zfi {d:Array α} {x:α} : ∀ {n:Nat},x∈ddA d n ↔ ∃ i,i < n∧d[i]! = x
 | 0=>by simp [ddA]
 | n+1=>by
  rw [ddA]
  constructor
  ·intro h
   split at h
   ·obtain ⟨i,h1,h2⟩:=zfi.1 h
    exact ⟨i,by omega,h2⟩
   ·rcases List.mem_append.1 h with h|h
    ·obtain ⟨i,h1,h2⟩:=zfi.1 h
     exact ⟨i,by omega,h2⟩
    ·exact ⟨n,by omega,by simp at h;exact h.symm⟩
  ·rintro ⟨i,h1,h2⟩
   split
   ·rename_i hc
    by_cases e:i=n
    ·subst e
     exact zfi.2 ⟨i - 1,by omega,by rw [← hc.2];exact h2⟩
    ·exact zfi.2 ⟨i,by omega,h2⟩
   ·by_cases e:i=n
    ·subst e;exact List.mem_append.2 (.inr (by simp [h2]))
    ·exact List.mem_append.2 (.inl (zfi.2 ⟨i,by omega,h2⟩))
theorem zjX {lt:α→α→Bool} {d:Array α} (hs : ∀ i j,i < j→j < d.size→lt d[j]! d[i]! = false) (tri : ∀ x y,lt x y=false→lt y x=false→x=y) : ∀ {n:Nat},n≤d.size→(ddA d n).Pairwise fun x y=>lt x y=true
 | 0,_=>List.Pairwise.nil
 | n+1,h=>by
  rw [ddA]
  split
  ·exact zjX hs tri (by omega)
  ·rename_i hc
   refine List.pairwise_append.2 ⟨zjX hs tri (by omega),List.pairwise_singleton _ _,fun x hx y hy=>?_⟩
   obtain ⟨i,hi,rfl⟩:=zfi.1 hx
   have hy:y=d[n]! := by simpa using hy
   subst hy
   cases hb:lt d[i]! d[n]! with
   | true=>rfl
   | false =>
    have e1:=tri _ _ hb (hs i n hi (by omega))
    refine absurd ⟨by omega,?_⟩ hc
    by_cases e:i=n - 1
    ·rw [← e];exact e1.symm
    ·refine (tri _ _ ?_ ?_)
     ·exact hs (n - 1) n (by omega) (by omega)
     ·rw [← e1];exact hs i (n - 1) (by omega) (by omega)
end
def ltT (x y:Tup):Bool:=decide (zaX x y < 0)
theorem zhs {x y:Tup} : ltT x y=true↔zaX x y < 0:=by simp [ltT]
theorem zsL {x y:Tup} : ltT x y=false↔0≤zaX x y:=by simp [ltT]
theorem zBa:Sort.SWO ltT:=by
 refine ⟨fun x=>zsL.2 (by rw [zan.refl];omega),fun x y z h1 h2=>zhs.2 (zan.tr (zhs.1 h1) (zhs.1 h2)),fun x y z h1 h2=>?_⟩
 rw [zsL] at *
 have a1:=zan.anti x y
 have a2:=zan.anti y z
 have a3:=zan.anti x z
 by_cases e1:zaX x y=0
 ·rw [zan.zero.1 e1];exact h2
 ·by_cases e2:zaX y z=0
  ·rw [← zan.zero.1 e2];exact h1
  ·have:=zan.tr (x:=z) (y:=y) (z:=x) (by omega) (by omega)
   omega
theorem zlu {α:Type} {p:α→Bool} : ∀ {S:List α} {i:Nat},i≤S.length→(∀ (k:Nat) x,k < i→S[k]? = some x→p x=true)→(∀ (k:Nat) x,i≤k→S[k]? = some x→p x=false)→(S.filter p).length=i
 | [],i,hi,_,_=>by simp at hi;simp [hi]
 | a::S,0,hi,h1,h2=>by
  have:(a::S).filter p=[]:=by
   rw [List.filter_eq_nil_iff]
   intro x hx
   obtain ⟨k,hk⟩:=List.getElem?_of_mem hx
   rw [h2 k x (by omega) hk];simp
  rw [this];rfl
 | a::S,i+1,hi,h1,h2=>by
  rw [List.filter_cons_of_pos (h1 0 a (by omega) rfl),List.length_cons,zlu (i:=i) (by simpa using hi) (fun k x hk hx=>h1 (k+1) x (by omega) (by simpa using hx)) fun k x hk hx=>h2 (k+1) x (by omega) (by simpa using hx)]
structure zco (ts S:List Tup):Prop where
 pw:S.Pairwise fun x y=>zaX x y < 0
 mem : ∀ x,x∈S↔x∈ts
theorem zco.nodup {ts S:List Tup} (h:zco ts S):S.Nodup:=h.pw.imp fun {a b} h e=>by subst e;rw [zan.refl] at h;omega
theorem zco.cnt {ts S:List Tup} (h:zco ts S):S.length=cnN ts:=zzm h.nodup h.mem
theorem zco.le {ts S:List Tup} (h:zco ts S):S.length≤ts.length:=zbJ h.nodup fun x hx=>(h.mem x).1 hx
theorem zco.rk {ts S:List Tup} (h:zco ts S) {t:Tup} {i:Nat} (hi:i≤S.length) (h1 : ∀ (k:Nat) x,k < i→S[k]? = some x→zaX x t < 0) (h2 : ∀ (k:Nat) x,i≤k→S[k]? = some x → ¬zaX x t < 0):i=rkN ts t:=by
 rw [← zzv h.nodup h.mem]
 exact (zlu hi (fun k x hk hx=>decide_eq_true (h1 k x hk hx)) fun k x hk hx=>decide_eq_false (h2 k x hk hx)).symm
theorem zco.lt_of {ts S:List Tup} (h:zco ts S) {t:Tup} {i k:Nat} {x y:Tup} (hx:S[i]? = some x) (hy:S[k]? = some y) (hik:k≤i) (hl:zaX x t < 0):zaX y t < 0:=by
 by_cases e:k=i
 ·subst e;rw [hx] at hy;cases hy;exact hl
 ·obtain ⟨a,b⟩:=List.getElem?_eq_some_iff.1 hx
  obtain ⟨c,d⟩:=List.getElem?_eq_some_iff.1 hy
  have:=List.pairwise_iff_getElem.1 h.pw k i c a (by omega)
  rw [b,d] at this
  exact zan.tr this hl
theorem zq3 (d:Array Tup):(Sort.sort ltT d).toList.Perm d.toList:=by
 obtain ⟨⟨h1,-,h2⟩,-⟩:=Sort.sort_sorts ltT zBa d
 have e1:(Sort.sort ltT d).extract 0 d.size=Sort.sort ltT d:=by rw [← h1];simp
 have e2:d.extract 0 d.size=d:=by simp
 rwa [e1,e2] at h2
theorem zvM {ts:List Tup} {S:Array Tup} (hS:S=Sort.sort ltT ts.toArray):zco ts (ddA S S.size):=by
 subst hS
 obtain ⟨⟨h1,-,-⟩,h3⟩:=Sort.sort_sorts _ zBa ts.toArray
 have hp:=zq3 ts.toArray
 generalize Sort.sort ltT ts.toArray=S at h1 h3 hp
 refine ⟨?_,fun x=>?_⟩
 ·refine (zjX (fun i j hij hj=>h3 i j (Nat.zero_le _) hij (by rw [← h1];exact hj)) (fun x y h1 h2=>zan.zero.1 (by rw [zsL] at h1 h2;have:=zan.anti x y;omega)) (Nat.le_refl _)).imp fun h=>zhs.1 h
 ·rw [zfi]
  have:=hp.mem_iff (a:=x)
  rw [show ts.toArray.toList=ts from rfl] at this
  rw [← this]
  constructor
  ·rintro ⟨i,hi,rfl⟩;exact List.mem_of_getElem? (zbN hi)
  ·intro hx
   obtain ⟨i,hi⟩:=List.getElem?_of_mem hx
   exact ⟨i,(za2 hi).2,(za2 hi).1⟩
end Go.Ab
namespace Go.Ab
open Go Go.Proofs
set_option maxRecDepth 10000
set_option maxHeartbeats 4000000
variable {T:Nat→Obj→Prop}
theorem zeu (a b:Int):Fn Tryz.prog T zbF [.d (.int .i64 a),.d (.int .i64 b)] [] (.d (.int .i64 (za8 a b))) []:=by
 have hn : ∀ z:Int,Fn Tryz.prog T ze4 [.d (.int .i64 z)] [] (.d (.bool false)) []:=fun z=>by
  refine zg zx zhS (by show 1≤6;decide) ?_
  (repeat' ((conv=>whnf);first|refine vT ?_|refine vZ ?_));all_goals try conv=>whnf
  simp
 refine zg zx zlI (by show 2≤20;decide) ?_
 (repeat' ((conv=>whnf);first|refine vA ?_|refine vH ?_|(refine vF ?_ ?_<;>intro hc<;>try simp only [vL] at hc)|refine vT ?_|refine vX ?_|refine yD (hn _) (by (repeat refine ⟨⟨rfl,rfl⟩,?_⟩);rfl) rfl ?_));all_goals try conv=>whnf
 all_goals (unfold za8;first|rw [if_pos ‹_›]|(rw [if_neg (by omega)];first|rw [if_pos ‹_›]|rw [if_neg (by omega)])|skip)
theorem zrY {α:Type} {c:α→α→Int} {a b:List α} {k:Nat} (h:k=min a.length b.length):zab c (a.drop k) (b.drop k)=za8 (a.length:Int) (b.length:Int):=by
 rcases Nat.lt_trichotomy a.length b.length with h1|h1|h1
 ·rw [List.drop_eq_nil_of_le (show a.length≤k by omega)]
  obtain ⟨x,hx⟩ : ∃ x,b[k]? = some x:=⟨_,List.getElem?_eq_getElem (by omega)⟩
  rw [zQ hx,zab,za8,if_pos (by omega)]
 ·rw [List.drop_eq_nil_of_le (show a.length≤k by omega),List.drop_eq_nil_of_le (show b.length≤k by omega),zab,za8,if_neg (by omega),if_neg (by omega)]
 ·rw [List.drop_eq_nil_of_le (show b.length≤k by omega)]
  obtain ⟨x,hx⟩ : ∃ x,a[k]? = some x:=⟨_,List.getElem?_eq_getElem (by omega)⟩
  rw [zQ hx,zab,za8,if_neg (by omega),if_pos (by omega)]
theorem zpW (a b:List Int) (ha:a.length≤1000000):Fn Tryz.prog T zeE [.d (dI a),.d (dI b),.d (.fn zbF [])] [] (.d (.int .i64 (zab za8 a b))) []:=by
 refine zg zx zia (by show 3≤36;decide) ?_
 (repeat' ((conv=>whnf);first|refine vA ?_|refine vJ fun hg=>?_|refine vT ?_));all_goals try conv=>whnf
 refine zah (fun (k:Nat)=>[(0,.d (dI a)),(1,.d (dI b)),(2,.d (.fn zbF [])),(13,.d (.int .i64 ((min ((a.map (D.int .i64)).length:Int) ((b.map (D.int .i64)).length:Int))))),(14,.d (.int .i64 ((k:Int))))]) (fun (k:Nat)=>k≤a.length∧k≤b.length∧zab za8 a b=zab za8 (a.drop k) (b.drop k)) (fun (k:Nat)=>a.length - k) (0) (⟨by simp,by simp,rfl⟩) (by (repeat' first|exact trivial|exact rfl|refine And.intro ?_ ?_)) ?_
 rintro k ⟨hk,hk2,hI⟩
 by_cases hkl:k < a.length∧k < b.length
 ·obtain ⟨x,hx⟩ : ∃ x,a[k]? = some x:=⟨_,List.getElem?_eq_getElem hkl.1⟩
  obtain ⟨y,hy⟩ : ∃ y,b[k]? = some y:=⟨_,List.getElem?_eq_getElem hkl.2⟩
  have hs:zab za8 a b=if za8 x y=0 then zab za8 (a.drop (k+1)) (b.drop (k+1)) else za8 x y:=by rw [hI,zQ hx,zQ hy,zab]
  (repeat' ((conv=>whnf);first|refine vA ?_|((first|refine vD ?_ ?_|refine vF ?_ ?_)<;>intro hc<;>try simp only [vL] at hc)|refine vJ fun hg=>?_|refine vT ?_|refine vN ‹_› ?_|(refine vO ?_ ?_;·omega)|(refine vU ?_ ?_;·kernel_rfl)|refine vX ?_|refine yD (zeu _ _) ⟨⟨rfl,rfl⟩,⟨rfl,rfl⟩,rfl⟩ rfl ?_));all_goals try conv=>whnf
  ·rw [hs,if_neg hc]
  ·exact ⟨k+1,[],[],⟨by omega,by omega,by rw [hs,if_pos hc]⟩,by (omega),by (refine ⟨rfl,rfl,rfl,?_,?_⟩;repeat' first|exact trivial|exact rfl|refine And.intro ?_ ?_)⟩
  ·omega
 ·(repeat' ((conv=>whnf);first|refine vA ?_|((first|refine vD ?_ ?_|refine vF ?_ ?_)<;>intro hc<;>try simp only [vL] at hc)|refine vJ fun hg=>?_|refine vT ?_|(refine vQ ?_ fun x hx=>?_;·omega)|(refine vO ?_ ?_;·omega)|(refine vU ?_ ?_;·kernel_rfl)|refine vX ?_|refine yD (zeu _ _) ⟨⟨rfl,rfl⟩,⟨rfl,rfl⟩,rfl⟩ rfl ?_));all_goals try conv=>whnf
  iterate 2 (exfalso;omega)
  ·rw [hI,zrY (by omega),List.length_map,List.length_map]
def Sml (t:Tup):Prop:=t.length≤1000 ∧ ∀ r∈t,r.length≤1000
theorem zwm (x y:List Int) (h:x.length≤1000000):Fn Tryz.prog T zbG [.d (dI x),.d (dI y)] [] (.d (.int .i64 (zab za8 x y))) []:=by
 refine zg zx zlK (by show 2≤8;decide) ?_
 (repeat' ((conv=>whnf);first|refine vT ?_|refine vX ?_|refine yD (zpW x y h) ⟨⟨rfl,rfl⟩,⟨rfl,rfl⟩,⟨rfl,rfl⟩,rfl⟩ rfl ?_));all_goals try conv=>whnf
theorem zss (a b:Tup) (ha:a.length≤1000000) (hb : ∀ r∈a,r.length≤1000000):Fn Tryz.prog T zd7 [.d (dII a),.d (dII b),.d (.fn zbG [])] [] (.d (.int .i64 (zab (zab za8) a b))) []:=by
 refine zg zx zhT (by show 3≤36;decide) ?_
 (repeat' ((conv=>whnf);first|refine vA ?_|refine vJ fun hg=>?_|refine vT ?_));all_goals try conv=>whnf
 refine zah (fun (k:Nat)=>[(0,.d (dII a)),(1,.d (dII b)),(2,.d (.fn zbG [])),(13,.d (.int .i64 ((min ((a.map dI).length:Int) ((b.map dI).length:Int))))),(14,.d (.int .i64 ((k:Int))))]) (fun (k:Nat)=>k≤a.length∧k≤b.length∧zab (zab za8) a b=zab (zab za8) (a.drop k) (b.drop k)) (fun (k:Nat)=>a.length - k) (0) (⟨by simp,by simp,rfl⟩) (by (repeat' first|exact trivial|exact rfl|refine And.intro ?_ ?_)) ?_
 rintro k ⟨hk,hk2,hI⟩
 by_cases hkl:k < a.length∧k < b.length
 ·obtain ⟨x,hx⟩ : ∃ x,a[k]? = some x:=⟨_,List.getElem?_eq_getElem hkl.1⟩
  obtain ⟨y,hy⟩ : ∃ y,b[k]? = some y:=⟨_,List.getElem?_eq_getElem hkl.2⟩
  have hs:zab (zab za8) a b=if (zab za8) x y=0 then zab (zab za8) (a.drop (k+1)) (b.drop (k+1)) else (zab za8) x y:=by rw [hI,zQ hx,zQ hy,zab]
  have cA:=zwm (T:=T) x y (hb x (List.mem_of_getElem? hx))
  (repeat' ((conv=>whnf);first|refine vA ?_|((first|refine vD ?_ ?_|refine vF ?_ ?_)<;>intro hc<;>try simp only [vL] at hc)|refine vJ fun hg=>?_|refine vT ?_|refine vN ‹_› ?_|(refine vO ?_ ?_;·omega)|(refine vU ?_ ?_;·kernel_rfl)|refine vX ?_|refine yD cA ⟨⟨rfl,rfl⟩,⟨rfl,rfl⟩,rfl⟩ rfl ?_|refine yD (zeu _ _) ⟨⟨rfl,rfl⟩,⟨rfl,rfl⟩,rfl⟩ rfl ?_));all_goals try conv=>whnf
  ·rw [hs,if_neg hc]
  ·exact ⟨k+1,[],[],⟨by omega,by omega,by rw [hs,if_pos hc]⟩,by (omega),by (refine ⟨rfl,rfl,rfl,?_,?_⟩;repeat' first|exact trivial|exact rfl|refine And.intro ?_ ?_)⟩
  ·omega
 ·(repeat' ((conv=>whnf);first|refine vA ?_|(refine vF ?_ ?_<;>intro hc<;>try simp only [vL] at hc)|refine vJ fun hg=>?_|refine vT ?_|(refine vQ ?_ fun x hx=>?_;·omega)|refine vX ?_|refine yD (zeu _ _) ⟨⟨rfl,rfl⟩,⟨rfl,rfl⟩,rfl⟩ rfl ?_));all_goals try conv=>whnf
  ·exfalso;omega
  ·rw [hI,zrY (by omega),List.length_map,List.length_map]
theorem zhP (x y:Tup) (h:Sml x):Fn Tryz.prog T zN [.d (dII x),.d (dII y)] [] (.d (.int .i64 (zaX x y))) []:=by
 have cB:=zss (T:=T) x y (by have:=h.1;omega) (fun r hr=>by have:=h.2 r hr;omega)
 refine zg zx znZ (by show 2≤8;decide) ?_
 (repeat' ((conv=>whnf);first|refine vT ?_|refine vX ?_|refine yD cB ⟨⟨rfl,rfl⟩,⟨rfl,rfl⟩,⟨rfl,rfl⟩,rfl⟩ rfl ?_));all_goals try conv=>whnf
 rfl
theorem zAC {α:Type} [Inhabited α] {d:Array α} {i j:Nat} (hi:i < d.size) (hj:j < d.size) {x:α} (h:x∈(Sort.swp d i j).toList):x∈d.toList:=by
 have a1:=List.mem_of_getElem? (zbN hi)
 have a2:=List.mem_of_getElem? (zbN hj)
 unfold Sort.swp at h
 simp only [Array.set!_eq_setIfInBounds,Array.toList_setIfInBounds] at h
 rcases List.mem_or_eq_of_mem_set h with h|rfl
 ·rcases List.mem_or_eq_of_mem_set h with h|rfl
  ·exact h
  ·exact a2
 ·exact a1
abbrev zgn (d:Array Tup):Ob := .row 1 (d.toList.map dII)
theorem zz0 (d:Array Tup) (b:Nat) (hd : ∀ x∈d.toList,Sml x) (hb:b≤d.size) (hs:d.size≤1000) :
  Fn Tryz.prog T zaT [.own 0,.d (.int .i64 0),.d (.int .i64 (b:Int)),.d (.fn zN [])] [zgn d] (.tup []) [some (zgn (Sort.insertionSort ltT d 0 b))]:=by
 refine zat zx zcG (by show 4≤53;decide) _ (fun e env mem n h=>h) ?_
 (repeat' ((conv=>whnf);first|refine vT ?_|(refine vO ?_ ?_;·omega)|fail));all_goals try conv=>whnf
 refine zq (fun ((ii,xs):Int×List D)=>[(0,.own 0),(1,.d (.int .i64 (0))),(2,.d (.int .i64 ((b:Int)))),(3,.d (.fn zN [])),(8,.d (.int .i64 (ii))),(zc,.own 0)]) (fun ((ii,xs):Int×List D)=>[(0,some (.row 1 xs))]) 1 (fun ((ii,xs):Int×List D) => ∃ (i:Nat) (e:Array Tup),ii=i∧xs=e.toList.map dII∧0 < i∧i≤b+1∧e.size=d.size∧(∀ x∈e.toList,Sml x)∧Sort.insOuter ltT 0 b i e=Sort.insertionSort ltT d 0 b) (fun ((ii,xs):Int×List D)=>(b - ii).toNat) (((0:Int)+1,d.toList.map dII)) [(0,0)] [] (⟨1,d,by omega,rfl,by omega,by omega,rfl,hd,rfl⟩) (by (refine ⟨rfl,rfl,rfl,?_,?_⟩;repeat' first|exact trivial|exact rfl|refine And.intro ?_ ?_|refine ⟨_,rfl,?_⟩|decide)) ?_
 rintro ⟨_,_⟩ ⟨i,e,rfl,rfl,hi,hi2,he,hsm,hI⟩
 (repeat' ((conv=>whnf);first|refine vA ?_|(refine vF ?_ ?_<;>intro hc<;>try simp only [vL] at hc)|refine vT ?_));all_goals try conv=>whnf
 ·refine zq (fun ((jj,xs):Int×List D)=>[(0,.own 0),(1,.d (.int .i64 (0))),(2,.d (.int .i64 ((b:Int)))),(3,.d (.fn zN [])),(8,.d (.int .i64 ((i:Int)))),(9,.d (.int .i64 (jj))),(zc,.own 0)]) (fun ((jj,xs):Int×List D)=>[(0,some (.row 1 xs))]) 1 (fun ((jj,xs):Int×List D) => ∃ (j:Nat) (g:Array Tup),jj=j∧xs=g.toList.map dII∧j≤i∧g.size=d.size∧(∀ x∈g.toList,Sml x)∧Sort.insInner ltT 0 j g=Sort.insInner ltT 0 i e) (fun ((jj,xs):Int×List D)=>jj.toNat) (((i:Int),e.toList.map dII)) [(0,0)] [] (⟨i,e,rfl,rfl,by omega,he,hsm,rfl⟩) (by (refine ⟨rfl,rfl,rfl,?_,?_⟩;repeat' first|exact trivial|exact rfl|refine And.intro ?_ ?_|refine ⟨_,rfl,?_⟩|decide)) ?_
  rintro ⟨_,_⟩ ⟨j,g,rfl,rfl,hj,hg,hgm,hJ⟩
  have hgl:g.toList.length=d.size:=by rw [Array.length_toList];exact hg
  have stop : ¬(0 < j∧ltT g[j]! g[j - 1]! = true)→Sort.insOuter ltT 0 b (i+1) g=Sort.insertionSort ltT d 0 b:=fun h=>by
   rw [← hI,Sort.insOuter.eq_def ltT 0 b i,if_pos (by omega),← hJ,zkG h]
  by_cases hj0:0 < j
  ·have hx1:g.toList[j]? = some g[j]! := zbN (by omega)
   have hx2:g.toList[((j:Int) - 1).toNat]? = some g[j - 1]! := by rw [show ((j:Int) - 1).toNat=j - 1 by omega];exact zbN (by omega)
   have co:=zhP (T:=T) g[j]! g[j - 1]! (hgm _ (List.mem_of_getElem? hx1))
   (repeat' ((conv=>whnf);first|refine vA ?_|(refine vF ?_ ?_<;>intro hc<;>try simp only [vL] at hc)|refine vT ?_|refine vN ‹_› ?_|((first|refine vO ?_ ?_|refine vP ?_ ?_);·first|omega|(simp only [vM] at *;omega))|(refine vU ?_ ?_;·kernel_rfl)|refine yD co ⟨⟨rfl,rfl⟩,⟨rfl,rfl⟩,rfl⟩ rfl ?_));all_goals try conv=>whnf
   ·refine ⟨(_,_),[(0,0)],[],?_,?_,by (refine ⟨rfl,rfl,rfl,?_,?_⟩;repeat' first|exact trivial|exact rfl|refine And.intro ?_ ?_|refine ⟨_,rfl,?_⟩|decide)⟩
    ·refine ⟨j - 1,Sort.swp g j (j - 1),by omega,?_,by omega,by rw [ztp,hg],fun x hx=>hgm x (zAC (by omega) (by omega) hx),?_⟩
     ·rw [show ((j:Int) - 1).toNat=j - 1 by omega] at hx2 ⊢
      exact zuN hx1 hx2
     ·exact (zkF (d:=g) (j:=j) (by omega) (zhs.2 ‹_›)).symm.trans hJ
    ·((simp only [vM] at *;omega))
   ·refine ⟨(_,_),[(0,0)],[],?_,?_,by (refine ⟨rfl,rfl,rfl,?_,?_⟩;repeat' first|exact trivial|exact rfl|refine And.intro ?_ ?_|refine ⟨_,rfl,?_⟩|decide)⟩
    ·exact ⟨i+1,g,by omega,rfl,by omega,by omega,hg,hgm,stop fun h=>by
      have:=zhs.1 h.2;omega⟩
    ·((simp only [vM] at *;omega))
   ·exfalso;omega
  ·(repeat' ((conv=>whnf);first|refine vA ?_|(refine vF ?_ ?_<;>intro hc<;>try simp only [vL] at hc)|refine vT ?_|(refine vQ ?_ fun x hx=>?_;·omega)|((first|refine vO ?_ ?_|refine vP ?_ ?_);·omega)|(refine vU ?_ ?_;·kernel_rfl)|fail));all_goals try conv=>whnf
   ·exfalso;omega
   ·refine ⟨(_,_),[(0,0)],[],?_,?_,by (refine ⟨rfl,rfl,rfl,?_,?_⟩;repeat' first|exact trivial|exact rfl|refine And.intro ?_ ?_|refine ⟨_,rfl,?_⟩|decide)⟩
    ·exact ⟨i+1,g,by omega,rfl,by omega,by omega,hg,hgm,stop fun h=>by omega⟩
    ·((simp only [vM] at *;omega))
 ·have e0:Sort.insertionSort ltT d 0 b=e:=by
   rw [← hI,Sort.insOuter,if_neg (by omega)]
  rw [e0]
  refine ⟨trivial,_,[(0,0)],[],rfl,.inl (by (repeat' first|exact rfl|refine ⟨_,rfl,?_⟩)),⟨by rfl,by rfl,by rfl,trivial,by (repeat' first|exact trivial|exact rfl|refine And.intro ?_ ?_|refine ⟨_,rfl,?_⟩|exact of_decide_eq_true rfl)⟩,by (repeat' first|exact trivial|exact rfl|refine And.intro ?_ ?_)⟩
theorem zz1 (d:Array Tup) (hd : ∀ x∈d.toList,Sml x) (h12:d.size≤12) (l:Nat) :
  Fn Tryz.prog T zbl [.own 0,.d (.int .i64 0),.d (.int .i64 (d.size:Int)),.d (.int .i64 (l:Int)),.d (.fn zN [])] [zgn d] (.tup []) [some (zgn (Sort.pdq ltT d 0 d.size l true true))]:=by
 have hR:Sort.pdq ltT d 0 d.size l true true=Sort.insertionSort ltT d 0 d.size:=by rw [Sort.pdq,if_pos (by omega)]
 rw [hR]
 refine zat zx zdG (by show 5≤148;decide) _ (fun e env mem n h=>h) ?_
 (repeat' ((conv=>whnf);refine vT ?_));all_goals try conv=>whnf
 refine zq (fun (u:Unit)=>[(0,.own 0),(1,.d (.int .i64 (0))),(2,.d (.int .i64 ((d.size:Int)))),(3,.d (.int .i64 ((l:Int)))),(4,.d (.fn zN [])),(10,.d (.bool (true))),(11,.d (.bool (true))),(zc,.own 0)]) (fun (u:Unit)=>[(0,some (zgn d))]) 1 (fun (u:Unit)=>True) (fun (u:Unit)=>0) (()) [(0,0)] [] (trivial) (by (refine ⟨rfl,rfl,rfl,?_,?_⟩;repeat' first|exact trivial|exact rfl|exact .inr (.inl ⟨rfl,rfl⟩)|refine And.intro ?_ ?_|refine ⟨_,rfl,?_⟩|decide)) ?_
 rintro u -
 (repeat' ((conv=>whnf);first|refine zhA.but 39 rfl ?_|(refine vF ?_ ?_<;>intro hc<;>try simp only [vL] at hc)|refine vT ?_|(refine vO ?_ ?_;·omega)|fail));all_goals try conv=>whnf
 ·refine zaa.objs [0] (zz0 d d.size hd (Nat.le_refl _) (by omega)) (by (repeat' first|exact rfl|refine And.intro ?_ ?_|refine ⟨_,rfl,?_⟩)) (by (repeat' first|exact rfl|refine And.intro ?_ ?_)) (by rfl) (by rfl) (by simp) ?_
  (repeat' ((conv=>whnf);refine vT ?_));all_goals try conv=>whnf
  refine ⟨trivial,_,[(0,0)],[],rfl,.inl (by (repeat' first|exact rfl|refine ⟨_,rfl,?_⟩)),⟨by rfl,by rfl,by rfl,trivial,by (repeat' first|exact trivial|exact rfl|refine And.intro ?_ ?_|refine ⟨_,rfl,?_⟩|exact of_decide_eq_true rfl)⟩,by (repeat' first|exact trivial|exact rfl|refine And.intro ?_ ?_)⟩
 all_goals (exfalso;omega)
theorem zsq (d:Array Tup) (hd : ∀ x∈d.toList,Sml x) (h12:d.size≤12):Fn Tryz.prog T zaF [.own 0,.d (.fn zN [])] [zgn d] (.tup []) [some (zgn (Sort.sort ltT d))]:=by
 have hn:((BitVec.ofInt 64 (d.size:Int)).toNat)=d.size:=by simp;omega
 have hl:(d.toList.map dII).length=d.size:=by simp
 have hp:=zz1 (T:=T) d hd h12 (Sort.bitsLen d.size)
 refine zat zx zb1 (by show 2≤14;decide) _ (fun e env mem n h=>h) ?_
 (repeat' ((conv=>whnf);first|refine vJ fun hg=>?_|refine vT ?_|refine yD (zso _) ⟨⟨rfl,rfl⟩,rfl⟩ rfl ?_));all_goals try conv=>whnf
 have e1:((d.toList.map dII).length:Int)=(d.size:Int):=by rw [hl]
 have e2:(Sort.bitsLen (BitVec.ofInt 64 ((d.toList.map dII).length:Int)).toNat:Int)=(Sort.bitsLen d.size:Int):=by rw [hl,hn]
 rw [← e1,← e2] at hp
 refine zaa.objs [0] (hp) (by (repeat' first|exact rfl|refine And.intro ?_ ?_|refine ⟨_,rfl,?_⟩)) (by (repeat' first|exact rfl|refine And.intro ?_ ?_)) (by rfl) (by rfl) (by simp) ?_
 (repeat' ((conv=>whnf);refine vT ?_));all_goals try conv=>whnf
 refine ⟨trivial,_,[(0,0)],[],rfl,.inl (by (repeat' first|exact rfl|refine ⟨_,rfl,?_⟩)),⟨by rfl,by rfl,by rfl,trivial,by (repeat' first|exact trivial|exact rfl|refine And.intro ?_ ?_|refine ⟨_,rfl,?_⟩|exact of_decide_eq_true rfl)⟩,by (repeat' first|exact trivial|exact rfl|refine And.intro ?_ ?_)⟩
end Go.Ab
namespace Go.Ab
open Go Go.Proofs
set_option maxRecDepth 10000
set_option maxHeartbeats 4000000
variable {T:Nat→Obj→Prop}
theorem zst (x y:Tup) (h:Sml x):Fn Tryz.prog T zcA [.d (dII x),.d (dII y)] [] (.d (.bool (decide (x=y)))) []:=by
 have cA:=zhP (T:=T) x y h
 refine zg zx zlL (by show 2≤9;decide) ?_
 (repeat' ((conv=>whnf);first|refine vT ?_|refine vZ ?_|refine yD cA ⟨⟨rfl,rfl⟩,⟨rfl,rfl⟩,rfl⟩ rfl ?_));all_goals try conv=>whnf
 rw [Bool.eq_iff_iff,decide_eq_true_eq,decide_eq_true_eq];exact zan.zero
abbrev fEq:D := .fn zcA []
theorem ztH (d:Array Tup) (hm : ∀ x∈d.toList,Sml x) (hs:d.size≤1000) (hd:Steps d):Fn Tryz.prog T zA [.own 0,.d fEq] [zgn d] (.own 1) [none,some (zgn d)]:=by
 have hln:d.toList.length=d.size:=Array.length_toList
 refine zat zx zap (by show 2≤66;decide) _ (fun e env mem n h=>h) ?_
 (repeat' ((conv=>whnf);first|refine vA ?_|(refine vF ?_ ?_<;>intro hc<;>try simp only [vL] at hc)|refine vJ fun hg=>?_|refine vT ?_));all_goals try conv=>whnf
 ·refine ⟨trivial,_,[(1,0)],[],rfl,.inl (by (repeat' exact rfl)),⟨by rfl,by rfl,by rfl,trivial,by (repeat' first|exact trivial|exact rfl|refine And.intro ?_ ?_|refine ⟨_,rfl,?_⟩|exact of_decide_eq_true rfl)⟩,by (repeat' first|exact trivial|refine And.intro ?_ ?_)⟩
 refine zq (fun (i:Int)=>[(0,.own 0),(1,.d fEq),(5,.d (.int .i64 (i))),(zc,.own 0)]) (fun (i:Int)=>[(0,some (zgn d))]) 1 (fun (i:Int) => ∃ k:Nat,i=k∧0 < k∧k≤d.size) (fun (i:Int)=>(d.size - i).toNat) (1) [(0,0)] [] (⟨1,rfl,by omega,by omega⟩) (by (refine ⟨rfl,rfl,rfl,?_,?_⟩;repeat' first|exact trivial|exact rfl|refine And.intro ?_ ?_|refine ⟨_,rfl,?_⟩|decide)) ?_
 rintro _ ⟨k,rfl,hk0,hk1⟩
 by_cases hkl:k < d.size
 ·have hx1:d.toList[k]? = some d[k]! := zbN hkl
  have hx2:d.toList[((k:Int) - 1).toNat]? = some d[k - 1]! := by rw [show ((k:Int) - 1).toNat=k - 1 by omega];exact zbN (by omega)
  have cA:=zst (T:=T) d[k]! d[k - 1]! (hm _ (List.mem_of_getElem? hx1))
  (repeat' ((conv=>whnf);first|refine vA ?_|(refine vF ?_ ?_<;>intro hc<;>try simp only [vL] at hc)|refine vJ fun hg=>?_|refine vT ?_|refine vN ‹_› ?_|((first|refine vO ?_ ?_|refine vP ?_ ?_);·first|omega|(simp only [vM] at *;omega))|(refine vU ?_ ?_;·kernel_rfl)|refine yD cA ⟨⟨rfl,rfl⟩,⟨rfl,rfl⟩,rfl⟩ rfl ?_));all_goals try conv=>whnf
  ·exact absurd ‹d[k]! = d[k - 1]!› (hd k hk0 hkl)
  ·refine ⟨_,[(0,0)],[],?_,?_,by (refine ⟨rfl,rfl,rfl,?_,?_⟩;repeat' first|exact trivial|exact rfl|refine And.intro ?_ ?_|refine ⟨_,rfl,?_⟩|decide)⟩
   ·exact ⟨k+1,by omega,by omega,by omega⟩
   ·(omega)
  ·exfalso;omega
 ·(repeat' ((conv=>whnf);first|refine vA ?_|(refine vF ?_ ?_<;>intro hc<;>try simp only [vL] at hc)|refine vJ fun hg=>?_|refine vT ?_|(refine vQ ?_ fun x hx=>?_;·omega)|((first|refine vO ?_ ?_|refine vP ?_ ?_);·omega)|fail));all_goals try conv=>whnf
  ·exfalso;omega
  ·refine ⟨trivial,_,[(1,0)],[],rfl,.inl (by (repeat' exact rfl)),⟨by rfl,by rfl,by rfl,trivial,by (repeat' first|exact trivial|exact rfl|refine And.intro ?_ ?_|refine ⟨_,rfl,?_⟩|exact of_decide_eq_true rfl)⟩,by (repeat' first|exact trivial|refine And.intro ?_ ?_)⟩
theorem zsk (d:Array Tup) (hm : ∀ x∈d.toList,Sml x) (hs:d.size≤1000) (hd : ¬Steps d):Fn Tryz.prog T zA [.own 0,.d fEq] [zgn d] (.own 1) [none,some (.row 1 ((ddA d d.size).map dII))]:=by
 generalize hR:(ddA d d.size).map dII=R
 have hln:d.toList.length=d.size:=Array.length_toList
 refine zat zx zap (by show 2≤66;decide) _ (fun e env mem n h=>h) ?_
 (repeat' ((conv=>whnf);first|refine vA ?_|(refine vF ?_ ?_<;>intro hc<;>try simp only [vL] at hc)|refine vJ fun hg=>?_|refine vT ?_));all_goals try conv=>whnf
 ·exact absurd (fun j hj0 hj1=>by omega) hd
 refine zq (fun (i:Int)=>[(0,.own 0),(1,.d fEq),(5,.d (.int .i64 (i))),(zc,.own 0)]) (fun (i:Int)=>[(0,some (zgn d))]) 1 (fun (i:Int) => ∃ k:Nat,i=k∧0 < k∧k≤d.size ∧ ∀ j,0 < j→j < k→d[j]! ≠ d[j - 1]!) (fun (i:Int)=>(d.size - i).toNat) (1) [(0,0)] [] (⟨1,rfl,by omega,by omega,fun j _ _=>by omega⟩) (by (refine ⟨rfl,rfl,rfl,?_,?_⟩;repeat' first|exact trivial|exact rfl|refine And.intro ?_ ?_|refine ⟨_,rfl,?_⟩|decide)) ?_
 rintro _ ⟨k,rfl,hk0,hk1,hk⟩
 by_cases hkl:k < d.size
 ·have hx1:d.toList[k]? = some d[k]! := zbN hkl
  have hx2:d.toList[((k:Int) - 1).toNat]? = some d[k - 1]! := by rw [show ((k:Int) - 1).toNat=k - 1 by omega];exact zbN (by omega)
  have cA:=zst (T:=T) d[k]! d[k - 1]! (hm _ (List.mem_of_getElem? hx1))
  (repeat' ((conv=>whnf);first|refine vA ?_|(refine vF ?_ ?_<;>intro hc<;>try simp only [vL] at hc)|refine vJ fun hg=>?_|refine vT ?_|refine vN ‹_› ?_|((first|refine vO ?_ ?_|refine vP ?_ ?_);·first|omega|(simp only [vM] at *;omega))|(refine vU ?_ ?_;·kernel_rfl)|refine yD cA ⟨⟨rfl,rfl⟩,⟨rfl,rfl⟩,rfl⟩ rfl ?_));all_goals try conv=>whnf
  ·have hkk:d[k]! = d[k - 1]! := ‹_›
   refine zq (fun ((w,q,xs):Int×Int×List D)=>[(0,.own 0),(1,.d fEq),(5,.d (.int .i64 (w))),(6,.view 0 k ((d.toList.map dII).length - k)),(7,.d (.int .i64 (q))),(zc,.own 0)]) (fun ((w,q,xs):Int×Int×List D)=>[(0,some (.row 1 xs))]) 1 (fun ((w,q,xs):Int×Int×List D) => ∃ (a b:Nat) (e:Array Tup),w=a∧q=b∧xs=e.toList.map dII∧0 < b∧k+b≤d.size∧a < k+b∧e.size=d.size∧e.toList.take a=ddA d (k+b) ∧ ∀ j,k+b - 1≤j→j < d.size→e[j]! = d[j]!) (fun ((w,q,xs):Int×Int×List D)=>(d.size - k - q).toNat) (((k:Int),(1:Int),d.toList.map dII)) [(0,0)] [] (⟨k,1,d,rfl,rfl,rfl,by omega,by omega,by omega,rfl,zr2 hk0 hkl hk hkk,fun _ _ _=>rfl⟩) (by (refine ⟨rfl,rfl,rfl,?_,?_⟩;repeat' first|exact trivial|exact rfl|refine And.intro ?_ ?_|refine ⟨_,rfl,?_⟩|decide)) ?_
   rintro ⟨_,_,_⟩ ⟨a,b,e,rfl,rfl,rfl,hb0,hb1,hab,he,ha,hj⟩
   have hle:e.toList.length=e.size:=Array.length_toList
   by_cases hbl:k+b < d.size
   ·have hy1:e.toList[k+((b:Nat):Int).toNat]? = some e[k+b]! := by rw [Int.toNat_natCast];exact zbN (by omega)
    have hy2:e.toList[k+(((b:Nat):Int) - 1).toNat]? = some e[k+b - 1]! := by rw [show k+(((b:Nat):Int) - 1).toNat=k+b - 1 by omega];exact zbN (by omega)
    have e1:=hj (k+b) (by omega) (by omega)
    have e2:=hj (k+b - 1) (by omega) (by omega)
    have cC:=zst (T:=T) e[k+b]! e[k+b - 1]! (by rw [e1];exact hm _ (List.mem_of_getElem? (zbN hbl)))
    (repeat' ((conv=>whnf);first|refine vA ?_|refine vE ?_|(refine vF ?_ ?_<;>intro hc<;>try simp only [vL] at hc)|refine vT ?_|refine vN ‹_› ?_|((first|refine vO ?_ ?_|refine vP ?_ ?_);·first|omega|(simp only [vM] at *;omega))|(refine vU ?_ ?_;·kernel_rfl)|refine yD cC ⟨⟨rfl,rfl⟩,⟨rfl,rfl⟩,rfl⟩ rfl ?_));all_goals try conv=>whnf
    ·refine ⟨(_,_,_),[(0,0)],[],?_,?_,by (refine ⟨rfl,rfl,rfl,?_,?_⟩;repeat' first|exact trivial|exact rfl|refine And.intro ?_ ?_|refine ⟨_,rfl,?_⟩|decide)⟩
     ·exact ⟨a,b+1,e,rfl,by omega,rfl,by omega,by omega,by omega,he,
       by rw [ha,← Nat.add_assoc,zuj (by omega) (by rw [← e1,← e2];assumption)],
       fun j h0 h1=>hj j (by omega) h1⟩
     ·((simp only [vM] at *;omega))
    ·refine ⟨(_,_,_),[(0,0)],[],?_,?_,by (refine ⟨rfl,rfl,rfl,?_,?_⟩;repeat' first|exact trivial|exact rfl|refine And.intro ?_ ?_|refine ⟨_,rfl,?_⟩|decide)⟩
     ·exact ⟨a+1,b+1,e.setIfInBounds a e[k+b]!,by omega,by omega,by simp [List.map_set],by omega,by omega,by omega,by simp [he],
       by rw [ztm (by omega),ha,← Nat.add_assoc,zwa (by rw [← e1,← e2];assumption),e1],
       fun j h0 h1=>by rw [zuG (by omega)];exact hj j (by omega) h1⟩
     ·((simp only [vM] at *;omega))
    ·exfalso;omega
   ·(repeat' ((conv=>whnf);first|refine vA ?_|(refine vF ?_ ?_<;>intro hc<;>try simp only [vL] at hc)|refine vT ?_|(refine vQ ?_ fun x hx=>?_;·omega)|((first|refine vO ?_ ?_|refine vP ?_ ?_);·first|omega|(simp only [vM] at *;omega))|fail));all_goals try conv=>whnf
    ·exfalso;omega
    ·have hE:=zuh (enc:=dII) (e:=e) (z:=D.arr 1 []) (a:=a) (n:=(e.toList.map dII).length - a) (by omega)
     rw [ha,show k+b=d.size by omega,hR] at hE
     subst hE
     refine zoo.mk (by simp only [List.length_append,List.length_take,List.length_replicate,List.length_drop,List.length_map,hle];omega) ?_
     (repeat' ((conv=>whnf);refine vT ?_));all_goals try conv=>whnf
     refine ⟨trivial,_,[(1,1)],[],rfl,.inl (by (repeat' exact rfl)),⟨by rfl,by rfl,by rfl,trivial,by (repeat' first|exact trivial|exact rfl|refine And.intro ?_ ?_|refine ⟨_,rfl,?_⟩|exact of_decide_eq_true rfl)⟩,by (repeat' first|exact trivial|refine And.intro ?_ ?_)⟩
  ·refine ⟨_,[(0,0)],[],?_,?_,by (refine ⟨rfl,rfl,rfl,?_,?_⟩;repeat' first|exact trivial|exact rfl|refine And.intro ?_ ?_|refine ⟨_,rfl,?_⟩|decide)⟩
   ·exact ⟨k+1,by omega,by omega,by omega,fun j h0 h1=>by
     by_cases hjk:j=k
     ·subst hjk;assumption
     ·exact hk j h0 (by omega)⟩
   ·(omega)
  ·exfalso;omega
 ·(repeat' ((conv=>whnf);first|refine vA ?_|(refine vF ?_ ?_<;>intro hc<;>try simp only [vL] at hc)|refine vJ fun hg=>?_|refine vT ?_|(refine vQ ?_ fun x hx=>?_;·omega)|((first|refine vO ?_ ?_|refine vP ?_ ?_);·omega)|fail));all_goals try conv=>whnf
  ·exfalso;omega
  ·exact absurd (fun j h0 h1=>hk j h0 (by omega)) hd
theorem zyb (d:Array Tup) (hm : ∀ x∈d.toList,Sml x) (hs:d.size≤1000):Fn Tryz.prog T zA [.own 0,.d fEq] [zgn d] (.own 1) [none,some (.row 1 ((ddA d d.size).map dII))]:=by
 by_cases hd:Steps d
 ·have:=ztH (T:=T) d hm hs hd
  rw [zmr (Nat.le_refl _) hd,List.take_of_length_le (by rw [Array.length_toList];exact Nat.le_refl _)]
  exact this
 ·exact zsk d hm hs hd
theorem zwi (ts:List Tup) (h:ts≠[]) (hl:ts.length≤1000):Fn Tryz.prog T z8 [.d (.arr 1 (ts.map dII))] [] (.own 0) [some (.row 1 (ts.map dII))]:=by
 refine zat zx zcl (by show 1≤8;decide) _ (fun e env mem n h=>h) ?_
 (repeat' ((conv=>whnf);first|refine vA ?_|refine vB fun b hb=>?_|refine vE ?_|(refine vF ?_ ?_<;>intro hc)|refine vT ?_|(refine vP ?_ ?_;·(simp only [vM] at *;omega))|fail));all_goals try conv=>whnf
 ·refine ⟨trivial,_,[(0,1)],[],rfl,.inl (by (repeat' exact rfl)),⟨by rfl,by rfl,by rfl,trivial,by (repeat' first|exact trivial|exact rfl|refine And.intro ?_ ?_|refine ⟨_,rfl,?_⟩|exact of_decide_eq_true rfl)⟩,by (repeat' exact trivial)⟩
 ·exact absurd (List.map_eq_nil_iff.1 (hb (by simpa using hc))) h
theorem zAU (S:List Tup) (ts:List Tup) (hS:zco ts S) (hl:S.length≤1000) (hm : ∀ x∈S,Sml x) (t:Tup) :
  ∃ b:Bool,Fn Tryz.prog T zV [.d (.arr 1 (S.map dII)),.d (dII t),.d (.fn zN [])] [] (.d (.tup [.int .i64 (rkN ts t:Int),.bool b])) []:=by
 have key : ∀ i:Nat,i≤S.length→(∀ (k:Nat) x,k < i→S[k]? = some x→zaX x t < 0)→(∀ (k:Nat) x,i≤k→S[k]? = some x → ¬zaX x t < 0)→i=rkN ts t:=fun i h1 h2 h3=>hS.rk h1 h2 h3
 refine ⟨decide (rkN ts t < S.length∧zaX (S.getD (rkN ts t) []) t=0),?_⟩
 refine zg zx zaJ (by show 3≤49;decide) ?_
 (repeat' ((conv=>whnf);first|refine vA ?_|refine vJ fun hg=>?_|refine vT ?_));all_goals try conv=>whnf
 refine zah (fun ((i,j):Nat×Nat)=>[(0,.d (.arr 1 (S.map dII))),(1,.d (dII t)),(2,.d (.fn zN [])),(8,.d (.int .i64 ((S.map dII).length:Int))),(9,.d (.int .i64 ((i:Int)))),(10,.d (.int .i64 ((j:Int))))]) (fun ((i,j):Nat×Nat)=>i≤j∧j≤S.length∧(∀ (k:Nat) x,k < i→S[k]? = some x→zaX x t < 0)∧(∀ (k:Nat) x,j≤k→S[k]? = some x → ¬zaX x t < 0)) (fun ((i,j):Nat×Nat)=>j - i) ((0,(S.map dII).length)) (⟨by omega,by simp,fun k x hk=>by omega,fun k x hk hx=>by have:=(List.getElem?_eq_some_iff.1 hx).1;simp at hk;omega⟩) (by (repeat' first|exact trivial|exact rfl|refine And.intro ?_ ?_)) ?_
 rintro ⟨i,j⟩ ⟨hij,hj,h1,h2⟩
 by_cases hlt:i < j
 ·have hh:(i+j) / 2 < S.length:=by omega
  have e2:(BitVec.ofInt 64 ((i:Int)+(j:Int)) >>> BitVec.toNat (1:BitVec 64)).toNat=(i+j) / 2:=by
   rw [BitVec.toNat_ushiftRight,show BitVec.toNat (1:BitVec 64)=1 from rfl,show ((i:Int)+(j:Int))=((i+j:Nat):Int) by omega,zwR (by omega),Nat.shiftRight_eq_div_pow,Nat.pow_one]
  have hx:S[(BitVec.ofInt 64 ((i:Int)+(j:Int)) >>> BitVec.toNat (1:BitVec 64)).toNat]? = some (S.getD ((i+j) / 2) []):=by rw [e2];exact zfl hh
  have hx':=zfl (d:=[]) hh
  have cA:=zhP (T:=T) (S.getD ((i+j) / 2) []) t (hm _ (List.mem_of_getElem? hx))
  (repeat' ((conv=>whnf);first|refine vA ?_|(refine vF ?_ ?_<;>intro hc<;>try simp only [vL] at hc)|refine vT ?_|refine vN ‹_› ?_|(refine vQ ?_ fun x hx=>?_;·omega)|(refine vO ?_ ?_;·omega)|refine yD cA ⟨⟨rfl,rfl⟩,⟨rfl,rfl⟩,rfl⟩ rfl ?_));all_goals try conv=>whnf
  ·refine ⟨((BitVec.ofInt 64 ((i:Int)+(j:Int)) >>> BitVec.toNat (1:BitVec 64)).toNat+1,j),[],[],?_,?_,by (refine ⟨rfl,rfl,rfl,?_,?_⟩;repeat' first|exact trivial|exact rfl|refine And.intro ?_ ?_)⟩
   ·rw [e2]
    refine ⟨by omega,hj,fun k x hk hxk=>?_,h2⟩
    by_cases e:k=(i+j) / 2
    ·subst e;rw [hx'] at hxk;cases hxk;assumption
    ·by_cases e':k < (i+j) / 2
     ·exact hS.lt_of hx' hxk (by omega) ‹_›
     ·exfalso;omega
   ·((simp only [vM] at *;omega))
  ·refine ⟨(i,(BitVec.ofInt 64 ((i:Int)+(j:Int)) >>> BitVec.toNat (1:BitVec 64)).toNat),[],[],?_,?_,by (refine ⟨rfl,rfl,rfl,?_,?_⟩;repeat' first|exact trivial|exact rfl|refine And.intro ?_ ?_)⟩
   ·rw [e2]
    refine ⟨by omega,by omega,h1,fun k x hk hxk hlk=>?_⟩
    have:=hS.lt_of hxk hx' hk hlk
    omega
   ·((simp only [vM] at *;omega))
  iterate 2 (exfalso;omega)
 ·have e0:j=i:=by omega
  subst e0
  have ek:=key j hj h1 h2
  by_cases hjl:j < S.length
  ·have hx:=zfl (d:=[]) hjl
   have cA:=zhP (T:=T) (S.getD j []) t (hm _ (List.mem_of_getElem? hx))
   (repeat' ((conv=>whnf);first|refine vA ?_|(refine vF ?_ ?_<;>intro hc<;>try simp only [vL] at hc)|refine vT ?_|refine vN ‹_› ?_|(refine vQ ?_ fun x hx=>?_;·omega)|(refine vO ?_ ?_;·omega)|refine yD cA ⟨⟨rfl,rfl⟩,⟨rfl,rfl⟩,rfl⟩ rfl ?_));all_goals try conv=>whnf
   ·exfalso;omega
   ·show some (D.tup [.int .i64 (j:Int),.bool (decide (zaX (S.getD j []) t=0))])=_
    rw [← ek];simp [hjl]
   ·exfalso;omega
  ·(repeat' ((conv=>whnf);first|refine vA ?_|(refine vF ?_ ?_<;>intro hc<;>try simp only [vL] at hc)|refine vT ?_|(refine vQ ?_ fun x hx=>?_;·omega)|(refine vO ?_ ?_;·omega)|fail));all_goals try conv=>whnf
   iterate 2 (exfalso;omega)
   show some (D.tup [.int .i64 (j:Int),.bool false])=_
   rw [← ek];simp [hjl]
theorem zwo (ts:List Tup) (h0:ts≠[]) (h12:ts.length≤12) (hm : ∀ x∈ts,Sml x):Fn Tryz.prog T ze5 [.d (.arr 1 (ts.map dII))] [] (.d (.tup [dN (ts.map (rkN ts)),.int .i64 (cnN ts:Int)])) []:=by
 have c1:=zwi (T:=T) ts h0 (by omega)
 have c2:=zsq (T:=T) ts.toArray hm (by simpa using h12)
 have hS:=zvM (ts:=ts) rfl
 have hp:=zq3 ts.toArray
 have hms : ∀ x∈(Sort.sort ltT ts.toArray).toList,Sml x:=fun x hx=>hm x (hp.mem_iff.1 hx)
 have hsz:(Sort.sort ltT ts.toArray).size=ts.length:=by have:=hp.length_eq;simpa using this
 generalize Sort.sort ltT ts.toArray=A at c2 hS hp hms hsz
 have hmd : ∀ x∈ddA A A.size,Sml x:=fun x hx=>hm x ((hS.mem x).1 hx)
 have hcn:=hS.cnt
 have hle:=hS.le
 have cb:=fun t=>zAU (T:=T) (ddA A A.size) ts hS (by omega) hmd t
 have c3:=zyb (T:=T) A hms (by omega)
 generalize ddA A A.size=S at hS hmd hcn hle cb c3
 refine zg zx zn0 (by show 1≤37;decide) ?_
 (repeat' ((conv=>whnf);refine vT ?_));all_goals try conv=>whnf
 refine zaa.res (c1) (by (repeat refine ⟨⟨rfl,rfl⟩,?_⟩);rfl) ?_
 (repeat' ((conv=>whnf);refine vT ?_));all_goals try conv=>whnf
 refine zaa.objs [0] (c2) (by (repeat' first|exact rfl|refine And.intro ?_ ?_|refine ⟨_,rfl,?_⟩)) (by (repeat' first|exact rfl|refine And.intro ?_ ?_)) (by rfl) (by rfl) (by simp) ?_
 (repeat' ((conv=>whnf);refine vT ?_));all_goals try conv=>whnf
 refine zaa.objs [0] (c3) (by (repeat' first|exact rfl|refine And.intro ?_ ?_|refine ⟨_,rfl,?_⟩)) (by (repeat' first|exact rfl|refine And.intro ?_ ?_)) (by rfl) (by rfl) (by simp) ?_
 (repeat' ((conv=>whnf);first|refine vA ?_|refine vJ fun hg=>?_|refine vT ?_|(refine vP ?_ ?_;·(simp only [vM] at *;omega))|fail));all_goals try conv=>whnf
 refine zq (fun ((k,zs):Nat×List D)=>[(4,.own 0),(5,.own 1),(17,.d (.arr 1 (ts.map dII))),(18,.d (.int .i64 ((ts.map dII).length:Int))),(19,.d (.int .i64 ((k:Int))))]) (fun ((k,zs):Nat×List D)=>[(0,some (.row 1 (S.map dII))),(1,some (.row 1 zs))]) 2 (fun ((k,zs):Nat×List D)=>k≤ts.length∧zs=(List.range ts.length).map fun i=>D.int .i64 (if i < k then (rkN ts (ts.getD i []):Int) else 0)) (fun ((k,zs):Nat×List D)=>ts.length - k) ((0,List.replicate (((ts.map dII).length:Int)).toNat (D.int .i64 0))) [(0,1),(1,2)] [] (⟨by omega,by simp only [Nat.not_lt_zero,if_false];rw [List.length_map,Int.toNat_natCast];exact zad _ _⟩) (by (refine ⟨rfl,rfl,rfl,?_,?_⟩;repeat' first|exact trivial|exact rfl|refine And.intro ?_ ?_|refine ⟨_,rfl,?_⟩|decide)) ?_
 rintro ⟨k,zs⟩ ⟨hk,hz⟩
 have hzl:zs.length=ts.length:=by rw [hz];simp
 by_cases hkl:k < ts.length
 ·have hx:=zfl (d:=[]) hkl
  obtain ⟨b,cbk⟩:=cb (ts.getD k [])
  (repeat' ((conv=>whnf);first|refine vA ?_|(refine vF ?_ ?_<;>intro hc<;>try simp only [vL] at hc)|refine vJ fun hg=>?_|refine vT ?_|refine vN ‹_› ?_|((first|refine vO ?_ ?_|refine vP ?_ ?_);·omega)|refine yD cbk (by (repeat refine ⟨⟨rfl,rfl⟩,?_⟩);rfl) rfl ?_));all_goals try conv=>whnf
  ·refine ⟨(k+1,_),[(0,0),(1,1)],[],?_,?_,by (refine ⟨rfl,rfl,rfl,?_,?_⟩;repeat' first|exact trivial|exact rfl|refine And.intro ?_ ?_|refine ⟨_,rfl,?_⟩|decide)⟩
   ·refine ⟨by omega,?_⟩
    rw [hz]
    refine (zdj _).trans (zD fun u hu=>?_)
    show (if u=k then _ else _)=_
    by_cases e:u=k
    ·subst e;rw [if_pos rfl,if_pos (by omega)]
    ·rw [if_neg e]
     by_cases e2:u < k
     ·rw [if_pos e2,if_pos (by omega)]
     ·rw [if_neg e2,if_neg (by omega)]
   ·((simp only [vM] at *;omega))
  ·exfalso;omega
 ·(repeat' ((conv=>whnf);first|refine vA ?_|(refine vF ?_ ?_<;>intro hc<;>try simp only [vL] at hc)|refine vJ fun hg=>?_|refine vT ?_|(refine vQ ?_ fun x hx=>?_;·omega)|fail));all_goals try conv=>whnf
  ·exfalso;omega
  ·have e0:k=ts.length:=by omega
   subst e0
   have hzz:zs=(ts.map (rkN ts)).map fun (x:Nat)=>D.int .i64 (x:Int):=by
    rw [hz]
    refine zdH (d := .nil) (by simp) fun i hi=>?_
    rw [List.length_map,List.length_range] at hi
    simp [List.getD,hi]
   refine congrArg some (show D.tup [.arr 1 zs,.int .i64 ((S.map dII).length:Int)]=_ from ?_)
   rw [hzz,List.length_map,hcn]
   simp [Function.comp_def]
end Go.Ab
namespace Go.Ab
open Go Go.Proofs
set_option maxRecDepth 10000
set_option maxHeartbeats 4000000
variable {T:Nat→Obj→Prop}
def ltI (x y:Int):Bool:=decide (x < y)
abbrev zbK (d:Array (Int)):Ob := .row 1 (d.toList.map (D.int .i64))
theorem ztI (x y:Int):Fn Tryz.prog T zij [.d (.int .i64 x),.d (.int .i64 y)] [] (.d (.bool (ltI x y))) []:=by
 have hn : ∀ z:Int,Fn Tryz.prog T ze4 [.d (.int .i64 z)] [] (.d (.bool false)) []:=fun z=>by
  refine zg zx zhS (by show 1≤6;decide) ?_
  (repeat' ((conv=>whnf);first|refine vT ?_|refine vZ ?_));all_goals try conv=>whnf
  simp
 refine zg zx zo9 (by show 2≤17;decide) ?_
 (repeat' ((conv=>whnf);first|refine vA ?_|refine vH ?_|refine vT ?_|refine vZ ?_|refine yD (hn _) (by (repeat refine ⟨⟨rfl,rfl⟩,?_⟩);rfl) rfl ?_));all_goals try conv=>whnf
 rfl
theorem zvj (d:Array (Int)) (a b:Nat) (hb:b≤d.size) (hs:d.size≤1073741824) (ha:a≤b) :
  Fn Tryz.prog T zaP [.own 0,.d (.int .i64 (a:Int)),.d (.int .i64 (b:Int))] [zbK d] (.tup []) [some (zbK (Sort.insertionSort ltI d a b))]:=by
 refine zat zx zeO (by show 3≤49;decide) _ (fun e env mem n h=>h) ?_
 (repeat' ((conv=>whnf);first|refine vT ?_|(refine vO ?_ ?_;·omega)|fail));all_goals try conv=>whnf
 refine zq (fun ((ii,xs):Int×List D)=>[(0,.own 0),(1,.d (.int .i64 ((a:Int)))),(2,.d (.int .i64 ((b:Int)))),(6,.d (.int .i64 (ii))),(zc,.own 0)]) (fun ((ii,xs):Int×List D)=>[(0,some (.row 1 xs))]) 1 (fun ((ii,xs):Int×List D) => ∃ (i:Nat) (e:Array (Int)),ii=i∧xs=e.toList.map (D.int .i64)∧a < i∧i≤b+1∧e.size=d.size∧Sort.insOuter ltI a b i e=Sort.insertionSort ltI d a b) (fun ((ii,xs):Int×List D)=>(b - ii).toNat) (((a:Int)+1,d.toList.map (D.int .i64))) [(0,0)] [] (⟨a+1,d,by omega,rfl,by omega,by omega,rfl,rfl⟩) (by (refine ⟨rfl,rfl,rfl,?_,?_⟩;repeat' first|exact trivial|exact rfl|refine And.intro ?_ ?_|refine ⟨_,rfl,?_⟩|decide)) ?_
 rintro ⟨_,_⟩ ⟨i,e,rfl,rfl,hi,hi2,he,hI⟩
 (repeat' ((conv=>whnf);first|refine vA ?_|(refine vF ?_ ?_<;>intro hc<;>try simp only [vL] at hc)|refine vT ?_));all_goals try conv=>whnf
 ·refine zq (fun ((jj,xs):Int×List D)=>[(0,.own 0),(1,.d (.int .i64 ((a:Int)))),(2,.d (.int .i64 ((b:Int)))),(6,.d (.int .i64 ((i:Int)))),(7,.d (.int .i64 (jj))),(zc,.own 0)]) (fun ((jj,xs):Int×List D)=>[(0,some (.row 1 xs))]) 1 (fun ((jj,xs):Int×List D) => ∃ (j:Nat) (g:Array (Int)),jj=j∧xs=g.toList.map (D.int .i64)∧j≤i∧g.size=d.size∧Sort.insInner ltI a j g=Sort.insInner ltI a i e) (fun ((jj,xs):Int×List D)=>jj.toNat) (((i:Int),e.toList.map (D.int .i64))) [(0,0)] [] (⟨i,e,rfl,rfl,by omega,he,rfl⟩) (by (refine ⟨rfl,rfl,rfl,?_,?_⟩;repeat' first|exact trivial|exact rfl|refine And.intro ?_ ?_|refine ⟨_,rfl,?_⟩|decide)) ?_
  rintro ⟨_,_⟩ ⟨j,g,rfl,rfl,hj,hg,hJ⟩
  have hgl:g.toList.length=d.size:=by rw [Array.length_toList];exact hg
  have stop : ¬(a < j∧ltI g[j]! g[j - 1]! = true)→Sort.insOuter ltI a b (i+1) g=Sort.insertionSort ltI d a b:=fun h=>by
   rw [← hI,Sort.insOuter.eq_def ltI a b i,if_pos (by omega),← hJ,zkG h]
  (repeat' ((conv=>whnf);first|refine vA ?_|(refine vF ?_ ?_<;>intro hc<;>try simp only [vL] at hc)|refine vT ?_|refine vN ‹_› ?_|(refine vQ ?_ fun x hx=>?_;·omega)|((first|refine vO ?_ ?_|refine vP ?_ ?_);·first|omega|(simp only [vM] at *;omega))|(refine vU ?_ ?_;·kernel_rfl)|refine yD (ztI _ _) ⟨⟨rfl,rfl⟩,⟨rfl,rfl⟩,rfl⟩ rfl ?_));all_goals try conv=>whnf
  ·have e1:((j:Int) - 1).toNat=j - 1:=by omega
   have hx1:g.toList[j]? = some _:=‹g.toList[(j:Int).toNat]? = some _›
   have hx2:g.toList[j - 1]? = some x:=by rw [← e1];exact hx
   refine ⟨(_,_),[(0,0)],[],?_,?_,by (refine ⟨rfl,rfl,rfl,?_,?_⟩;repeat' first|exact trivial|exact rfl|refine And.intro ?_ ?_|refine ⟨_,rfl,?_⟩|decide)⟩
   ·refine ⟨j - 1,Sort.swp g j (j - 1),by omega,?_,by omega,by rw [ztp,hg],?_⟩
    ·rw [e1];exact zuN hx1 hx2
    ·exact (zkF (d:=g) (j:=j) (by omega) (by rw [(za2 hx1).1,(za2 hx2).1];exact decide_eq_true hc)).symm.trans hJ
   ·((simp only [vM] at *;omega))
  ·have e1:((j:Int) - 1).toNat=j - 1:=by omega
   have hx1:g.toList[j]? = some _:=‹g.toList[(j:Int).toNat]? = some _›
   have hx2:g.toList[j - 1]? = some x:=by rw [← e1];exact hx
   refine ⟨(_,_),[(0,0)],[],?_,?_,by (refine ⟨rfl,rfl,rfl,?_,?_⟩;repeat' first|exact trivial|exact rfl|refine And.intro ?_ ?_|refine ⟨_,rfl,?_⟩|decide)⟩
   ·exact ⟨i+1,g,by omega,rfl,by omega,by omega,hg,stop fun h=>by
     rw [(za2 hx1).1,(za2 hx2).1] at h
     have:=of_decide_eq_true h.2;omega⟩
   ·((simp only [vM] at *;omega))
  ·refine ⟨(_,_),[(0,0)],[],?_,?_,by (refine ⟨rfl,rfl,rfl,?_,?_⟩;repeat' first|exact trivial|exact rfl|refine And.intro ?_ ?_|refine ⟨_,rfl,?_⟩|decide)⟩
   ·exact ⟨i+1,g,by omega,rfl,by omega,by omega,hg,stop fun h=>by omega⟩
   ·((simp only [vM] at *;omega))
 ·have e0:Sort.insertionSort ltI d a b=e:=by
   rw [← hI,Sort.insOuter,if_neg (by omega)]
  rw [e0]
  refine ⟨trivial,_,[(0,0)],[],rfl,.inl (by (repeat' first|exact rfl|refine ⟨_,rfl,?_⟩)),⟨by rfl,by rfl,by rfl,trivial,by (repeat' first|exact trivial|exact rfl|refine And.intro ?_ ?_|refine ⟨_,rfl,?_⟩|exact of_decide_eq_true rfl)⟩,by (repeat' first|exact trivial|exact rfl|refine And.intro ?_ ?_)⟩
theorem ztN (d:Array Int) {a b:Nat} {ai bi:Int} (ea:ai=a) (eb:bi=b) (hb:b≤d.size) (hs:d.size≤1073741824) (ha:a≤b) :
  Fn Tryz.prog T zaP [.own 0,.d (.int .i64 ai),.d (.int .i64 bi)] [zbK d] (.tup []) [some (zbK (Sort.insertionSort ltI d a b))]:=by
 subst ea;subst eb;exact zvj d a b hb hs ha
theorem zvm (d:Array Int) {b l:Nat} {bi li:Int} (eb:bi=b) (el:li=l) (h12:b≤12) (hb:b≤d.size) (hs:d.size≤536870912) :
  Fn Tryz.prog T zc9 [.own 0,.d (.int .i64 0),.d (.int .i64 bi),.d (.int .i64 li)] [zbK d] (.tup []) [some (zbK (Sort.pdq ltI d 0 b l true true))]:=by
 subst eb;subst el
 have hR:Sort.pdq ltI d 0 b l true true=Sort.insertionSort ltI d 0 b:=by rw [Sort.pdq,if_pos (by omega)]
 rw [hR]
 refine zat zx zgd (by show 4≤134;decide) _ (fun e env mem n h=>h) ?_
 (repeat' ((conv=>whnf);refine vT ?_));all_goals try conv=>whnf
 refine zq (fun (u:Unit)=>[(0,.own 0),(1,.d (.int .i64 (0))),(2,.d (.int .i64 ((b:Int)))),(3,.d (.int .i64 ((l:Int)))),(8,.d (.bool (true))),(9,.d (.bool (true))),(zc,.own 0)]) (fun (u:Unit)=>[(0,some (zbK d))]) 1 (fun (u:Unit)=>True) (fun (u:Unit)=>0) (()) [(0,0)] [] (trivial) (by (refine ⟨rfl,rfl,rfl,?_,?_⟩;repeat' first|exact trivial|exact rfl|exact .inr (.inl ⟨rfl,rfl⟩)|refine And.intro ?_ ?_|refine ⟨_,rfl,?_⟩|decide)) ?_
 rintro u -
 (repeat' ((conv=>whnf);first|refine zhA.but 35 rfl ?_|(refine vF ?_ ?_<;>intro hc<;>try simp only [vL] at hc)|refine vT ?_|(refine vO ?_ ?_;·omega)|fail));all_goals try conv=>whnf
 ·refine zaa.objs [0] (ztN d (a:=0) (b:=b) rfl rfl (by omega) (by omega) (by omega)) (by (repeat' first|exact rfl|refine And.intro ?_ ?_|refine ⟨_,rfl,?_⟩)) (by (repeat' first|exact rfl|refine And.intro ?_ ?_)) (by rfl) (by rfl) (by simp) ?_
  (repeat' ((conv=>whnf);refine vT ?_));all_goals try conv=>whnf
  refine ⟨trivial,_,[(0,0)],[],rfl,.inl (by (repeat' first|exact rfl|refine ⟨_,rfl,?_⟩)),⟨by rfl,by rfl,by rfl,trivial,by (repeat' first|exact trivial|exact rfl|refine And.intro ?_ ?_|refine ⟨_,rfl,?_⟩|exact of_decide_eq_true rfl)⟩,by (repeat' first|exact trivial|exact rfl|refine And.intro ?_ ?_)⟩
 all_goals (exfalso;omega)
set_option maxHeartbeats 1000000 in
theorem znh (d:Array Int) (hs:d.size≤12):Fn Tryz.prog T zeF [.own 0] [zbK d] (.tup []) [some (zbK (Sort.sort ltI d))]:=by
 have hn:((BitVec.ofInt 64 (d.size:Int)).toNat)=d.size:=by simp;omega
 refine zat zx zib (by show 1≤11;decide) _ (fun e env mem n h=>h) ?_
 (repeat' ((conv=>whnf);first|refine vJ fun hg=>?_|refine vT ?_|refine yD (zso _) ⟨⟨rfl,rfl⟩,rfl⟩ rfl ?_));all_goals try conv=>whnf
 refine zaa.objs [0] (zvm d (b:=d.size) (l:=Sort.bitsLen d.size) (bi:=((d.toList.map (D.int .i64)).length:Int)) (li:=((Sort.bitsLen (BitVec.ofInt 64 ((d.toList.map (D.int .i64)).length:Int)).toNat:Nat):Int)) (by simp) (by rw [List.length_map,Array.length_toList,hn]) hs (Nat.le_refl _) (by omega)) (by (repeat' first|exact rfl|refine And.intro ?_ ?_|refine ⟨_,rfl,?_⟩)) (by (repeat' first|exact rfl|refine And.intro ?_ ?_)) (by rfl) (by rfl) (by simp) ?_
 (repeat' ((conv=>whnf);refine vT ?_));all_goals try conv=>whnf
 refine ⟨trivial,_,[(0,0)],[],rfl,.inl (by (repeat' first|exact rfl|refine ⟨_,rfl,?_⟩)),⟨by rfl,by rfl,by rfl,trivial,by (repeat' first|exact trivial|exact rfl|refine And.intro ?_ ?_|refine ⟨_,rfl,?_⟩|exact of_decide_eq_true rfl)⟩,by (repeat' first|exact trivial|exact rfl|refine And.intro ?_ ?_)⟩
set_option maxHeartbeats 1000000 in
theorem zlx (d:Array Int) (hs:d.size≤536870912) (hd : ¬Steps d):Fn Tryz.prog T zaY [.own 0] [zbK d] (.own 1) [none,some (.row 1 ((ddA d d.size).map (D.int .i64)))]:=by
 generalize hR:(ddA d d.size).map (D.int .i64)=R
 have hln:d.toList.length=d.size:=Array.length_toList
 refine zat zx zdF (by show 1≤61;decide) _ (fun e env mem n h=>h) ?_
 (repeat' ((conv=>whnf);first|refine vA ?_|(refine vF ?_ ?_<;>intro hc<;>try simp only [vL] at hc)|refine vJ fun hg=>?_|refine vT ?_));all_goals try conv=>whnf
 ·exact absurd (fun j hj0 hj1=>by omega) hd
 refine zq (fun (i:Int)=>[(0,.own 0),(3,.d (.int .i64 (i))),(zc,.own 0)]) (fun (i:Int)=>[(0,some (zbK d))]) 1 (fun (i:Int) => ∃ k:Nat,i=k∧0 < k∧k≤d.size ∧ ∀ j,0 < j→j < k→d[j]! ≠ d[j - 1]!) (fun (i:Int)=>(d.size - i).toNat) (1) [(0,0)] [] (⟨1,rfl,by omega,by omega,fun j _ _=>by omega⟩) (by (refine ⟨rfl,rfl,rfl,?_,?_⟩;repeat' first|exact trivial|exact rfl|refine And.intro ?_ ?_|refine ⟨_,rfl,?_⟩|decide)) ?_
 rintro _ ⟨k,rfl,hk0,hk1,hk⟩
 (repeat' ((conv=>whnf);first|refine vA ?_|(refine vF ?_ ?_<;>intro hc<;>try simp only [vL] at hc)|refine vJ fun hg=>?_|refine vT ?_|(refine vQ ?_ fun x hx=>?_;·omega)|((first|refine vO ?_ ?_|refine vP ?_ ?_);·first|omega|(simp only [vM] at *;omega))|(refine vU ?_ ?_;·kernel_rfl)|fail));all_goals try conv=>whnf
 ·have g1:=za2 (zgF k ‹d.toList[(k:Int).toNat]? = some _› rfl)
  have g2:=za2 (zgF (k - 1) ‹d.toList[((k:Int) - 1).toNat]? = some _› (by omega))
  have hkk:d[k]! = d[k - 1]! := g1.1.trans (‹_=_›.trans g2.1.symm)
  refine zq (fun ((w,q,xs):Int×Int×List D)=>[(0,.own 0),(3,.d (.int .i64 (w))),(4,.view 0 k ((d.toList.map (D.int .i64)).length - k)),(5,.d (.int .i64 (q))),(zc,.own 0)]) (fun ((w,q,xs):Int×Int×List D)=>[(0,some (.row 1 xs))]) 1 (fun ((w,q,xs):Int×Int×List D) => ∃ (a b:Nat) (e:Array Int),w=a∧q=b∧xs=e.toList.map (D.int .i64)∧0 < b∧k+b≤d.size∧a < k+b∧e.size=d.size∧e.toList.take a=ddA d (k+b) ∧ ∀ j,k+b - 1≤j→j < d.size→e[j]! = d[j]!) (fun ((w,q,xs):Int×Int×List D)=>(d.size - k - q).toNat) (((k:Int),(1:Int),d.toList.map (D.int .i64))) [(0,0)] [] (⟨k,1,d,rfl,rfl,rfl,by omega,by omega,by omega,rfl,zr2 hk0 g1.2 hk hkk,fun _ _ _=>rfl⟩) (by (refine ⟨rfl,rfl,rfl,?_,?_⟩;repeat' first|exact trivial|exact rfl|refine And.intro ?_ ?_|refine ⟨_,rfl,?_⟩|decide)) ?_
  rintro ⟨_,_,_⟩ ⟨a,b,e,rfl,rfl,rfl,hb0,hb1,hab,he,ha,hj⟩
  have hle:e.toList.length=e.size:=Array.length_toList
  (repeat' ((conv=>whnf);first|refine vA ?_|((first|refine vD ?_ ?_|refine vF ?_ ?_)<;>intro hc<;>try simp only [vL] at hc)|refine vT ?_|refine vN ‹_› ?_|(refine vQ ?_ fun x hx=>?_;·omega)|((first|refine vO ?_ ?_|refine vP ?_ ?_);·first|omega|(simp only [vM] at *;omega))|(refine vU ?_ ?_;·kernel_rfl)|fail));all_goals try conv=>whnf
  ·have h1:=za2 ‹e.toList[k+((b:Nat):Int).toNat]? = some _›
   have h2:=za2 (zgF (i:=((k+b - 1:Nat):Int)) (k+b - 1) (by rw [← ‹e.toList[k+(((b:Nat):Int) - 1).toNat]? = some _›];congr 1;omega) rfl)
   simp only [Int.toNat_natCast] at h1
   have e1:=hj (k+b) (by omega) (by omega)
   have e2:=hj (k+b - 1) (by omega) (by omega)
   refine ⟨(_,_,_),[(0,0)],[],?_,?_,by (refine ⟨rfl,rfl,rfl,?_,?_⟩;repeat' first|exact trivial|exact rfl|refine And.intro ?_ ?_|refine ⟨_,rfl,?_⟩|decide)⟩
   ·exact ⟨a+1,b+1,e.setIfInBounds a e[k+b]!,by omega,by omega,by rw [h1.1];simp [List.map_set],by omega,by omega,by omega,by simp [he],
     by rw [ztm (by omega),ha,← Nat.add_assoc,zwa (by rw [← e1,← e2,h1.1,h2.1];assumption),e1],
     fun j h0 h1=>by rw [zuG (by omega)];exact hj j (by omega) h1⟩
   ·((simp only [vM] at *;omega))
  ·have h1:=za2 ‹e.toList[k+((b:Nat):Int).toNat]? = some _›
   have h2:=za2 (zgF (i:=((k+b - 1:Nat):Int)) (k+b - 1) (by rw [← ‹e.toList[k+(((b:Nat):Int) - 1).toNat]? = some _›];congr 1;omega) rfl)
   simp only [Int.toNat_natCast] at h1
   have e1:=hj (k+b) (by omega) (by omega)
   have e2:=hj (k+b - 1) (by omega) (by omega)
   refine ⟨(_,_,_),[(0,0)],[],?_,?_,by (refine ⟨rfl,rfl,rfl,?_,?_⟩;repeat' first|exact trivial|exact rfl|refine And.intro ?_ ?_|refine ⟨_,rfl,?_⟩|decide)⟩
   ·exact ⟨a,b+1,e,rfl,by omega,rfl,by omega,by omega,by omega,he,
     by rw [ha,← Nat.add_assoc,zuj (by omega) (by rw [← e1,← e2,h1.1,h2.1];assumption)],
     fun j h0 h1=>hj j (by omega) h1⟩
   ·((simp only [vM] at *;omega))
  ·have hE:=zuh (enc:=(D.int .i64)) (e:=e) (z:=(D.int .i64 0)) (a:=a) (n:=(e.toList.map (D.int .i64)).length - a) (by omega)
   rw [ha,show k+b=d.size by omega,hR] at hE
   subst hE
   refine zoo.mk (by simp only [List.length_append,List.length_take,List.length_replicate,List.length_drop,List.length_map,hle];omega) ?_
   (repeat' ((conv=>whnf);refine vT ?_));all_goals try conv=>whnf
   refine ⟨trivial,_,[(1,1)],[],rfl,.inl (by (repeat' exact rfl)),⟨by rfl,by rfl,by rfl,trivial,by (repeat' first|exact trivial|exact rfl|refine And.intro ?_ ?_|refine ⟨_,rfl,?_⟩|exact of_decide_eq_true rfl)⟩,by (repeat' first|exact trivial|refine And.intro ?_ ?_)⟩
 ·refine ⟨_,[(0,0)],[],?_,?_,by (refine ⟨rfl,rfl,rfl,?_,?_⟩;repeat' first|exact trivial|exact rfl|refine And.intro ?_ ?_|refine ⟨_,rfl,?_⟩|decide)⟩
  ·exact ⟨k+1,by omega,by omega,by omega,fun j h0 h1=>by
    by_cases hjk:j=k
    ·subst hjk
     have g1:=za2 (zgF j ‹d.toList[(j:Int).toNat]? = some _› rfl)
     have g2:=za2 (zgF (j - 1) ‹d.toList[((j:Int) - 1).toNat]? = some _› (by omega))
     rw [g1.1,g2.1];assumption
    ·exact hk j h0 (by omega)⟩
  ·(omega)
 ·exact absurd (fun j h0 h1=>hk j h0 (by omega)) hd
end Go.Ab
namespace Go.Ab
open Go Go.Proofs
set_option maxRecDepth 10000
set_option maxHeartbeats 4000000
variable {T:Nat→Obj→Prop}
theorem zBL:Sort.SWO ltI:=⟨fun x=>by simp [ltI],fun x y z h1 h2=>by simp [ltI] at *;omega,fun x y z h1 h2=>by simp [ltI] at *;omega⟩
theorem zpw (l:List Int):(Sort.sort ltI l.toArray).toList=zbz l:=by
 obtain ⟨⟨h1,-,h2⟩,h3⟩:=Sort.sort_sorts ltI zBL l.toArray
 have e1:(Sort.sort ltI l.toArray).extract 0 l.toArray.size=Sort.sort ltI l.toArray:=by rw [← h1];simp
 have e2:l.toArray.extract 0 l.toArray.size=l.toArray:=by simp
 rw [e1,e2] at h2
 refine zA9 ?_ h2
 rw [List.pairwise_iff_getElem]
 intro i j hi hj hij
 rw [Array.length_toList] at hi hj
 have:=h3 i j (Nat.zero_le _) hij (by rw [← h1];exact hj)
 have a1:=(za2 (List.getElem?_eq_getElem (l:=(Sort.sort ltI l.toArray).toList) (by rw [Array.length_toList];exact hi))).1
 have a2:=(za2 (List.getElem?_eq_getElem (l:=(Sort.sort ltI l.toArray).toList) (by rw [Array.length_toList];exact hj))).1
 rw [a1,a2] at this
 have:=of_decide_eq_false this
 omega
theorem zsj (d:Array Int) (hs:d.size≤1000):Fn Tryz.prog T zaY [.own 0] [zbK d] (.own 1) [none,some (.row 1 ((ddA d d.size).map (D.int .i64)))]:=by
 by_cases hd:Steps d
 ·have hln:d.toList.length=d.size:=Array.length_toList
  have e0:ddA d d.size=d.toList:=by rw [zmr (Nat.le_refl _) hd,List.take_of_length_le (by omega)]
  rw [e0]
  refine zat zx zdF (by show 1≤61;decide) _ (fun e env mem n h=>h) ?_
  (repeat' ((conv=>whnf);first|refine vA ?_|(refine vF ?_ ?_<;>intro hc<;>try simp only [vL] at hc)|refine vJ fun hg=>?_|refine vT ?_));all_goals try conv=>whnf
  ·refine ⟨trivial,_,[(1,0)],[],rfl,.inl (by (repeat' exact rfl)),⟨by rfl,by rfl,by rfl,trivial,by (repeat' first|exact trivial|exact rfl|refine And.intro ?_ ?_|refine ⟨_,rfl,?_⟩|exact of_decide_eq_true rfl)⟩,by (repeat' first|exact trivial|refine And.intro ?_ ?_)⟩
  refine zq (fun (i:Int)=>[(0,.own 0),(3,.d (.int .i64 (i))),(zc,.own 0)]) (fun (i:Int)=>[(0,some (zbK d))]) 1 (fun (i:Int) => ∃ k:Nat,i=k∧0 < k∧k≤d.size) (fun (i:Int)=>(d.size - i).toNat) (1) [(0,0)] [] (⟨1,rfl,by omega,by omega⟩) (by (refine ⟨rfl,rfl,rfl,?_,?_⟩;repeat' first|exact trivial|exact rfl|refine And.intro ?_ ?_|refine ⟨_,rfl,?_⟩|decide)) ?_
  rintro _ ⟨k,rfl,hk0,hk1⟩
  (repeat' ((conv=>whnf);first|refine vA ?_|(refine vF ?_ ?_<;>intro hc<;>try simp only [vL] at hc)|refine vJ fun hg=>?_|refine vT ?_|(refine vQ ?_ fun x hx=>?_;·omega)|((first|refine vO ?_ ?_|refine vP ?_ ?_);·first|omega|(simp only [vM] at *;omega))|(refine vU ?_ ?_;·kernel_rfl)|fail));all_goals try conv=>whnf
  ·have g1:=za2 (zgF k ‹d.toList[(k:Int).toNat]? = some _› rfl)
   have g2:=za2 (zgF (k - 1) ‹d.toList[((k:Int) - 1).toNat]? = some _› (by omega))
   exact absurd (g1.1.trans (‹_=_›.trans g2.1.symm)) (hd k hk0 g1.2)
  ·refine ⟨_,[(0,0)],[],?_,?_,by (refine ⟨rfl,rfl,rfl,?_,?_⟩;repeat' first|exact trivial|exact rfl|refine And.intro ?_ ?_|refine ⟨_,rfl,?_⟩|decide)⟩
   ·exact ⟨k+1,by omega,by omega,by omega⟩
   ·(omega)
  ·refine ⟨trivial,_,[(1,0)],[],rfl,.inl (by (repeat' exact rfl)),⟨by rfl,by rfl,by rfl,trivial,by (repeat' first|exact trivial|exact rfl|refine And.intro ?_ ?_|refine ⟨_,rfl,?_⟩|exact of_decide_eq_true rfl)⟩,by (repeat' first|exact trivial|refine And.intro ?_ ?_)⟩
 ·exact zlx d (by omega) hd
theorem zwb (l:List Int):ddA (zbz l).toArray (zbz l).toArray.size=zfd l:=by
 have hs:=zeC l
 have hg : ∀ i,i < (zbz l).length→(zbz l)[i]? = some (zbz l).toArray[i]! := fun i hi=>by
  have:=zbN (d:=(zbz l).toArray) (i:=i) (by simpa using hi)
  simpa using this
 have hsz:(zbz l).toArray.size=(zbz l).length:=by simp
 have h1:(ddA (zbz l).toArray (zbz l).toArray.size).Pairwise fun x y=>ltI x y=true:=zjX (lt:=ltI) (fun i j hij hj=>by
   rw [hsz] at hj
   have a1:=hg i (by omega);have a2:=hg j hj
   obtain ⟨p1,q1⟩:=List.getElem?_eq_some_iff.1 a1
   obtain ⟨p2,q2⟩:=List.getElem?_eq_some_iff.1 a2
   have:=List.pairwise_iff_getElem.1 hs i j p1 p2 hij
   rw [q1,q2] at this
   unfold ltI
   rw [decide_eq_false_iff_not];omega) (fun x y h1 h2=>by simp [ltI] at h1 h2;omega) (Nat.le_refl _)
 have h1':(ddA (zbz l).toArray (zbz l).toArray.size).Pairwise (· < ·):=h1.imp fun h=>by simpa [ltI] using h
 have h2:(zfd l).Nodup:=(zca _).nodup_iff.2 (zcJ l)
 refine zdI (h1'.imp fun h=>Int.le_of_lt h) (zeC _) (zfS (h1'.imp fun h e=>by subst e;omega) h2 fun x=>?_)
 rw [zfi,zke]
 rw [← (zca l).mem_iff]
 constructor
 ·rintro ⟨i,hi,rfl⟩;rw [hsz] at hi;exact List.mem_of_getElem? (hg i hi)
 ·intro hx
  obtain ⟨i,hi⟩:=List.getElem?_of_mem hx
  have hl:=(List.getElem?_eq_some_iff.1 hi).1
  refine ⟨i,by rw [hsz];exact hl,?_⟩
  have:=hg i hl;rw [hi] at this;exact (Option.some.inj this).symm
theorem ztM (hT:za0 T) (s:BitVec 64):Fn Tryz.prog T zgJ [.d (.u64 s)] [] (.d (dN (zt s))) []:=by
 refine zg zx zlJ (by show 1≤16;decide) ?_
 (repeat' ((conv=>whnf);first|refine vA ?_|refine vT ?_));all_goals try conv=>whnf
 refine zq (fun ((r,zs):BitVec 64×List D)=>[(0,.d (.u64 (r))),(3,.own 0)]) (fun ((r,zs):BitVec 64×List D)=>[(0,some (.row 1 zs))]) 1 (fun ((r,zs):BitVec 64×List D) => ∃ l:List Nat,zs=l.map (fun (x:Nat)=>D.int .i64 (x:Int))∧zt s=l++zt r) (fun ((r,zs):BitVec 64×List D)=>(zt r).length) ((s,[])) []   [0] (⟨[],rfl,rfl⟩) (by (refine ⟨rfl,rfl,rfl,?_,?_⟩;repeat' first|exact trivial|exact rfl|exact ⟨_,rfl⟩|refine And.intro ?_ ?_|decide)) ?_
 rintro ⟨r,zs⟩ ⟨l,rfl,hI⟩
 by_cases hr:r=0#64
 ·subst hr
  (repeat' ((conv=>whnf);first|refine vA ?_|refine vH ?_|refine vT ?_));all_goals try conv=>whnf
  rw [hI,zdK,List.append_nil]
  show some (D.arr 1 _)=some (D.arr 1 _)
  rw [List.map_map];rfl
 ·have hb:=zdJ r hr
  have hl:=congrArg List.length hI
  have hlen:=zov s
  rw [List.length_append] at hl
  (repeat' ((conv=>whnf);first|refine vA ?_|(refine vD ?_ ?_<;>intro hc)|refine vT ?_|(refine vP ?_ ?_;·(simp only [vM] at *;omega))|refine yD (hT r) (by (repeat refine ⟨⟨rfl,rfl⟩,?_⟩);rfl) rfl ?_));all_goals try conv=>whnf
  ·refine ⟨(r&&&(r - 1#64),_),[(0,2)],[],?_,?_,by (refine ⟨rfl,rfl,rfl,?_,?_⟩;repeat' first|exact trivial|exact rfl|refine And.intro ?_ ?_|refine ⟨_,rfl,?_⟩|decide)⟩
   ·exact ⟨l++[Lib.ctz 64 r.toNat],by simp,by rw [hI,hb];simp⟩
   ·show (zt (r&&&(r - 1#64))).length < (zt r).length
    rw [hb];simp
  ·exact absurd ‹r=0› hr
def zcN (q:Nat→Nat) (s:BitVec 64):List Int:=(zt s).map fun v=>(q v:Int)
theorem zua {n:Nat} {s:BitVec 64} (hs : ∀ v,s.getLsbD v=true→v < n):(zt s).length≤n:=zuf hs
theorem zwp (hT:za0 T) (q:Nat→Nat) {n:Nat} (hn:n≤12) {s:BitVec 64} (hs : ∀ v,s.getLsbD v=true→v < n) :
  Fn Tryz.prog T zeL [.d (dI (ptL n q)),.d (.u64 s)] [] (.own 0) [some (.row 1 ((zbz (zcN q s)).map (D.int .i64)))]:=by
 have hbl:=zua hs
 have hvl:(zcN q s).length=(zt s).length:=by simp [zcN]
 have c1:=znh (T:=T) (zcN q s).toArray (by simp [hvl];omega)
 rw [show zbK (Sort.sort ltI (zcN q s).toArray) = .row 1 ((zbz (zcN q s)).map (D.int .i64)) by rw [zbK,zpw]] at c1
 have hln:(ptL n q).length=n:=zbx
 refine zat zx zmW (by show 2≤26;decide) _ (fun e env mem n h=>h) ?_
 (repeat' ((conv=>whnf);first|refine vA ?_|refine vJ fun hg=>?_|refine vT ?_|refine yN (ztM hT s) ⟨⟨rfl,rfl⟩,rfl⟩ ?_));all_goals try conv=>whnf
 refine zq (fun ((k,zs):Nat×List D)=>[(0,.d (dI (ptL n q))),(5,.own 0),(9,.d (dN (zt s))),(10,.d (.int .i64 ((zgf (zt s):Int)))),(11,.d (.int .i64 ((k:Int))))]) (fun ((k,zs):Nat×List D)=>[(0,some (.row 1 zs))]) 1 (fun ((k,zs):Nat×List D)=>k≤(zt s).length∧zs=((zcN q s).take k).map (D.int .i64)) (fun ((k,zs):Nat×List D)=>(zt s).length - k) ((0,[])) []   [0] (⟨by omega,by simp⟩) (by (refine ⟨rfl,rfl,rfl,?_,?_⟩;repeat' first|exact trivial|exact rfl|exact ⟨_,rfl⟩|refine And.intro ?_ ?_|decide)) ?_
 rintro ⟨k,zs⟩ ⟨hk,hz⟩
 have hzl:zs.length≤12:=by rw [hz];simp;omega
 have hlD:=zmv (zt s)
 by_cases hkl:k < (zt s).length
 ·have e1:=zmB hkl
  have hw:=hs _ (zbe.1 (zaf hkl))
  have e2:=za3 (q:=q) hw
  (repeat' ((conv=>whnf);first|refine vA ?_|(refine vF ?_ ?_<;>intro hc<;>try simp only [vL] at hc)|refine vT ?_|refine vN ‹_› ?_|((first|refine vO ?_ ?_|refine vP ?_ ?_);·first|omega|(simp only [vM] at *;omega))|fail));all_goals try conv=>whnf
  ·refine ⟨(k+1,_),[(0,2)],[],?_,?_,by (refine ⟨rfl,rfl,rfl,?_,?_⟩;repeat' first|exact trivial|exact rfl|refine And.intro ?_ ?_|refine ⟨_,rfl,?_⟩|decide)⟩
   ·refine ⟨by omega,?_⟩
    have e3:(zcN q s)[k]? = some ((q ((zt s).getD k 0):Nat):Int):=by
     rw [zcN,List.getElem?_map,zfl (d:=0) hkl];rfl
    rw [List.take_add_one,e3,hz];simp
   ·((simp only [vM] at *;omega))
  ·exfalso;omega
 ·(repeat' ((conv=>whnf);first|refine vA ?_|(refine vF ?_ ?_<;>intro hc<;>try simp only [vL] at hc)|refine vT ?_|(refine vQ ?_ fun x hx=>?_;·omega)|((first|refine vO ?_ ?_|refine vS ?_ fun x hx=>?_|refine vP ?_ ?_);·omega)|fail));all_goals try conv=>whnf
  ·exfalso;omega
  ·have e0:zs=(zcN q s).map (D.int .i64):=by rw [hz,List.take_of_length_le (by omega)]
   clear hz
   subst e0
   refine zaa.objs [0] (c1) (by (repeat' first|exact rfl|refine And.intro ?_ ?_|refine ⟨_,rfl,?_⟩)) (by (repeat' first|exact rfl|refine And.intro ?_ ?_)) (by rfl) (by rfl) (by simp) ?_
   (repeat' ((conv=>whnf);refine vT ?_));all_goals try conv=>whnf
   refine ⟨trivial,_,[(0,0)],[],rfl,.inl (by (repeat' exact rfl)),⟨by rfl,by rfl,by rfl,trivial,by (repeat' first|exact trivial|exact rfl|refine And.intro ?_ ?_|refine ⟨_,rfl,?_⟩|exact of_decide_eq_true rfl)⟩,by (repeat' exact trivial)⟩
theorem zyY {n:Nat} {q:Nat→Nat} {s:BitVec 64} (hn:n≤64) (hs : ∀ v,s.getLsbD v=true→v < n) {r:Nat→Nat→Bool} {w:Nat} (hr : ∀ v,v < n→r w v=s.getLsbD v):zde n r q w=zcN q s:=by
 unfold zde zcN zt
 rw [zfH (n:=n) hs 64 hn]
 congr 1
 exact List.filter_congr fun v hv=>hr v (List.mem_range.1 hv)
end Go.Ab
namespace Go.Ab
open Go Go.Proofs
set_option maxRecDepth 10000
set_option maxHeartbeats 4000000
variable {T:Nat→Obj→Prop}
abbrev dTs (l:List Tup):D := .arr 1 (l.map dII)
theorem zyM {n:Nat} (t:Nat→Tup):(((List.range n).map t).map (rkN ((List.range n).map t))).map (fun (x:Nat)=>(x:Int))=ptL n fun w=>rkN ((List.range n).map t) (t w):=by
 unfold ptL;simp [Function.comp_def]
theorem zqB {n:Nat} (t:Nat→Tup) (h1:1≤n) (h12:n≤12) (hs : ∀ w,w < n→Sml (t w)) :
  Fn Tryz.prog T ze5 [.d (dTs ((List.range n).map t))] [] (.d (.tup [dI (ptL n fun w=>rkN ((List.range n).map t) (t w)),.int .i64 (cnN ((List.range n).map t):Int)])) []:=by
 have h:=zwo (T:=T) ((List.range n).map t) (fun h=>by have:=congrArg List.length h;simp at this;omega) (by simpa using h12) (fun x hx=>by
  obtain ⟨w,hw,rfl⟩:=List.mem_map.1 hx
  exact hs w (List.mem_range.1 hw))
 rw [show dN (((List.range n).map t).map (rkN ((List.range n).map t)))=dI (ptL n fun w=>rkN ((List.range n).map t) (t w)) by rw [← zyM]] at h
 exact h
theorem zvn {n:Nat} (h1:1≤n) (h12:n≤12) (g:Nat) (y:D) (next:(Nat→Nat)→Nat→Tup) (first:Nat→Tup) (hF : ∀ q v w,v < n→w < n→next q v=next q w→q v=q w)
  (hs : ∀ q w,w < n→Sml (next q w)) (hf : ∀ w,w < n→Sml (first w)) (hx : ∀ (q:Nat→Nat) (w:Nat),w < n→Fn Tryz.prog T g [.d (dI (ptL n q)),.d (.int .i64 (w:Int)),.d y] [] (.d (dII (next q w))) []) :
  Fn Tryz.prog T zg6 [.d (dTs ((List.range n).map first)),.d (.fn g [y])] []
   (.d (.tup [dI (ptL n (zbn n next (n+1) (fun w=>rkN ((List.range n).map first) (first w)) (cnN ((List.range n).map first))).1),.int .i64 ((zbn n next (n+1) (fun w=>rkN ((List.range n).map first) (first w)) (cnN ((List.range n).map first))).2:Int)])) []:=by
 have c1:=zqB (T:=T) first h1 h12 hf
 have c2:=fun q=>zqB (T:=T) (next q) h1 h12 (hs q)
 generalize hq0:(fun w=>rkN ((List.range n).map first) (first w))=q0 at c1
 have hd0:cnN ((List.range n).map first)=dcN n q0:=by
  have:=zep (n:=n) (next:=fun _=>first) (fun _=>0)
  unfold zbD rfT zem rfT at this
  rw [hq0] at this
  exact this.symm
 rw [hd0] at c1 ⊢
 generalize hR:zbn n next (n+1) q0 (dcN n q0)=R
 refine zg zx zmV (by show 2≤45;decide) ?_
 (repeat' ((conv=>whnf);first|refine vT ?_|refine yN c1 ⟨⟨rfl,rfl⟩,rfl⟩ ?_));all_goals try conv=>whnf
 refine zah (fun ((q,c):(Nat→Nat)×Nat)=>[(1,.d (.fn g [y])),(6,.d (dI (ptL n q))),(7,.d (.int .i64 ((c:Int))))]) (fun ((q,c):(Nat→Nat)×Nat)=>c=dcN n q∧zbn n next (n+1) q (dcN n q)=R) (fun ((q,c):(Nat→Nat)×Nat)=>n+1 - c) ((q0,dcN n q0)) (⟨rfl,hR⟩) (by (repeat' first|exact trivial|exact rfl|refine And.intro ?_ ?_)) ?_
 rintro ⟨q,c⟩ ⟨hc0,hI⟩
 have hln:(ptL n q).length=n:=zbx
 (repeat' ((conv=>whnf);first|refine vA ?_|refine vJ fun hg=>?_|refine vK fun hg=>?_|refine vT ?_|(refine vP ?_ ?_;·(simp only [vM] at *;omega))|fail));all_goals try conv=>whnf
 ·refine zq (fun ((k,zs):Nat×List D)=>[(1,.d (.fn g [y])),(6,.d (dI (ptL n q))),(7,.d (.int .i64 ((c:Int)))),(8,.own 0),(21,.d (.int .i64 (((List.replicate ((((ptL n q).map (D.int .i64)).length:Int)).toNat (D.arr 1 []))).length:Int))),(22,.d (.int .i64 ((k:Int))))]) (fun ((k,zs):Nat×List D)=>[(0,some (.row 1 zs))]) 1 (fun ((k,zs):Nat×List D)=>k≤n∧zs=(List.range n).map fun w=>if w < k then dII (next q w) else D.arr 1 []) (fun ((k,zs):Nat×List D)=>n - k) ((0,List.replicate ((((ptL n q).map (D.int .i64)).length:Int)).toNat (D.arr 1 []))) [(0,0)] [] (⟨by omega,by simp only [Nat.not_lt_zero,if_false];rw [List.length_map,hln,Int.toNat_natCast];exact zad _ _⟩) (by (refine ⟨rfl,rfl,rfl,?_,?_⟩;repeat' first|exact trivial|exact rfl|refine And.intro ?_ ?_|refine ⟨_,rfl,?_⟩|decide)) ?_
  rintro ⟨k,zs⟩ ⟨hk,hz⟩
  by_cases hkl:k < n
  ·subst hz
   have er:(List.range n)[k]? = some k:=List.getElem?_range hkl
   (repeat' ((conv=>whnf);first|refine vA ?_|(refine vF ?_ ?_<;>intro hc<;>try simp only [vL] at hc)|refine vT ?_));all_goals try conv=>whnf
   ·refine zaa.dataN (hx q k hkl) (by (repeat refine ⟨⟨rfl,rfl⟩,?_⟩);rfl) ?_
    (repeat' ((conv=>whnf);first|refine vT ?_|((first|refine vO ?_ ?_|refine vP ?_ ?_);·first|omega|(simp only [vM] at *;omega))|fail));all_goals try conv=>whnf
    refine ⟨(k+1,_),[(0,0)],[],?_,?_,by (refine ⟨rfl,rfl,rfl,?_,?_⟩;repeat' first|exact trivial|exact rfl|refine And.intro ?_ ?_|refine ⟨_,rfl,?_⟩|decide)⟩
    ·refine ⟨by omega,(zdj _).trans (zD fun u hu=>?_)⟩
     show (if u=k then _ else _)=_
     by_cases e:u=k
     ·subst e;rw [if_pos rfl,if_pos (by omega)]
     ·rw [if_neg e]
      by_cases e2:u < k
      ·rw [if_pos e2,if_pos (by omega)]
      ·rw [if_neg e2,if_neg (by omega)]
    ·((simp only [vM] at *;omega))
   ·exfalso
    simp only [vM] at *;omega
  ·have hzz:zs=((List.range n).map (next q)).map dII:=by
    rw [hz,List.map_map];exact zD fun u hu=>by rw [if_pos (by omega)];rfl
   clear hz
   subst hzz
   have c3:=c2 q
   (repeat' ((conv=>whnf);first|refine vA ?_|(refine vF ?_ ?_<;>intro hc<;>try simp only [vL] at hc)|refine vT ?_|refine yN c3 (by (repeat refine ⟨⟨rfl,rfl⟩,?_⟩);rfl) ?_));all_goals try conv=>whnf
   ·exfalso;simp only [vM] at *;omega
   ·have e1:zbD n next q=dcN n q:=by have h:(cnN ((List.range n).map (next q)):Int)=(c:Int):=‹_›;unfold zbD rfT;omega
    rw [zbn,if_pos e1] at hI
    rw [← hI,hc0];rfl
   ·have e1:zbD n next q≠dcN n q:=fun e=>by
     have h : ¬(cnN ((List.range n).map (next q)):Int)=(c:Int):=‹_›
     unfold zbD rfT at e;omega
    have e2:=zrZ hF q
    have e3:=zep (n:=n) (next:=next) q
    have e4:=zv8 (n:=n) (next:=next) q
    refine ⟨(zem n next q,zbD n next q),[],[],?_,?_,by (refine ⟨rfl,rfl,rfl,?_,?_⟩;repeat' first|exact trivial|exact rfl|refine And.intro ?_ ?_)⟩
    ·refine ⟨e3.symm,?_⟩
     rw [zbn,if_neg e1,← e3] at hI
     rw [← hI]
     exact zuF hF _ _ _ (by omega) (by omega)
    ·show n+1 - zbD n next q < n+1 - c
     omega
end Go.Ab
namespace Go.Ab
open Go Go.Proofs
set_option maxRecDepth 10000
set_option maxHeartbeats 4000000
variable {T:Nat→Obj→Prop}
theorem zy0 {n:Nat} (h12:n≤12) {R:zB} (hR:R.length≤8) (q:Nat→Nat) (w:Nat):Sml (ziv n R q w)∧Sml (zY n R q w):=by
 have hsee : ∀ r:Nat→Nat→Bool,(zde n r q w).length≤12:=fun r=>by
  unfold zde
  rw [List.length_map]
  have:=List.length_filter_le (fun v=>r w v) (List.range n)
  rw [List.length_range] at this;omega
 refine ⟨⟨by simp [ziv];omega,fun x hx=>?_⟩,⟨by simp [zY];omega,fun x hx=>?_⟩⟩
 ·rcases List.mem_cons.1 hx with rfl|hx
  ·simp
  ·obtain ⟨r,-,rfl⟩:=List.mem_map.1 hx
   have:=hsee r
   rw [(zca _).length_eq];omega
 ·rcases List.mem_cons.1 hx with rfl|hx
  ·simp
  ·obtain ⟨r,-,rfl⟩:=List.mem_map.1 hx
   have:=hsee r
   have h2:=zbJ (zcJ (zde n r q w)) (l':=zde n r q w) fun y hy=>zas.1 hy
   unfold zfd
   rw [(zca _).length_eq];omega
theorem zs8 {m:KM} (hk0:za m=0) {r:List (BitVec 64)} (hr:r∈m.rel) (w:Nat) : ∀ v,(r.getD w 0#64).getLsbD v=true→v < m.W.toNat:=fun v hv=>(zzt hk0 hr (v:=w) (u:=v) hv).2
theorem zvl (hT:za0 T) {m:KM} (hk0:za m=0) (h12:m.W≤12) (q:Nat→Nat) (w:Nat) (hw:w < m.W.toNat) :
  Fn Tryz.prog T zcd [.d (dI (ptL m.W.toNat q)),.d (.int .i64 (w:Int)),.d (bKM m)] [] (.d (dII (zY m.W.toNat (zf m) q w))) []:=by
 have hg0:=zk hk0
 have n4:=hg0.n4
 have e0:=za3 (q:=q) hw
 refine zg zx zkS (by show 3≤34;decide) ?_
 (repeat' ((conv=>whnf);first|refine vA ?_|refine vJ fun hg=>?_|refine vT ?_|refine vN ‹_› ?_));all_goals try conv=>whnf
 refine zq (fun ((k,zs):Nat×List D)=>[(0,.d (dI (ptL m.W.toNat q))),(1,.d (.int .i64 ((w:Int)))),(6,.own 0),(16,.d (dUU m.rel)),(17,.d (.int .i64 ((m.rel.map dU).length:Int))),(18,.d (.int .i64 ((k:Int))))]) (fun ((k,zs):Nat×List D)=>[(0,some (.row 1 zs))]) 1 (fun ((k,zs):Nat×List D)=>k≤m.rel.length∧zs=dI [(q w:Int)]::(m.rel.take k).map fun r=>dI (zfd (zcN q (r.getD w 0#64)))) (fun ((k,zs):Nat×List D)=>m.rel.length - k) ((0,[dI [(q w:Int)]])) [(0,1)] [] (⟨by omega,by simp⟩) (by (refine ⟨rfl,rfl,rfl,?_,?_⟩;repeat' first|exact trivial|exact rfl|refine And.intro ?_ ?_|refine ⟨_,rfl,?_⟩|decide)) ?_
 rintro ⟨k,zs⟩ ⟨hk,hz⟩
 have hzl:zs.length≤5:=by rw [hz];simp;omega
 by_cases hkl:k < m.rel.length
 ·obtain ⟨r,hr⟩ : ∃ r,m.rel[k]? = some r:=⟨_,List.getElem?_eq_getElem hkl⟩
  have hrm:=List.mem_of_getElem? hr
  have hrl:=hg0.len r hrm
  have hx:=zfl (l:=r) (d:=0#64) (show w < r.length by omega)
  have hvl:=zua (zs8 hk0 hrm w)
  have c2:=zsj (T:=T) (zbz (zcN q (r.getD w 0#64))).toArray (by rw [List.size_toArray,(zca _).length_eq,zcN,List.length_map];omega)
  rw [zwb] at c2
  (repeat' ((conv=>whnf);first|refine vA ?_|(refine vF ?_ ?_<;>intro hc<;>try simp only [vL] at hc)|refine vT ?_|refine vN ‹_› ?_));all_goals try conv=>whnf
  ·refine zaa.res (zwp hT q (n:=m.W.toNat) (by omega) (zs8 hk0 hrm w)) (by (repeat refine ⟨⟨rfl,rfl⟩,?_⟩);rfl) ?_
   (repeat' ((conv=>whnf);refine vT ?_));all_goals try conv=>whnf
   refine zaa.objs [1] (c2) (by (repeat' first|exact rfl|refine And.intro ?_ ?_|refine ⟨_,rfl,?_⟩)) (by (repeat' first|exact rfl|refine And.intro ?_ ?_)) (by rfl) (by rfl) (by simp) ?_
   (repeat' ((conv=>whnf);first|refine vT ?_|((first|refine vO ?_ ?_|refine vP ?_ ?_);·first|omega|(simp only [vM] at *;omega))|fail));all_goals try conv=>whnf
   refine ⟨(k+1,_),[(0,4)],[],?_,?_,by (refine ⟨rfl,rfl,rfl,?_,?_⟩;repeat' first|exact trivial|exact rfl|refine And.intro ?_ ?_|refine ⟨_,rfl,?_⟩|decide)⟩
   ·refine ⟨by omega,?_⟩
    rw [List.take_add_one,hr,hz];simp
   ·((simp only [vM] at *;omega))
  ·exfalso;omega
 ·have hzz:zs=dI [(q w:Int)]::m.rel.map fun r=>dI (zfd (zcN q (r.getD w 0#64))):=by rw [hz,List.take_of_length_le (by omega)]
  clear hz
  (repeat' ((conv=>whnf);first|refine vA ?_|(refine vF ?_ ?_<;>intro hc<;>try simp only [vL] at hc)|refine vT ?_|(refine vQ ?_ fun x hx=>?_;·omega)|fail));all_goals try conv=>whnf
  ·exfalso;omega
  ·refine congrArg some (show D.arr 1 zs=dII (zY m.W.toNat (zf m) q w) from ?_)
   rw [hzz]
   unfold zY zf
   have a1 : ∀ r∈m.rel,zde m.W.toNat (fun v w=>rb r v w) q w=zcN q (r.getD w 0#64):=fun r hr=>zyY (by omega) (zs8 hk0 hr w) fun v _=>rfl
   simp only [List.map_map,List.map_cons]
   refine congrArg (fun l=>D.arr 1 (dI [(q w:Int)]::l)) ?_
   rw [List.map_map]
   exact List.map_congr_left fun r hr=>by show dI _=dI (zfd (zde _ (fun v w=>rb r v w) q w));rw [a1 r hr]
theorem zqA (hT:za0 T) {m:KM} (hk0:za m=0) (h12:m.W≤12) (root:Int) :
  Fn Tryz.prog T zg5 [.d (dKM m),.d (.int .i64 root)] [] (.d (.tup [dI (ptL m.W.toNat (zej m root).1),.int .i64 ((zej m root).2:Int)])) []:=by
 have hg0:=zk hk0
 have w1:=hg0.w1
 have n4:=hg0.n4
 have cr:=zvn (T:=T) (n:=m.W.toNat) (by omega) (by omega) zcd (bKM m) (zY m.W.toNat (zf m)) (mkT m root) (fun q v w hv hw h=>zfR q v w hv hw h) (fun q w hw=>(zy0 (by omega) (by simp [zf];omega) q w).2) (fun w hw=>⟨by simp [mkT],fun r hr=>by unfold mkT at hr;simp at hr;rcases hr with rfl|rfl<;>simp⟩) (fun q w hw=>zvl hT hk0 h12 q w hw)
 refine zg zx zmU (by show 2≤33;decide) ?_
 (repeat' ((conv=>whnf);first|refine vA ?_|refine vT ?_));all_goals try conv=>whnf
 refine zq (fun ((k,zs):Nat×List D)=>[(1,.d (.int .i64 (root))),(2,.ptr 0 0),(6,.own 1),(10,.d (.int .i64 (m.W))),(11,.d (.int .i64 ((k:Int))))]) (fun ((k,zs):Nat×List D)=>[(0,some (zar m)),(1,some (.row 1 zs))]) 2 (fun ((k,zs):Nat×List D)=>k≤m.W.toNat∧zs=((List.range k).map (mkT m root)).map dII) (fun ((k,zs):Nat×List D)=>m.W.toNat - k) ((0,[])) [(0,0)]   [1] (⟨by omega,rfl⟩) (by (refine ⟨rfl,rfl,rfl,?_,?_⟩;repeat' first|exact trivial|exact rfl|exact ⟨_,rfl⟩|refine And.intro ?_ ?_|refine ⟨_,rfl,?_⟩|decide)) ?_
 rintro ⟨k,zs⟩ ⟨hk,hz⟩
 have hzl:zs.length≤12:=by rw [hz];simp;omega
 by_cases hkl:k < m.W.toNat
 ·have cf:=zeb (T:=T) m (k:Int)
  rw [zi7 hk0 hkl] at cf
  (repeat' ((conv=>whnf);first|refine vA ?_|(refine vF ?_ ?_<;>intro hc<;>try simp only [vL] at hc)|refine vT ?_|((first|refine vO ?_ ?_|refine vP ?_ ?_);·first|omega|(simp only [vM] at *;omega))|refine yD cf ⟨⟨rfl,rfl⟩,⟨rfl,rfl⟩,rfl⟩ rfl ?_));all_goals try conv=>whnf
  ·refine ⟨(k+1,_),[(0,0),(1,6)],[],?_,?_,by (refine ⟨rfl,rfl,rfl,?_,?_⟩;repeat' first|exact trivial|exact rfl|refine And.intro ?_ ?_|refine ⟨_,rfl,?_⟩|decide)⟩
   ·refine ⟨by omega,?_⟩
    rw [hz,List.range_succ,List.map_append,List.map_append]
    refine congrArg _ ?_
    show [D.arr 1 [D.arr 1 [D.int .i64 0],D.arr 1 [D.int .i64 (zz m k)]]]=[dII (mkT m root k)]
    unfold mkT;rw [if_pos ‹_›];rfl
   ·((simp only [vM] at *;omega))
  ·refine ⟨(k+1,_),[(0,0),(1,6)],[],?_,?_,by (refine ⟨rfl,rfl,rfl,?_,?_⟩;repeat' first|exact trivial|exact rfl|refine And.intro ?_ ?_|refine ⟨_,rfl,?_⟩|decide)⟩
   ·refine ⟨by omega,?_⟩
    rw [hz,List.range_succ,List.map_append,List.map_append]
    refine congrArg _ ?_
    show [D.arr 1 [D.arr 1 [D.int .i64 1],D.arr 1 [D.int .i64 (zz m k)]]]=[dII (mkT m root k)]
    unfold mkT;rw [if_neg ‹_›];rfl
   ·((simp only [vM] at *;omega))
  ·exfalso;omega
 ·have hzz:zs=((List.range m.W.toNat).map (mkT m root)).map dII:=by rw [hz,show k=m.W.toNat by omega]
  clear hz
  subst hzz
  (repeat' ((conv=>whnf);first|refine vA ?_|(refine vF ?_ ?_<;>intro hc<;>try simp only [vL] at hc)|refine vT ?_|refine yN cr ⟨⟨rfl,rfl⟩,⟨rfl,rfl⟩,rfl⟩ ?_));all_goals try conv=>whnf
  iterate 2 (exfalso;omega)
  rfl
end Go.Ab
namespace Go.Ab
open Go Go.Proofs
set_option maxRecDepth 10000
set_option maxHeartbeats 4000000
variable {T:Nat→Obj→Prop}
theorem zqx {l:List Nat} {w:Nat} (h:w∈l):zdW (fun y=>(w:Int)==y) (l.map fun (x:Nat)=>(x:Int))=(l.idxOf w:Int):=by
 have h1:=zj6 h
 refine zea (x:=(w:Int)) (by rw [zmB h1.1,h1.2]) (by simp) fun i y hi hy=>?_
 rw [List.getElem?_map,Option.map_eq_some_iff] at hy
 obtain ⟨x,hx,rfl⟩:=hy
 have hne:x≠w:=fun e=>by
  subst e
  have h2:=List.idxOf_lt_length_of_mem h
  obtain ⟨p1,q1⟩:=List.getElem?_eq_some_iff.1 hx
  have : ∀ (l:List Nat) (i:Nat) (hi:i < l.length),l.idxOf l[i]≤i:=fun l=>by
   induction l with
   | nil=>intro i hi;simp at hi
   | cons a l ih =>
    intro i hi
    cases i with
    | zero=>simp
    | succ i =>
     rw [List.getElem_cons_succ,List.idxOf_cons]
     cases hb:a==l[i]'(by simpa using hi) with
     | true=>simp
     | false=>have:=ih i (by simpa using hi);simp;exact this
  have:=this l i p1
  rw [q1] at this;omega
 simp;omega
theorem zsi (hT:za0 T) (m:KM) (h12:za m=0→m.W≤12) (w:Int):Fn Tryz.prog T zfE [.d (dKM m),.d (.int .i64 w)] [] (.d (.tup [dKM (zf8 m w).1,dI (zf8 m w).2.1,.int .i64 (zf8 m w).2.2])) []:=by
 have cc:=zau (T:=T) m
 by_cases hk0:za m=0
 ·have h12:=h12 hk0
  have hg0:=zk hk0
  have w1:=hg0.w1
  rw [hk0] at cc
  by_cases hw:w < 0∨m.W≤w
  ·refine zg zx zdx (by show 2≤95;decide) ?_
   (repeat' ((conv=>whnf);first|refine vA ?_|refine vH ?_|(refine vF ?_ ?_<;>intro hc<;>try simp only [vL] at hc)|refine vT ?_|(refine vP ?_ ?_;·omega)|refine yD cc ⟨⟨rfl,rfl⟩,rfl⟩ rfl ?_));all_goals try conv=>whnf
   iterate 2 (rw [zf8,if_neg (by omega),if_pos hw];rfl)
   exfalso;omega
  ·obtain ⟨w,rfl⟩ : ∃ v:Nat,w=(v:Int):=⟨w.toNat,by omega⟩
   have hwl:w < m.W.toNat:=by omega
   have hbit : ∀ v,(1#64 <<< w).getLsbD v=true→v < m.W.toNat:=fun v hv=>by have:=(zmA (by omega)).1 hv;omega
   have hl:=zsx hk0 hwl
   have hroot:=ze7 (R:=zf m) hwl
   have hlen:=zjd (n:=m.W.toNat) (R:=zf m) (w:=w)
   have hlt : ∀ x∈zG m.W.toNat (zf m) w,x < m.W.toNat:=fun x hx=>(zfk.1 hx).lt
   have hnd:=ziq m.W.toNat (zf m) w
   have hcan:zf8 m (w:Int)=if ziH (zC m (zG m.W.toNat (zf m) w))=false then (zbi,[],16) else (zC m (zdo m w),(zdo m w).map fun (x:Nat)=>(x:Int),0):=by
    rw [zf8,if_neg (by omega),if_neg hw,Int.toNat_natCast]
   have hcc:=zxW hk0 hwl
   have cg:=zkE hT hk0 hbit
   have cr:=zlz hT hk0 (s:=zgY m (1#64 <<< w)) (fun e=>by
    rw [e,zdK] at hl;rw [← hl] at hroot;cases hroot) (fun v hv=>((zhq hk0).1 hv).lt)
   rw [hl] at cr
   generalize zgY m (1#64 <<< w)=gs at cg cr
   clear hl
   generalize hL:zG m.W.toNat (zf m) w=l at hroot hlen hlt hnd hcan hcc cr
   have hll:1≤l.length:=List.length_pos_of_mem hroot
   have hp0:=zk3 hk0 hll (by omega)
   have hpW:(zC m l).W.toNat=l.length:=Int.toNat_natCast _
   have hpI:(zC m l).W=(l.length:Int):=rfl
   have c1:=zqA hT hp0 (by rw [hpI];omega) (-1)
   have ci:=zhN (T:=T) (l.map fun (x:Nat)=>(x:Int)) (w:Int)
   rw [zqx hroot] at ci
   have c2:=zqA hT hp0 (by rw [hpI];omega) (l.idxOf w:Int)
   have hn:=zA1 (p:=zC m l) (-1)
   rw [hpW] at c1 c2 hn
   refine zg zx zdx (by show 2≤95;decide) ?_
   cases hmin:ziH (zC m l) with
   | false =>
    have hne:(zej (zC m l) (-1)).2≠l.length:=fun e=>by
     unfold ziH at hmin;rw [hpW,e] at hmin;simp at hmin
    rw [hcan,hmin,if_pos rfl]
    (repeat' ((conv=>whnf);first|refine vA ?_|refine vH ?_|(refine vF ?_ ?_<;>intro hc<;>try simp only [vL] at hc)|refine vT ?_|(refine vP ?_ ?_;·omega)|(refine vU ?_ ?_;·kernel_rfl)|refine yD cc ⟨⟨rfl,rfl⟩,rfl⟩ rfl ?_|refine yN cg ⟨⟨rfl,rfl⟩,⟨rfl,rfl⟩,rfl⟩ ?_|refine yN cr ⟨⟨rfl,rfl⟩,⟨rfl,rfl⟩,rfl⟩ ?_|refine yN c1 ⟨⟨rfl,rfl⟩,⟨rfl,rfl⟩,rfl⟩ ?_));all_goals try conv=>whnf
    ·exfalso;omega
    ·rfl
    ·have h : ¬((zej (zC m l) (-1)).2:Int) < (l.length:Int):=by rw [← hpI];omega
     exfalso;omega
   | true =>
    have he:(zej (zC m l) (-1)).2=l.length:=by
     unfold ziH at hmin;rw [hpW] at hmin;exact of_decide_eq_true hmin
    rw [hcan,hmin,if_neg (by decide)]
    obtain ⟨hq,ha,hw2⟩:=hcc hmin
    have c3:=zvk (T:=T) (zC m l) (ptL l.length (zej (zC m l) (l.idxOf w:Int)).1)
    rw [zoc,if_neg (by omega),if_pos (by rw [hpW];exact zqa hq),hpW,ha] at c3
    generalize (zej (zC m l) (l.idxOf w:Int)).1=q at c2 c3 hq hw2
    have hln:(ptL l.length q).length=l.length:=zbx
    (repeat' ((conv=>whnf);first|refine vA ?_|refine vH ?_|(refine vF ?_ ?_<;>intro hc<;>try simp only [vL] at hc)|refine vJ fun hg=>?_|refine vT ?_|(refine vP ?_ ?_;·first|omega|(simp only [vM] at *;omega))|(refine vU ?_ ?_;·kernel_rfl)|refine yD cc ⟨⟨rfl,rfl⟩,rfl⟩ rfl ?_|refine yN cg ⟨⟨rfl,rfl⟩,⟨rfl,rfl⟩,rfl⟩ ?_|refine yN cr ⟨⟨rfl,rfl⟩,⟨rfl,rfl⟩,rfl⟩ ?_|refine yN c1 ⟨⟨rfl,rfl⟩,⟨rfl,rfl⟩,rfl⟩ ?_|refine yD ci ⟨⟨rfl,rfl⟩,⟨rfl,rfl⟩,rfl⟩ rfl ?_|refine yN c2 ⟨⟨rfl,rfl⟩,⟨rfl,rfl⟩,rfl⟩ ?_|refine yN c3 ⟨⟨rfl,rfl⟩,⟨rfl,rfl⟩,rfl⟩ ?_));all_goals try conv=>whnf
    ·exfalso;omega
    ·exfalso;rw [hpI] at *;omega
    refine zq (fun ((k,zs):Nat×List D)=>[(4,.ptr 0 0),(11,.d (dN l)),(17,.ptr 1 0),(19,.own 2),(78,.d (dI (ptL l.length q))),(79,.d (.int .i64 (((ptL l.length q).map (D.int .i64)).length:Int))),(80,.d (.int .i64 ((k:Int))))]) (fun ((k,zs):Nat×List D)=>[(0,some (.box [.d (.int .i64 0),.nils 1,.nils 1])),(1,some (zar (zC m (zdo m w)))),(2,some (.row 1 zs))]) 3 (fun ((k,zs):Nat×List D)=>k≤l.length∧zs=(List.range l.length).map fun i=>D.int .i64 (if zb7 l.length q i < k then (l.getD (zb7 l.length q i) 0:Int) else 0)) (fun ((k,zs):Nat×List D)=>l.length - k) ((0,List.replicate ((((ptL l.length q).map (D.int .i64)).length:Int)).toNat (D.int .i64 0))) [(0,1),(1,3),(2,4)] [] (⟨by omega,by simp only [Nat.not_lt_zero,if_false];rw [List.length_map,zbx,Int.toNat_natCast];exact zad _ _⟩) (by (refine ⟨rfl,rfl,rfl,?_,?_⟩;repeat' first|exact trivial|exact rfl|refine And.intro ?_ ?_|refine ⟨_,rfl,?_⟩|decide)) ?_
    rintro ⟨k,zs⟩ ⟨hk,hz⟩
    subst hz
    by_cases hkl:k < l.length
    ·have e1:=za3 (q:=q) hkl
     have e2:=zmB hkl
     have er:(List.range l.length)[q k]? = some (q k):=List.getElem?_range (hq.lt k hkl)
     have hqk:=hq.lt k hkl
     (repeat' ((conv=>whnf);first|refine vA ?_|(refine vF ?_ ?_<;>intro hc<;>try simp only [vL] at hc)|refine vT ?_|refine vN ‹_› ?_|((first|refine vO ?_ ?_|refine vP ?_ ?_);·first|omega|(simp only [vM] at *;omega))|fail));all_goals try conv=>whnf
     ·refine ⟨(k+1,_),[(0,0),(1,1),(2,2)],[],?_,?_,by (refine ⟨rfl,rfl,rfl,?_,?_⟩;repeat' first|exact trivial|exact rfl|refine And.intro ?_ ?_|refine ⟨_,rfl,?_⟩|decide)⟩
      ·refine ⟨by omega,(zdj _).trans (zD fun u hu=>?_)⟩
       show (if u=q k then _ else _)=_
       by_cases e:u=q k
       ·subst e
        rw [if_pos rfl,zhk hq hkl,if_pos (by omega)]
       ·rw [if_neg e]
        have hne:zb7 l.length q u≠k:=fun e'=>e (by rw [← e'];exact (zdT hq hu).2.symm)
        by_cases e2:zb7 l.length q u < k
        ·rw [if_pos e2,if_pos (by omega)]
        ·rw [if_neg e2,if_neg (by omega)]
      ·((simp only [vM] at *;omega))
     all_goals (exfalso;omega)
    ·(repeat' ((conv=>whnf);first|refine vA ?_|(refine vF ?_ ?_<;>intro hc<;>try simp only [vL] at hc)|refine vT ?_|(refine vQ ?_ fun x hx=>?_;·omega)|((first|refine vO ?_ ?_|refine vP ?_ ?_);·omega)|fail));all_goals try conv=>whnf
     all_goals try (exfalso;omega)
     have e0:k=l.length:=by omega
     refine congrArg (fun x=>some (D.tup [dKM (zC m (zdo m w)),D.arr 1 x,D.int .i64 0])) ?_
     rw [hw2,List.map_map,List.map_map]
     exact zD fun u hu=>by rw [if_pos (by rw [e0];exact (zdT hq hu).1)];rfl
 ·refine zg zx zdx (by show 2≤95;decide) ?_
  (repeat' ((conv=>whnf);first|refine vA ?_|((first|refine vD ?_ ?_|refine vF ?_ ?_)<;>intro hc<;>try simp only [vL] at hc)|refine vT ?_|(refine vP ?_ ?_;·omega)|refine yD cc ⟨⟨rfl,rfl⟩,rfl⟩ rfl ?_));all_goals try conv=>whnf
  ·rw [zf8,if_pos hk0];rfl
  all_goals exact absurd ‹za m=0› hk0
end Go.Ab
namespace Go.Ab
open Go Go.Proofs
set_option maxRecDepth 10000
set_option maxHeartbeats 4000000
def zj7:List D→Option (List Int)
 | []=>some []
 | .int .i64 n::r=>match zj7 r with
  | some l=>some (n::l)
  | none=>none
 | _=>none
theorem znU : ∀ {ds:List D} {l:List Int},zj7 ds=some l→ds=l.map (D.int .i64)
 | [],l,h=>by cases h;rfl
 | .int .i64 n::r,l,h=>by
  unfold zj7 at h
  split at h
  ·rename_i l' h';cases h;rw [znU h'];rfl
  ·cases h
def zh4:List D→Option (List (BitVec 64))
 | []=>some []
 | .u64 n::r=>match zh4 r with
  | some l=>some (n::l)
  | none=>none
 | _=>none
theorem zmh : ∀ {ds:List D} {l:List (BitVec 64)},zh4 ds=some l→ds=l.map D.u64
 | [],l,h=>by cases h;rfl
 | .u64 n::r,l,h=>by
  unfold zh4 at h
  split at h
  ·rename_i l' h';cases h;rw [zmh h'];rfl
  ·cases h
def zjl:List D→Option (List (List Int))
 | []=>some []
 | .arr 1 x::r=>match zj7 x with
  | some a=>match zjl r with
   | some l=>some (a::l)
   | none=>none
  | none=>none
 | _=>none
theorem zlQ : ∀ {ds:List D} {l:List (List Int)},zjl ds=some l→ds=l.map dI
 | [],l,h=>by cases h;rfl
 | .arr 1 x::r,l,h=>by
  replace h:(match zj7 x with
   | some a=>match zjl r with
    | some l=>some (a::l)
    | none=>none
   | none=>none)=some l:=h
  cases h1:zj7 x with
  | none=>rw [h1] at h;cases h
  | some a =>
   cases h2:zjl r with
   | none=>rw [h1,h2] at h;cases h
   | some l'=>rw [h1,h2] at h;cases h;rw [zlQ h2,znU h1];rfl
def zpo:List D→Option (List (List (BitVec 64)))
 | []=>some []
 | .arr 1 x::r=>match zh4 x with
  | some a=>match zpo r with
   | some l=>some (a::l)
   | none=>none
  | none=>none
 | _=>none
theorem zs9 : ∀ {ds:List D} {l:List (List (BitVec 64))},zpo ds=some l→ds=l.map dU
 | [],l,h=>by cases h;rfl
 | .arr 1 x::r,l,h=>by
  replace h:(match zh4 x with
   | some a=>match zpo r with
    | some l=>some (a::l)
    | none=>none
   | none=>none)=some l:=h
  cases h1:zh4 x with
  | none=>rw [h1] at h;cases h
  | some a =>
   cases h2:zpo r with
   | none=>rw [h1,h2] at h;cases h
   | some l'=>rw [h1,h2] at h;cases h;rw [zs9 h2,zmh h1];rfl
def zp7:D→Option KM
 | .agg [.int .i64 W,.arr 1 v,.arr 1 r]=>match zh4 v,zpo r with
  | some v,some r=>some ⟨W,v,r⟩
  | _,_=>none
 | _=>none
theorem zmy {d:D} {m:KM} (h:zp7 d=some m):d=dKM m:=by
 unfold zp7 at h
 split at h
 ·split at h
  ·rename_i h1 h2;cases h;rw [zmh h1,zs9 h2]
  ·cases h
 ·cases h
def zvJ (t:Tup):Bool:=Nat.ble t.length 1000&&t.all fun r=>Nat.ble r.length 1000
theorem zAu {t:Tup} (h:zvJ t=true):Sml t:=by
 unfold zvJ at h
 rw [Bool.and_eq_true,Nat.ble_eq] at h
 exact ⟨h.1,fun r hr=>by have:=List.all_eq_true.1 h.2 r hr;rwa [Nat.ble_eq] at this⟩
variable {T:Nat→Obj→Prop}
end Go.Ab
namespace Go.Ab
open Go Go.Proofs
set_option maxRecDepth 10000
set_option maxHeartbeats 4000000
variable {T:Nat→Obj→Prop}
def zgB (a b:List Int) (v w:Nat):Bool:=decide (at0 a v=at0 a w∧at0 b v=at0 b w)
end Go.Ab
namespace Go.Ab
open Go Go.Proofs
set_option maxRecDepth 10000
set_option maxHeartbeats 4000000
variable {T:Nat→Obj→Prop}
def pOk (p:List Int) (i:Nat):Bool:=decide (0≤at0 p i∧at0 p i≤i∧at0 p (at0 p i).toNat=at0 p i)
def zbQ (p:List Int):Int:=if 64 < p.length then 8 else if (List.range p.length).all (pOk p)=true then 0 else 3
theorem zuy {p:List Int} {k:Nat} (hk:k < p.length) (h:pOk p k=false) : ¬(List.range p.length).all (pOk p)=true:=fun e=>by
 rw [List.all_eq_true] at e
 rw [e k (List.mem_range.2 hk)] at h;cases h
theorem zsZ {p:List Int} (h : ∀ i,i < p.length→pOk p i=true):(List.range p.length).all (pOk p)=true:=List.all_eq_true.2 fun i hi=>h i (List.mem_range.1 hi)
theorem ztX {p:List Int} (h:zbQ p=0):p.length≤64∧zaC p.length (fun w=>(at0 p w).toNat)∧p=ptL p.length fun w=>(at0 p w).toNat:=by
 unfold zbQ at h
 split at h
 ·cases h
 ·rename_i h1
  split at h
  ·rename_i h2
   have h3 : ∀ i,i < p.length→0≤at0 p i∧at0 p i≤i∧at0 p (at0 p i).toNat=at0 p i:=fun i hi=>by
    have:=List.all_eq_true.1 h2 i (List.mem_range.2 hi)
    simpa [pOk] using this
   refine ⟨by omega,⟨fun w hw=>by have:=h3 w hw;show (at0 p w).toNat≤w;omega,fun w hw=>by have:=h3 w hw;show (at0 p (at0 p w).toNat).toNat=_;rw [this.2.2]⟩,?_⟩
   refine List.ext_getElem? fun i=>?_
   by_cases hi:i < p.length
   ·rw [za3 hi,zdb hi]
    have:=h3 i hi
    congr 1;omega
   ·rw [List.getElem?_eq_none (by omega),List.getElem?_eq_none (by rw [zbx];omega)]
  ·cases h
theorem zm9 {n:Nat} {q:Nat→Nat} (hq:zaC n q) (hn:n≤64):zbQ (ptL n q)=0:=by
 have hl:(ptL n q).length=n:=zbx
 have ha : ∀ i,i < n→at0 (ptL n q) i=((q i:Nat):Int):=fun i hi=>zc5 (za3 hi)
 unfold zbQ
 rw [if_neg (by omega),if_pos (zsZ fun i hi=>?_)]
 rw [hl] at hi
 have h1:=hq.le i hi
 unfold pOk
 rw [decide_eq_true_eq,ha i hi,Int.toNat_natCast,ha (q i) (by omega),hq.idem i hi]
 exact ⟨by omega,by omega,rfl⟩
theorem zhh (p:List Int):Fn Tryz.prog T zeM [.d (dI p)] [] (.d (.int .i64 (zbQ p))) []:=by
 refine zg zx zmZ (by show 1≤31;decide) ?_
 (repeat' ((conv=>whnf);first|refine vA ?_|(refine vF ?_ ?_<;>intro hc<;>try simp only [vL] at hc)|refine vJ fun hg=>?_|refine vT ?_|refine vX ?_));all_goals try conv=>whnf
 ·rw [zbQ,if_pos (by omega)]
 ·have e0:zbQ p=if (List.range p.length).all (pOk p)=true then 0 else 3:=by rw [zbQ,if_neg (by omega)]
  refine zah (fun (k:Nat)=>[(0,.d (dI p)),(8,.d (dI p)),(9,.d (.int .i64 ((p.map (D.int .i64)).length:Int))),(10,.d (.int .i64 ((k:Int))))]) (fun (k:Nat)=>k≤p.length ∧ ∀ i,i < k→pOk p i=true) (fun (k:Nat)=>p.length - k) (0) (⟨by simp,fun i hi=>by omega⟩) (by (repeat' first|exact trivial|exact rfl|refine And.intro ?_ ?_)) ?_
  rintro k ⟨hk,hI⟩
  by_cases hkl:k < p.length
  ·have e1:p[k]? = some (at0 p k):=zdb hkl
   by_cases hb:0≤at0 p k∧at0 p k≤k
   ·have e2:p[(at0 p k).toNat]? = some (at0 p (at0 p k).toNat):=zdb (by omega)
    (repeat' ((conv=>whnf);first|refine vA ?_|((first|refine vD ?_ ?_|refine vF ?_ ?_)<;>intro hc<;>try simp only [vL] at hc)|refine vT ?_|refine vN ‹_› ?_|((first|refine vO ?_ ?_|refine vR ?_ ‹_› ?_);·omega)|refine vX ?_));all_goals try conv=>whnf
    all_goals try omega
    ·rw [e0,if_neg (zuy hkl (by unfold pOk;rw [decide_eq_false_iff_not];rintro ⟨-,-,h3⟩;exact absurd h3 ‹_›))]
    ·exact ⟨k+1,[],[],⟨by (omega),fun i hi=>by
      by_cases e:i=k
      ·subst e;unfold pOk;rw [decide_eq_true_eq];exact ⟨hb.1,hb.2,by assumption⟩
      ·exact hI i (by omega)⟩,by (omega),by (refine ⟨rfl,rfl,rfl,?_,?_⟩;repeat' first|exact trivial|exact rfl|refine And.intro ?_ ?_)⟩
   ·(repeat' ((conv=>whnf);first|refine vA ?_|((first|refine vD ?_ ?_|refine vF ?_ ?_)<;>intro hc<;>try simp only [vL] at hc)|refine vT ?_|refine vN ‹_› ?_|((first|refine vO ?_ ?_|refine vS ?_ fun x hx=>?_);·omega)|refine vX ?_));all_goals try conv=>whnf
    all_goals try omega
    all_goals exact (by rw [e0,if_neg (zuy hkl (by unfold pOk;rw [decide_eq_false_iff_not];rintro ⟨h1,h2,-⟩;exact hb ⟨h1,h2⟩))])
  ·(repeat' ((conv=>whnf);first|refine vA ?_|((first|refine vD ?_ ?_|refine vF ?_ ?_)<;>intro hc<;>try simp only [vL] at hc)|refine vT ?_|(refine vQ ?_ fun x hx=>?_;·omega)|((first|refine vO ?_ ?_|refine vS ?_ fun x hx=>?_);·omega)|refine vX ?_));all_goals try conv=>whnf
   all_goals try omega
   rw [e0,if_pos (zsZ fun i hi=>hI i (by omega))]
theorem zwn {n:Nat} {q:Nat→Nat} (hq:zaC n q) (hn:n≤64):Fn Tryz.prog T zeM [.d (dI (ptL n q))] [] (.d (.int .i64 0)) []:=by
 have:=zhh (T:=T) (ptL n q)
 rwa [zm9 hq hn] at this
abbrev pkD (x y:Int):D := .agg [.int .i64 x,.int .i64 y]
def zda (a b:List Int) (k:Nat) (x y:Int):Option Nat:=(List.range k).find? fun j=>decide (at0 a j=x∧at0 b j=y)
def zkX (a b:List Int) (k:Nat) (es:List (D×D)):Prop := ∀ x y,z6 es (pkD x y)=some ((zda a b k x y).map fun (j:Nat)=>D.int .i64 (j:Int))
theorem zfI (k:D) (l:List (D×D)) : ∀ es:List (D×D),z6 es k=some none→z6 (es++l) k=z6 l k
 | [],_=>rfl
 | (a,v)::r,h=>by
  simp only [z6] at h
  show z6 ((a,v)::(r++l)) k=_
  simp only [z6]
  split at h
  ·cases h
  ·exact zfI k l r h
  ·cases h
theorem zne (k:D) (l:List (D×D)) : ∀ (es:List (D×D)) (x:D),z6 es k=some (some x)→z6 (es++l) k=some (some x)
 | [],_,h=>by cases h
 | (a,v)::r,x,h=>by
  simp only [z6] at h
  show z6 ((a,v)::(r++l)) k=_
  simp only [z6]
  split at h
  ·exact h
  ·exact zne k l r x h
  ·cases h
theorem zwU (x y x' y':Int):D.eqk (pkD x y) (pkD x' y')=some (decide (x=x')&&(decide (y=y')&&true)):=rfl
theorem zlw (a b:List Int) (k:Nat) (x y:Int):zda a b (k+1) x y=match zda a b k x y with
  | some j=>some j
  | none=>if at0 a k=x∧at0 b k=y then some k else none:=by
 unfold zda
 rw [List.range_succ,List.find?_append]
 cases h:(List.range k).find? fun j=>decide (at0 a j=x∧at0 b j=y) with
 | some j=>rfl
 | none =>
  show (none:Option Nat).or _=_
  rw [Option.none_or]
  simp only [List.find?]
  by_cases e:at0 a k=x∧at0 b k=y
  ·rw [if_pos e,decide_eq_true e]
  ·rw [if_neg e,decide_eq_false e]
theorem ztG {a b:List Int} {k j:Nat} {es:List (D×D)} (h:zkX a b k es) (hf:zda a b k (at0 a k) (at0 b k)=some j):zkX a b (k+1) es:=by
 intro x y
 rw [h x y,zlw]
 cases e:zda a b k x y with
 | some i=>rfl
 | none =>
  show _=some (Option.map _ (if at0 a k=x∧at0 b k=y then some k else none))
  rw [if_neg]
  rintro ⟨rfl,rfl⟩;rw [hf] at e;cases e
theorem zve {a b:List Int} {k:Nat} {es:List (D×D)} (h:zkX a b k es) (hf:zda a b k (at0 a k) (at0 b k)=none):zkX a b (k+1) (es++[(pkD (at0 a k) (at0 b k),.int .i64 (k:Int))]):=by
 intro x y
 rw [zlw]
 cases e:zda a b k x y with
 | some i=>exact zne _ _ _ _ (by rw [h x y,e];rfl)
 | none =>
  rw [zfI _ _ _ (by rw [h x y,e];rfl)]
  show _=some (Option.map _ (if at0 a k=x∧at0 b k=y then some k else none))
  simp only [z6,zwU]
  by_cases e1:at0 a k=x∧at0 b k=y
  ·obtain ⟨rfl,rfl⟩:=e1
   simp
  ·rw [if_neg e1]
   by_cases e2:x=at0 a k
   ·have e3 : ¬ y=at0 b k:=fun e3=>e1 ⟨e2.symm,e3.symm⟩
    simp [e2,e3]
   ·simp [e2]
theorem zqI (a b:List Int) (k:Nat):zW (zgB a b) k=(zda a b k (at0 a k) (at0 b k)).getD k:=rfl
theorem zuH {e:Nat→Nat→Bool} {n k j:Nat} (h:zW e k=j):(((List.range n).map fun i=>D.int .i64 (if i < k then (zW e i:Int) else 0)).set k (D.int .i64 (j:Int)))=(List.range n).map fun i=>D.int .i64 (if i < k+1 then (zW e i:Int) else 0):=by
 refine (zdj _).trans (zD fun u hu=>?_)
 by_cases e1:u=k
 ·subst e1;rw [if_pos rfl,if_pos (by omega),h]
 ·rw [if_neg e1]
  by_cases e2:u < k
  ·rw [if_pos e2,if_pos (by omega)]
  ·rw [if_neg e2,if_neg (by omega)]
theorem zwj (a b:List Int) (hl:b.length=a.length) (hn:a.length≤64):Fn Tryz.prog T zgK [.d (dI a),.d (dI b)] [] (.d (dI (ptL a.length (zW (zgB a b))))) []:=by
 refine zg zx zlM (by show 2≤48;decide) ?_
 (repeat' ((conv=>whnf);first|refine vA ?_|refine vJ fun hg=>?_|refine vT ?_|(refine vP ?_ ?_;·(simp only [vM] at *;omega))|fail));all_goals try conv=>whnf
 refine zq (fun ((k,es,zs):Nat×List (D×D)×List D)=>[(0,.d (dI a)),(1,.d (dI b)),(5,.map 0),(6,.own 1),(16,.d (.int .i64 ((a.map (D.int .i64)).length:Int))),(17,.d (.int .i64 ((k:Int))))]) (fun ((k,es,zs):Nat×List (D×D)×List D)=>[(0,some (.map es)),(1,some (.row 1 zs))]) 2 (fun ((k,es,zs):Nat×List (D×D)×List D)=>k≤a.length∧zkX a b k es∧zs=(List.range a.length).map fun i=>D.int .i64 (if i < k then (zW (zgB a b) i:Int) else 0)) (fun ((k,es,zs):Nat×List (D×D)×List D)=>a.length - k) ((0,[],List.replicate (((a.map (D.int .i64)).length:Int)).toNat (D.int .i64 0))) [(0,0),(1,1)] [] (⟨by simp,fun x y=>by simp [z6,zda],by simp only [Nat.not_lt_zero,if_false];rw [List.length_map,Int.toNat_natCast];exact zad _ _⟩) (by (refine ⟨rfl,rfl,rfl,?_,?_⟩;repeat' first|exact trivial|exact rfl|refine And.intro ?_ ?_|refine ⟨_,rfl,?_⟩|decide)) ?_
 rintro ⟨k,es,zs⟩ ⟨hk,hM,rfl⟩
 by_cases hkl:k < a.length
 ·obtain ⟨x,e1⟩ : ∃ x,a[k]? = some x:=⟨_,List.getElem?_eq_getElem hkl⟩
  obtain ⟨y,e2⟩ : ∃ y,b[k]? = some y:=⟨_,List.getElem?_eq_getElem (by omega)⟩
  have f1:at0 a k=x:=zc5 e1
  have f2:at0 b k=y:=zc5 e2
  cases hf:zda a b k x y with
  | some j =>
   have hfd:z6 es (pkD x y)=some (some (.int .i64 (j:Int))):=by rw [hM x y,hf];rfl
   (repeat' ((conv=>whnf);first|refine vA ?_|refine vE ?_|refine vG ?_|(refine vF ?_ ?_<;>intro hc<;>try simp only [vL] at hc)|refine vT ?_|refine vN ‹_› ?_|((first|refine vO ?_ ?_|refine vP ?_ ?_);·first|omega|(simp only [vM] at *;omega))|(refine vU ?_ ?_;·kernel_rfl)|refine zjJ.mk _ ‹_› ?_));all_goals try conv=>whnf
   ·have hlo:zW (zgB a b) k=j:=by rw [zqI,f1,f2,hf];rfl
    refine ⟨(k+1,es,_),[(0,0),(1,1)],[],?_,?_,by (refine ⟨rfl,rfl,rfl,?_,?_⟩;repeat' first|exact trivial|exact rfl|refine And.intro ?_ ?_|refine ⟨_,rfl,?_⟩|decide)⟩
    ·exact ⟨by (omega),ztG hM (by rw [f1,f2];exact hf),zuH hlo⟩
    ·((simp only [vM] at *;omega))
   all_goals omega
  | none =>
   have hfd:z6 es (pkD x y)=some none:=by rw [hM x y,hf];rfl
   have hfn:z6 (es++[(pkD x y,.int .i64 (k:Int))]) (pkD x y)=some (some (.int .i64 (k:Int))):=by rw [zfI _ _ _ hfd];simp [z6,zwU]
   (repeat' ((conv=>whnf);first|refine vA ?_|(refine vF ?_ ?_<;>intro hc<;>try simp only [vL] at hc)|refine vT ?_|refine vN ‹_› ?_|((first|refine vO ?_ ?_|refine vP ?_ ?_);·first|omega|(simp only [vM] at *;omega))|(refine vU ?_ ?_;·kernel_rfl)|refine zjJ.mk _ ‹_› ?_));all_goals try conv=>whnf
   ·have hlo:zW (zgB a b) k=k:=by rw [zqI,f1,f2,hf];rfl
    refine ⟨(k+1,_,_),[(0,0),(1,1)],[],?_,?_,by (refine ⟨rfl,rfl,rfl,?_,?_⟩;repeat' first|exact trivial|exact rfl|refine And.intro ?_ ?_|refine ⟨_,rfl,?_⟩|decide)⟩
    ·exact ⟨by (omega),by subst f1 f2;exact zve hM hf,zuH hlo⟩
    ·((simp only [vM] at *;omega))
   all_goals omega
 ·(repeat' ((conv=>whnf);first|refine vA ?_|(refine vF ?_ ?_<;>intro hc<;>try simp only [vL] at hc)|refine vT ?_|(refine vQ ?_ fun x hx=>?_;·omega)|(refine vU ?_ ?_;·kernel_rfl)|fail));all_goals try conv=>whnf
  ·omega
  ·have e0:k=a.length:=by omega
   subst e0
   refine congrArg (fun l=>some (D.arr 1 l)) ?_
   unfold ptL
   rw [List.map_map]
   exact zD fun u hu=>by rw [if_pos hu];rfl
theorem zsr {n:Nat} {q:Nat→Nat} (hq:zaC n q) (hn:n≤64) (keys:List Int) (hl:keys.length=n):Fn Tryz.prog T zc1 [.d (dI (ptL n q)),.d (dI keys)] [] (.d (.tup [dI (ptL n (zW (zgB (ptL n q) keys))),.int .i64 0])) []:=by
 have hp:=zbx (n:=n) (q:=q)
 have cd:=zwj (T:=T) (ptL n q) keys (by omega) (by omega)
 rw [hp] at cd
 refine zg zx zm0 (by show 2≤20;decide) ?_
 (repeat' ((conv=>whnf);first|refine vA ?_|refine vH ?_|(refine vD ?_ ?_<;>intro hc<;>try simp only [vL] at hc)|refine vJ fun hg=>?_|refine vT ?_|refine yD (zwn hq hn) ⟨⟨rfl,rfl⟩,rfl⟩ rfl ?_|refine yN cd ⟨⟨rfl,rfl⟩,⟨rfl,rfl⟩,rfl⟩ ?_));all_goals try conv=>whnf
 ·omega
 ·rfl
end Go.Ab
namespace Go.Ab
open Go Go.Proofs
set_option maxRecDepth 10000
set_option maxHeartbeats 4000000
variable {T:Nat→Obj→Prop}
def zg3 (R:List (List (BitVec 64))):List (Nat→BitVec 64):=R.map fun r w=>r.getD w 0#64
end Go.Ab
namespace Go.Ab
def zai (d:Nat):UInt8:=if d < 10 then UInt8.ofNat (48+d) else UInt8.ofNat (87+d)
def zpB (c:UInt8):Nat:=if c.toNat < 58 then c.toNat - 48 else c.toNat - 87
theorem zfq : ∀ d,d < 16→zpB (zai d)=d∧zai d≠32:=by decide
def zdO:Nat→Nat→List UInt8
 | 0,v=>[zai (v % 16)]
 | k+1,v=>if v < 16 then [zai v] else zdO k (v / 16)++[zai (v % 16)]
def zpC (l:List UInt8):Nat:=l.foldl (fun a c=>a * 16+zpB c) 0
theorem zkv : ∀ k v,v < 16 ^ (k+1)→zpC (zdO k v)=v
 | 0,v,h=>by
  have h:v < 16:=by simpa using h
  show 0 * 16+zpB (zai (v % 16))=v
  rw [Nat.mod_eq_of_lt h,(zfq v h).1];omega
 | k+1,v,h=>by
  unfold zdO
  split
  ·rename_i hv
   show 0 * 16+zpB (zai v)=v
   rw [(zfq v hv).1];omega
  ·unfold zpC
   rw [List.foldl_append]
   show zpC (zdO k (v / 16)) * 16+zpB (zai (v % 16))=v
   rw [zkv k (v / 16) (by rw [Nat.pow_succ] at h;omega),(zfq _ (Nat.mod_lt _ (by omega))).1]
   omega
theorem zjg : ∀ k v,(∀ c,c∈zdO k v→c≠32)∧(zdO k v).length≤k+1
 | 0,v=>⟨fun c hc=>by simp only [zdO,List.mem_singleton] at hc;subst hc;exact (zfq _ (Nat.mod_lt _ (by omega))).2,by simp [zdO]⟩
 | k+1,v=>by
  unfold zdO
  split
  ·rename_i hv
   exact ⟨fun c hc=>by simp only [List.mem_singleton] at hc;subst hc;exact (zfq _ hv).2,by simp⟩
  ·obtain ⟨h1,h2⟩:=zjg k (v / 16)
   refine ⟨fun c hc=>?_,by simp;omega⟩
   rcases List.mem_append.1 hc with hc|hc
   ·exact h1 c hc
   ·simp only [List.mem_singleton] at hc;subst hc;exact (zfq _ (Nat.mod_lt _ (by omega))).2
def zga (x:BitVec 64):List UInt8:=zdO 15 x.toNat
theorem zyj {x y:BitVec 64} (h:zga x=zga y):x=y:=by
 have hx:zpC (zga x)=x.toNat:=zkv 15 _ (by have:=x.isLt;simpa using this)
 have hy:zpC (zga y)=y.toNat:=zkv 15 _ (by have:=y.isLt;simpa using this)
 exact BitVec.eq_of_toNat_eq (by rw [← hx,← hy,h])
theorem zuz : ∀ {a b r r':List UInt8},(∀ c,c∈a→c≠32)→(∀ c,c∈b→c≠32)→a++32::r=b++32::r'→a=b∧r=r'
 | [],[],_,_,_,_,h=>⟨rfl,by simpa using h⟩
 | [],y::b,_,_,_,hb,h=>by
  simp only [List.nil_append,List.cons_append,List.cons.injEq] at h
  exact absurd h.1.symm (hb y (by simp))
 | x::a,[],_,_,ha,_,h=>by
  simp only [List.nil_append,List.cons_append,List.cons.injEq] at h
  exact absurd h.1 (ha x (by simp))
 | x::a,y::b,_,_,ha,hb,h=>by
  simp only [List.cons_append,List.cons.injEq] at h
  obtain ⟨rfl,h⟩:=h
  obtain ⟨rfl,h'⟩:=zuz (fun c hc=>ha c (by simp [hc])) (fun c hc=>hb c (by simp [hc])) h
  exact ⟨rfl,h'⟩
def zfO (xs:List (BitVec 64)):List UInt8:=xs.flatMap fun x=>zga x++[32]
theorem zgQ (x:BitVec 64) (xs:List (BitVec 64)):zfO (x::xs)=zga x++32::zfO xs:=by simp [zfO]
theorem zwE (x:BitVec 64) (xs:List (BitVec 64)):zfO (xs++[x])=zfO xs++(zga x++[32]):=by simp [zfO]
theorem zsF : ∀ {xs ys:List (BitVec 64)},zfO xs=zfO ys→xs=ys
 | [],[],_=>rfl
 | [],y::ys,h=>by rw [zgQ] at h;simp [zfO] at h
 | x::xs,[],h=>by rw [zgQ] at h;simp [zfO] at h
 | x::xs,y::ys,h=>by
  rw [zgQ,zgQ] at h
  obtain ⟨h1,h2⟩:=zuz (zjg _ _).1 (zjg _ _).1 h
  rw [zyj h1,zsF h2]
theorem zsG : ∀ xs:List (BitVec 64),(zfO xs).length≤17 * xs.length
 | []=>by simp [zfO]
 | x::xs=>by
  rw [zgQ,List.length_append,List.length_cons,List.length_cons]
  have h1:(zga x).length≤16:=(zjg 15 x.toNat).2
  have:=zsG xs
  omega
end Go.Ab
namespace Go.Ab
open Go Go.Proofs
set_option maxRecDepth 10000
set_option maxHeartbeats 4000000
variable {T:Nat→Obj→Prop}
abbrev KS:=List UInt8
def zdc:Nat→List KS→List (D×D)
 | _,[]=>[]
 | i,x::r=>(.str x,.int .i64 (i:Int))::zdc (i+1) r
def zmm (dl:List KS) (x:KS):List KS:=if x∈dl then dl else dl++[x]
theorem zn8 : ∀ (dl:List KS) (i:Nat),(zdc i dl).length=dl.length
 | [],_=>rfl
 | x::r,i=>by simp [zdc,zn8 r (i+1)]
theorem zns (x:KS) : ∀ (dl:List KS) (i:Nat),zdc i (dl++[x])=zdc i dl++[(.str x,.int .i64 ((i+dl.length:Nat):Int))]
 | [],i=>by simp [zdc]
 | y::r,i=>by
  rw [List.cons_append,zdc,zdc,zns x r (i+1),List.cons_append,List.length_cons,show i+1+r.length=i+(r.length+1) by omega]
theorem zqO (x:KS) : ∀ (dl:List KS) (i:Nat),z6 (zdc i dl) (.str x)=some (if x∈dl then some (.int .i64 ((i+dl.idxOf x:Nat):Int)) else none)
 | [],i=>by simp [zdc,z6]
 | y::r,i=>by
  have ih:=zqO x r (i+1)
  show (match some (decide (x=y)) with
   | some true=>some (some (D.int .i64 (i:Int)))
   | some false=>z6 (zdc (i+1) r) (.str x)
   | none=>none)=_
  by_cases e:x=y
  ·subst e;simp
  ·rw [decide_eq_false e]
   show z6 (zdc (i+1) r) (.str x)=_
   rw [ih,List.idxOf_cons]
   have:(y==x)=false:=by simp [Ne.symm e]
   rw [this]
   by_cases hm:x∈r
   ·rw [if_pos hm,if_pos (List.mem_cons_of_mem _ hm)]
    show some (some (D.int .i64 _))=some (some (D.int .i64 _))
    congr 4
    simp only [cond_false]
    omega
   ·rw [if_neg hm,if_neg (by simp [e,hm])]
def zee (bl:Nat→KS) (k:Nat):List KS:=(List.range k).foldl (fun l w=>zmm l (bl w)) []
theorem zgR (bl:Nat→KS) (k:Nat):zee bl (k+1)=zmm (zee bl k) (bl k):=by
 unfold zee;rw [List.range_succ,List.foldl_append];rfl
theorem zk1 (l:List KS) (x:KS):(∃ t,zmm l x=l++t)∧x∈zmm l x∧(zmm l x).length≤l.length+1:=by
 unfold zmm
 split
 ·rename_i h;exact ⟨⟨[],by simp⟩,h,by omega⟩
 ·exact ⟨⟨[x],rfl⟩,by simp,by simp⟩
theorem zsJ (bl:Nat→KS) : ∀ k,(zee bl k).length≤k
 | 0=>by simp [zee]
 | k+1=>by
  rw [zgR]
  have:=(zk1 (zee bl k) (bl k)).2.2
  have:=zsJ bl k
  omega
theorem zsK (bl:Nat→KS) {k:Nat} : ∀ m,k≤m → ∃ t,zee bl m=zee bl k++t
 | 0,h=>⟨[],by have:k=0:=Nat.le_zero.1 h;subst this;simp⟩
 | m+1,h=>by
  by_cases e:k=m+1
  ·exact ⟨[],by rw [e];simp⟩
  ·obtain ⟨t,ht⟩:=zsK bl (k:=k) m (by omega)
   obtain ⟨⟨t',ht'⟩,-⟩:=zk1 (zee bl m) (bl m)
   exact ⟨t++t',by rw [zgR,ht',ht];simp⟩
def zdP (bl:Nat→KS) (w:Nat):Nat:=(zee bl (w+1)).idxOf (bl w)
theorem zur (bl:Nat→KS) {w m:Nat} (h:w < m):zdP bl w=(zee bl m).idxOf (bl w)∧bl w∈zee bl m:=by
 obtain ⟨t,ht⟩:=zsK bl (k:=w+1) m (by omega)
 have hm:bl w∈zee bl (w+1):=by rw [zgR];exact (zk1 _ _).2.1
 rw [ht]
 exact ⟨by rw [List.idxOf_append,if_pos hm];rfl,List.mem_append_left _ hm⟩
theorem zym (bl:Nat→KS) {v w n:Nat} (hv:v < n) (hw:w < n):zdP bl v=zdP bl w↔bl v=bl w:=by
 obtain ⟨h1,m1⟩:=zur bl hv
 obtain ⟨h2,m2⟩:=zur bl hw
 rw [h1,h2]
 constructor
 ·intro h
  have g1:=List.getElem_idxOf (List.idxOf_lt_length_of_mem m1)
  have g2:=List.getElem_idxOf (List.idxOf_lt_length_of_mem m2)
  rw [← g1,← g2]
  congr 1
 ·intro h;rw [h]
def zeI (R:List (List (BitVec 64))) (q:Nat→Nat) (n w:Nat):KS:=zfO (R.map fun r=>zaK q (r.getD w 0#64) n)
theorem zxU {R:List (List (BitVec 64))} {q:Nat→Nat} {n v w:Nat} : zeI R q n v=zeI R q n w ↔ ∀ r∈R,zaK q (r.getD v 0#64) n=zaK q (r.getD w 0#64) n:=by
 unfold zeI
 constructor
 ·intro h
  have:=zsF h
  exact List.map_inj_left.1 this
 ·intro h
  rw [List.map_congr_left h]
theorem zvH {R:List (List (BitVec 64))} {q:Nat→Nat} {n w:Nat} (hw:w < n):zW (zgB (ptL n q) (ptL n (zdP (zeI R q n)))) w=zbq n (zg3 R) q w:=by
 refine zhX fun v hv=>?_
 have h1:at0 (ptL n q) v=((q v:Nat):Int):=zc5 (za3 (by omega))
 have h2:at0 (ptL n q) w=((q w:Nat):Int):=zc5 (za3 hw)
 have h3:at0 (ptL n (zdP (zeI R q n))) v=((zdP (zeI R q n) v:Nat):Int):=zc5 (za3 (by omega))
 have h4:at0 (ptL n (zdP (zeI R q n))) w=((zdP (zeI R q n) w:Nat):Int):=zc5 (za3 hw)
 unfold zgB
 rw [h1,h2,h3,h4]
 have e2:=zym (zeI R q n) (v:=v) (w:=w) (n:=n) (by omega) hw
 rw [zxU] at e2
 rw [Bool.eq_iff_iff,decide_eq_true_eq]
 rw [show (((q v:Nat):Int)=((q w:Nat):Int))↔q v=q w by omega]
 rw [show (((zdP (zeI R q n) v:Nat):Int)=((zdP (zeI R q n) w:Nat):Int))↔zdP (zeI R q n) v=zdP (zeI R q n) w by omega,e2]
 unfold zfV zg3
 simp [List.all_eq_true]
def zpI (q:Nat→Nat) (l:List Nat):BitVec 64:=l.foldl (fun o w=>o|||1#64 <<< q w) 0#64
theorem zv2 {q:Nat→Nat} {l:List Nat} {i w:Nat} (h:l[i]? = some w):zpI q (l.take (i+1))=zpI q (l.take i)|||1#64 <<< q w:=by
 rw [List.take_add_one,h];simp [zpI]
theorem zrR {s:BitVec 64} {n:Nat} (hn:n≤64) (h : ∀ i,s.getLsbD i=true→i < n):zt s=(List.range n).filter fun i=>s.getLsbD i:=by
 unfold zt
 have e:List.range 64=List.range n++(List.range (64 - n)).map (n + ·):=by
  rw [← List.range_add];congr 1;omega
 rw [e,List.filter_append,show ((List.range (64 - n)).map (n + ·)).filter (fun i=>s.getLsbD i)=[] from ?_,List.append_nil]
 rw [List.filter_eq_nil_iff]
 intro a ha
 obtain ⟨b,-,rfl⟩:=List.mem_map.1 ha
 intro h1
 have:=h _ h1
 omega
theorem zv1 {q:Nat→Nat} {s:BitVec 64} {n:Nat} (hn:n≤64) (h : ∀ i,s.getLsbD i=true→i < n):zpI q (zt s)=zaK q s n:=by
 rw [zrR hn h]
 unfold zpI zaK
 rw [List.foldl_filter]
end Go.Ab
namespace Go.Ab
theorem ze3 {q:Nat→Nat} {s:BitVec 64} {j:Nat} : ∀ {k:Nat},(∀ w,w < k→q w < 64)→((zaK q s k).getLsbD j=true ↔ ∃ w,w < k∧s.getLsbD w=true∧q w=j)
 | 0,_=>by simp [zaK]
 | k+1,h=>by
  have ih:=ze3 (q:=q) (s:=s) (j:=j) (k:=k) fun w hw=>h w (by omega)
  rw [zgG]
  split
  ·rename_i hs
   rw [zpj (h k (by omega)),ih]
   constructor
   ·rintro (⟨w,h1,h2,h3⟩|rfl)
    ·exact ⟨w,by omega,h2,h3⟩
    ·exact ⟨k,by omega,hs,rfl⟩
   ·rintro ⟨w,h1,h2,h3⟩
    by_cases e:w=k
    ·subst e;exact .inr h3.symm
    ·exact .inl ⟨w,by omega,h2,h3⟩
  ·rename_i hs
   rw [ih]
   constructor
   ·rintro ⟨w,h1,h2,h3⟩;exact ⟨w,by omega,h2,h3⟩
   ·rintro ⟨w,h1,h2,h3⟩
    by_cases e:w=k
    ·subst e;exact absurd h2 hs
    ·exact ⟨w,by omega,h2,h3⟩
def zU (m:KM) (q:Nat→Nat):KM :=
 ⟨(zu m.W.toNat q:Nat),m.val.map fun s=>zaA (fun k=>s.getLsbD ((zaD m.W.toNat q).getD k 0)) (zu m.W.toNat q),
  m.rel.map fun r=>(List.range (zu m.W.toNat q)).map fun i=>zaA (fun j=>zaL m.W.toNat q (fun v w=>rb r v w) i j) (zu m.W.toNat q)⟩
def zuQ (m:KM) (q:Nat→Nat):Prop := ∀ w,w < m.W.toNat→zz m w=zz m (q w)
theorem zx9 {m:KM} {q:Nat→Nat} (h:zuQ m q) {w:Nat} (hw:w < m.W.toNat) {s:BitVec 64} (hs:s∈m.val):s.getLsbD w=s.getLsbD (q w):=by
 obtain ⟨i,hi⟩:=List.mem_iff_getElem?.1 hs
 have hil:=(List.getElem?_eq_some_iff.1 hi).1
 have e:zaG m.val w m.val.length=zaG m.val (q w) m.val.length:=Int.ofNat_inj.1 (h w hw)
 have h1:=zgO m.val w (i:=i) m.val.length
 have h2:=zgO m.val (q w) (i:=i) m.val.length
 rw [e] at h1
 rw [show m.val.getD i 0#64=s by simp [List.getD,hi]] at h1 h2
 rw [Bool.eq_iff_iff]
 exact ⟨fun h=>(h2.1 (h1.2 ⟨hil,h⟩)).2,fun h=>(h1.1 (h2.2 ⟨hil,h⟩)).2⟩
section
variable {m:KM} {q:Nat→Nat} (hq:zaC m.W.toNat q) (hn:m.W.toNat≤64)
include hq hn
theorem zuu {w:Nat} (hw:w < m.W.toNat):zJ q w < 64:=by
 have h1:=zcq hq hw
 have h2:=zcp m.W.toNat q
 omega
theorem zAl (hf:zuQ m q) {s:BitVec 64} (hs:s∈m.val):zaK (zJ q) s m.W.toNat=zaA (fun k=>s.getLsbD ((zaD m.W.toNat q).getD k 0)) (zu m.W.toNat q):=by
 have hc:=zcp m.W.toNat q
 refine BitVec.eq_of_getLsbD_eq fun j _=>?_
 rw [Bool.eq_iff_iff,ze3 (fun w hw=>zuu hq hn hw),zdi (by omega)]
 constructor
 ·rintro ⟨w,h1,h2,rfl⟩
  refine ⟨zcq hq h1,?_⟩
  rw [List.getD,zgk hq h1]
  show s.getLsbD (q w)=true
  rw [← zx9 hf h1 hs];exact h2
 ·rintro ⟨h1,h2⟩
  obtain ⟨u,u1,u2,u3,u4⟩:=zei hq h1
  rw [List.getD,u1] at h2
  exact ⟨u,u2,h2,u4⟩
def zd1 (q:Nat→Nat) (n:Nat) (r:List (BitVec 64)):Nat→Nat→BitVec 64
 | 0,_=>0#64
 | k+1,i=>if zJ q k=i then zd1 q n r k i|||zaK (zJ q) (r.getD k 0#64) n else zd1 q n r k i
omit hq hn in
theorem zrI {n:Nat} {r:List (BitVec 64)} (h64 : ∀ w,w < n→zJ q w < 64) {i j:Nat} : ∀ {k:Nat},(zd1 q n r k i).getLsbD j=true ↔ ∃ v w,v < k∧w < n∧zJ q v=i∧zJ q w=j∧rb r v w=true
 | 0=>by simp [zd1]
 | k+1=>by
  have ih:=zrI (r:=r) h64 (i:=i) (j:=j) (k:=k)
  unfold zd1
  split
  ·rename_i he
   rw [BitVec.getLsbD_or,Bool.or_eq_true,ih,ze3 h64]
   constructor
   ·rintro (⟨v,w,h1,h2,h3,h4,h5⟩|⟨w,h1,h2,h3⟩)
    ·exact ⟨v,w,by omega,h2,h3,h4,h5⟩
    ·exact ⟨k,w,by omega,h1,he,h3,h2⟩
   ·rintro ⟨v,w,h1,h2,h3,h4,h5⟩
    by_cases e:v=k
    ·subst e;exact .inr ⟨w,h2,h5,h4⟩
    ·exact .inl ⟨v,w,by omega,h2,h3,h4,h5⟩
  ·rename_i he
   rw [ih]
   constructor
   ·rintro ⟨v,w,h1,h2,h3,h4,h5⟩;exact ⟨v,w,by omega,h2,h3,h4,h5⟩
   ·rintro ⟨v,w,h1,h2,h3,h4,h5⟩
    by_cases e:v=k
    ·subst e;exact absurd h3 he
    ·exact ⟨v,w,by omega,h2,h3,h4,h5⟩
theorem zAk (r:List (BitVec 64)) (i:Nat):zd1 q m.W.toNat r m.W.toNat i=zaA (fun j=>zaL m.W.toNat q (fun v w=>rb r v w) i j) (zu m.W.toNat q):=by
 have hc:=zcp m.W.toNat q
 refine BitVec.eq_of_getLsbD_eq fun j _=>?_
 rw [Bool.eq_iff_iff,zrI (fun w hw=>zuu hq hn hw),zdi (by omega),zbf]
 constructor
 ·rintro ⟨v,w,h1,h2,h3,h4,h5⟩
  exact ⟨by rw [← h4];exact zcq hq h2,v,w,h1,h2,h3,h4,h5⟩
 ·rintro ⟨-,v,w,h1,h2,h3,h4,h5⟩
  exact ⟨v,w,h1,h2,h3,h4,h5⟩
end
theorem zxZ {n:Nat} {q:Nat→Nat} (hq:zaC n q) (hn:0 < n):0 < zu n q:=by
 unfold zu
 have h0:q 0=0:=by have:=hq.le 0 hn;omega
 exact List.length_pos_of_mem (List.mem_filter.2 ⟨List.mem_range.2 hn,by simp [h0]⟩)
theorem zkn {m:KM} {q:Nat→Nat} (hm:zfu m) (hq:zaC m.W.toNat q):zfu (zU m q):=by
 have w1:=hm.w1
 have w2:=hm.w2
 have hc:=zcp m.W.toNat q
 have hp:=zxZ hq (by omega)
 have hset : ∀ f,bad (zu m.W.toNat q:Nat) (zaA f (zu m.W.toNat q))=false:=fun f=>by
  rw [zeq (by omega)]
  intro i hi
  have:=((zdi (by omega)).1 hi).1
  omega
 refine ⟨by show (1:Int)≤(zu m.W.toNat q:Nat);omega,by show ((zu m.W.toNat q:Nat):Int)≤64;omega,by have:=hm.n4;simpa [zU] using this,by have:=hm.v8;simpa [zU] using this,fun r hr=>?_,fun s hs=>?_,fun r hr s hs=>?_⟩
 ·obtain ⟨r',-,rfl⟩:=List.mem_map.1 hr;simp [zU]
 ·obtain ⟨s',-,rfl⟩:=List.mem_map.1 hs;exact hset _
 ·obtain ⟨r',-,rfl⟩:=List.mem_map.1 hr
  obtain ⟨i,-,rfl⟩:=List.mem_map.1 hs
  exact hset _
theorem zl0 {m:KM} {q:Nat→Nat} (hc:za m=0) (hq:zaC m.W.toNat q):za (zU m q)=0:=zo2 (zkn (zk hc) hq)
theorem zmC {m:KM} {q:Nat→Nat} (hn:m.W.toNat≤64) {i:Nat} {r r':Nat→Nat→Bool} (h:(zf (zU m q))[i]? = some r) (h':((zf m).map (zaL m.W.toNat q))[i]? = some r') {v w:Nat} (hv:v < zu m.W.toNat q) (hw:w < zu m.W.toNat q):r v w=r' v w:=by
 have hc:=zcp m.W.toNat q
 unfold zf zU at h
 unfold zf at h'
 rw [List.map_map,List.getElem?_map,Option.map_eq_some_iff] at h
 rw [List.map_map,List.getElem?_map,Option.map_eq_some_iff] at h'
 obtain ⟨a,ha,rfl⟩:=h
 obtain ⟨b,hb,rfl⟩:=h'
 rw [ha] at hb;cases hb
 show (((List.range (zu m.W.toNat q)).map fun i=>zaA (fun j=>zaL m.W.toNat q (fun v w=>rb a v w) i j) (zu m.W.toNat q)).getD v 0#64).getLsbD w=zaL m.W.toNat q (fun v w=>rb a v w) v w
 rw [show ((List.range (zu m.W.toNat q)).map fun i=>zaA (fun j=>zaL m.W.toNat q (fun v w=>rb a v w) i j) (zu m.W.toNat q)).getD v 0#64=zaA (fun j=>zaL m.W.toNat q (fun v w=>rb a v w) v j) (zu m.W.toNat q) by simp [List.getD,hv]]
 rw [Bool.eq_iff_iff,zdi (by omega)]
 exact ⟨fun h=>h.2,fun h=>⟨hw,h⟩⟩
theorem zyK {m:KM} {q:Nat→Nat} (hn:m.W.toNat≤64):zgW (zu m.W.toNat q) (fun w=>w) ((zf m).map (zaL m.W.toNat q)) (zf (zU m q)) :=
 ⟨by simp [zf,zU],fun i r r' h1 h2 v w hv hw=>zmC hn h2 h1 hv hw⟩
theorem zqu (vl:List (BitVec 64)) {f:BitVec 64→BitVec 64} {i u:Nat} (h : ∀ s∈vl,(f s).getLsbD i=s.getLsbD u) : ∀ k,zaG (vl.map f) i k=zaG vl u k
 | 0=>rfl
 | k+1=>by
  rw [zaG,zaG,zqu vl h k]
  have e:((vl.map f).getD k 0#64).getLsbD i=(vl.getD k 0#64).getLsbD u:=by
   simp only [List.getD,List.getElem?_map]
   cases hk:vl[k]? with
   | none=>simp
   | some s=>exact h s (List.mem_of_getElem? hk)
  rw [e]
theorem zqb {m:KM} {q:Nat→Nat} (hn:m.W.toNat≤64) {i:Nat} (hi:i < zu m.W.toNat q):zz (zU m q) i=zgm m.W.toNat q (zz m) i:=by
 have hc:=zcp m.W.toNat q
 unfold zz zgm zU
 rw [List.length_map,zqu m.val (u:=(zaD m.W.toNat q).getD i 0) fun s hs=>?_]
 rw [Bool.eq_iff_iff,zdi (by omega)]
 exact ⟨fun h=>h.2,fun h=>⟨hi,h⟩⟩
def zak (m:KM):Nat→Nat→Nat:=zbB m.W.toNat (zg3 m.rel) (zW (zbd (zz m)))
def cq (m:KM):Nat→Nat:=zak m m.W.toNat
theorem zfU (m:KM) (k:Nat):zaC m.W.toNat (zak m k):=znq (zef (zbS (zz m)) m.W.toNat) k
theorem zcR (m:KM):zaC m.W.toNat (cq m):=zfU m _
theorem zog (m:KM) : ∀ k w,w < m.W.toNat→zz m (zak m k w)=zz m w
 | 0,w,hw=>by
  have:=zn3 (zbS (zz m)) w
  show zz m (zW (zbd (zz m)) w)=zz m w
  simpa [zbd] using this
 | k+1,w,hw=>by
  have h1:=zqi (rels:=zg3 m.rel) (zfU m k) hw
  have h2:=(zfU m (k+1)).le w hw
  have h3:=zog m k (zak m (k+1) w) (by omega)
  have h4:=zog m k w hw
  rw [← h3,← h4]
  exact congrArg (zz m) h1
theorem zr1 (m:KM):zuQ m (cq m):=fun w hw=>(zog m _ w hw).symm
theorem zv9 (m:KM) (hn:0 < m.W.toNat) {j:Nat} (hj:m.W.toNat≤j) {w:Nat} (hw:w < m.W.toNat):zak m j w=cq m w:=zwC (zef (zbS (zz m)) m.W.toNat) hn hj hw
theorem zug {m:KM} {k:Nat} (hn:0 < m.W.toNat) (h:ptL m.W.toNat (zak m (k+1))=ptL m.W.toNat (zak m k)):ptL m.W.toNat (zak m k)=ptL m.W.toNat (cq m):=by
 have hst : ∀ w,w < m.W.toNat→zak m (k+1) w=zak m k w:=fun w hw=>zAg h hw
 refine ziw fun w hw=>?_
 by_cases hk:k≤m.W.toNat
 ·exact (zka (zef (zbS (zz m)) m.W.toNat) hst _ hk w hw).symm
 ·exact zv9 m hn (by omega) hw
theorem zzQ {m:KM} {k:Nat} (hn : ∀ i,i < k→ptL m.W.toNat (zak m (i+1))≠ptL m.W.toNat (zak m i)):k≤m.W.toNat:=by
 have h1:=zj9 (rels:=zg3 m.rel) (zef (zbS (zz m)) m.W.toNat) (k:=k) (fun i hi=>by
  refine Classical.byContradiction fun hne=>hn i hi (ziw fun w hw=>?_)
  exact Classical.byContradiction fun hw'=>hne ⟨w,hw,hw'⟩) k (Nat.le_refl _)
 have h2:=zcp m.W.toNat (zbB m.W.toNat (zg3 m.rel) (zW (zbd (zz m))) k)
 omega
end Go.Ab
namespace Go.Ab
theorem zs6 {m:KM} {f:Nat→BitVec 64} : f∈zg3 m.rel ↔ ∃ r∈m.rel,f=fun w=>r.getD w 0#64:=by
 unfold zg3
 rw [List.mem_map]
 exact ⟨fun ⟨r,a,b⟩=>⟨r,a,b.symm⟩,fun ⟨r,a,b⟩=>⟨r,a,b.symm⟩⟩
theorem zs7 {m:KM} {f:Nat→Nat→Bool} : f∈zf m ↔ ∃ r∈m.rel,f=fun v w=>rb r v w:=by
 unfold zf
 rw [List.mem_map]
 exact ⟨fun ⟨r,a,b⟩=>⟨r,a,b.symm⟩,fun ⟨r,a,b⟩=>⟨r,a,b.symm⟩⟩
theorem zrS {n:Nat} {q:Nat→Nat} (hq:zaC n q) (hn:n≤64) {s t:BitVec 64} : zaK q s n=zaK q t n ↔ ∀ x:Nat,(∃ u,u < n∧s.getLsbD u=true∧q u=x) ↔ ∃ u,u < n∧t.getLsbD u=true∧q u=x:=by
 have h64 : ∀ w,w < n→q w < 64:=fun w hw=>by have:=hq.le w hw;omega
 constructor
 ·intro h x
  rw [← ze3 h64,← ze3 h64,h]
 ·intro h
  refine BitVec.eq_of_getLsbD_eq fun j _=>?_
  rw [Bool.eq_iff_iff,ze3 h64,ze3 h64]
  exact h j
theorem ztj {m:KM} {q:Nat→Nat} (hq:zaC m.W.toNat q) (hn:m.W.toNat≤64) {v w:Nat} : zfV m.W.toNat (zg3 m.rel) q v w=true↔zY m.W.toNat (zf m) q v=zY m.W.toNat (zf m) q w:=by
 unfold zfV
 rw [zbY,Bool.and_eq_true,decide_eq_true_eq,List.all_eq_true]
 refine and_congr Iff.rfl ⟨fun h r hr x=>?_,fun h f hf=>?_⟩
 ·obtain ⟨r',hr',rfl⟩:=zs7.1 hr
  have:=h _ (zs6.2 ⟨r',hr',rfl⟩)
  rw [decide_eq_true_eq,zrS hq hn] at this
  exact this x
 ·obtain ⟨r',hr',rfl⟩:=zs6.1 hf
  rw [decide_eq_true_eq,zrS hq hn]
  exact h _ (zs7.2 ⟨r',hr',rfl⟩)
theorem ziV {m:KM} (h0:0 < m.W.toNat) (hn:m.W.toNat≤64):zie m.W.toNat (zf m) (zz m) (cq m) where
 canon:=zcR m
 stab:=fun v w hv hw e=>by
  have hc:=zcR m
  have h1 : ∀ u,u < m.W.toNat→zbq m.W.toNat (zg3 m.rel) (cq m) u=cq m u:=fun u hu=>zv9 m h0 (Nat.le_succ _) hu
  refine (ztj hc hn).1 ((zjn (ziy _ _ _)).1 ?_)
  show zbq m.W.toNat (zg3 m.rel) (cq m) v=zbq m.W.toNat (zg3 m.rel) (cq m) w
  rw [h1 v hv,h1 w hw,e]
 fac:=fun v w hv hw e=>by
  rw [zr1 m v hv,zr1 m w hw,e]
theorem zjD {m:KM} (hn:m.W.toNat≤64) {Z:Nat→Nat→Prop} (B:zch m.W.toNat m.W.toNat (zf m) (zf m) (zz m) (zz m) Z) : ∀ (k v w:Nat),Z v w→zak m k v=zak m k w
 | 0,v,w,hz=>zpV.2 (B.fac hz)
 | k+1,v,w,hz=>by
  refine (zjn (ziy _ _ _)).2 ((ztj (zfU m k) hn).2 (zbY.2 ⟨zjD hn B k v w hz,fun r hr x=>?_⟩))
  obtain ⟨i,hi⟩:=List.mem_iff_getElem?.1 hr
  constructor
  ·rintro ⟨u,a,b,rfl⟩
   obtain ⟨u',c,d,e⟩:=B.forth hi hi hz a b
   exact ⟨u',c,d,(zjD hn B k u u' e).symm⟩
  ·rintro ⟨u,a,b,rfl⟩
   obtain ⟨u',c,d,e⟩:=B.back hi hi hz a b
   exact ⟨u',c,d,zjD hn B k u' u e⟩
theorem zAT {m:KM} (h0:0 < m.W.toNat) (hn:m.W.toNat≤64) {w:Nat} (hw:w < m.W.toNat):cq m w=coa m.W.toNat (zf m) (zz m) w:=by
 have S:=ziV h0 hn
 have S':=zdp m.W.toNat (zf m) (zz m)
 rw [← zjU S.canon hw,← zjU S'.canon hw]
 refine zhX fun v hv=>?_
 unfold zbd
 rw [Bool.eq_iff_iff,decide_eq_true_eq,decide_eq_true_eq]
 exact ⟨fun e=>ziU S.bis ⟨by omega,hw,e⟩,fun e=>zjD hn S'.bis _ v w ⟨by omega,hw,e⟩⟩
end Go.Ab
namespace Go.Ab
open Go Go.Proofs
set_option maxRecDepth 10000
set_option maxHeartbeats 4000000
variable {T:Nat→Obj→Prop}
def zfv (T:Nat→Obj→Prop):Prop := ∀ x:BitVec 64,Fn Tryz.prog T zdv [.d (.u64 x),.d (.int .i64 16)] [] (.d (.str (zga x))) []
theorem ziF (hT:za0 T) (s:BitVec 64):It Tryz.prog T zcZ [.ptr 0 0] [.box [.d (.u64 s)]] (zer s):=by
 refine zqG zx zmT rfl (by show 2≤14;decide) fun l=>?_
 (repeat' ((conv=>whnf);refine vT ?_));all_goals try conv=>whnf
 refine zq (fun (s':BitVec 64)=>[(0,.yld l),(1,.ptr 0 0)]) (fun (s':BitVec 64)=>[(0,some (.box [.d (.u64 s')])),(1,some (.todo (some (zer s'))))]) 2 (fun (s':BitVec 64)=>True) (fun (s':BitVec 64)=>(zt s').length) (s) [(0,0),(1,1)] [] (trivial) (by (refine ⟨rfl,rfl,rfl,?_,?_⟩;repeat' first|exact trivial|exact rfl|refine And.intro ?_ ?_|refine ⟨_,rfl,?_⟩|decide)) ?_
 rintro s' -
 (repeat' ((conv=>whnf);first|refine vA ?_|(refine vD ?_ ?_<;>intro hc)|refine vT ?_|refine yD (hT _) (by (repeat refine ⟨⟨rfl,rfl⟩,?_⟩);rfl) rfl ?_));all_goals try conv=>whnf
 ·have hd:zer s'=[D.int .i64 (Lib.ctz 64 s'.toNat:Int)]::zer (s'&&&(s' - 1#64)):=by
   rw [zer,zdJ s' hc];rfl
  refine ⟨rfl,[.int .i64 (Lib.ctz 64 s'.toNat)],zer (s'&&&(s' - 1#64)),congrArg (fun l=>some (Ob.todo (some l))) hd,rfl,rfl,rfl,?_,?_⟩
  ·(repeat' ((conv=>whnf);first|refine vE ?_|refine vG ?_|refine vT ?_));all_goals try conv=>whnf
   refine ⟨s'&&&(s' - 1#64),[(0,0),(1,1)],[],trivial,?_,⟨rfl,rfl,rfl,by (repeat' first|exact trivial|exact rfl|refine And.intro ?_ ?_|refine ⟨_,rfl,?_⟩),by (repeat' first|exact trivial|exact rfl|refine And.intro ?_ ?_|refine ⟨_,rfl,?_⟩|decide)⟩⟩
   show (zt (s'&&&(s' - 1#64))).length < (zt s').length
   rw [zdJ s' hc];simp
  ·(repeat' ((conv=>whnf);first|refine vE ?_|refine vH ?_|refine vT ?_));all_goals try conv=>whnf
   right;rfl
 ·left
  have:s'=0#64:=hc
  subst this
  exact congrArg (fun l:List Nat=>some (Ob.todo (some (l.map fun (i:Nat)=>[D.int .i64 (i:Int)])))) zdK
theorem ziD (s:BitVec 64):Fn Tryz.prog T zih [.d (.u64 s)] [] (.fn zcZ [.ptr 0 0]) [some (.box [.d (.u64 s)])]:=by
 refine zat zx zo7 (by show 1≤4;decide) _ (fun e env mem n h=>h) ?_
 (repeat' ((conv=>whnf);refine vT ?_));all_goals try conv=>whnf
 exact ⟨trivial,_,[(0,0)],[],rfl,.inl (by (repeat' first|exact rfl|refine And.intro ?_ ?_|refine ⟨_,rfl,?_⟩)),⟨rfl,rfl,rfl,trivial,by (repeat' first|exact trivial|exact rfl|refine And.intro ?_ ?_|refine ⟨_,rfl,?_⟩|exact of_decide_eq_true rfl)⟩,trivial⟩
theorem ztL (hT:za0 T) {n:Nat} {q:Nat→Nat} (hn:n≤64) (s:BitVec 64) (hs : ∀ i,s.getLsbD i=true→i < n):Fn Tryz.prog T zii [.d (dI (ptL n q)),.d (.u64 s)] [] (.d (.u64 (zaK q s n))) []:=by
 refine zg zx zo8 (by show 2≤18;decide) ?_
 (repeat' ((conv=>whnf);first|refine vA ?_|refine vT ?_));all_goals try conv=>whnf
 refine zaa.res (ziD s) (by (repeat refine ⟨⟨rfl,rfl⟩,?_⟩);rfl) ?_
 (repeat' ((conv=>whnf);refine vT ?_));all_goals try conv=>whnf
 refine zfn (ziF hT s) [2] [] (by first|((repeat refine ⟨⟨rfl,rfl⟩,?_⟩);rfl)|(repeat' first|exact rfl|refine And.intro ?_ ?_|refine ⟨_,rfl,?_⟩)) (by (repeat' first|exact rfl|refine And.intro ?_ ?_|refine ⟨_,rfl,?_⟩)) (by rfl) (by rfl) [(2,.ptr 0 0),(5,.ptr 1 0)] (fun (o:BitVec 64)=>[(0,some (.box [.d (dI (ptL n q))])),(1,some (.box [.d (.u64 o)]))]) 2 (fun i (o:BitVec 64)=>o=zpI q ((zt s).take i)) (0#64) [(0,0),(1,1)] [] (rfl) (by (refine ⟨rfl,rfl,rfl,?_,?_⟩;repeat' first|exact trivial|exact rfl|refine And.intro ?_ ?_|refine ⟨_,rfl,?_⟩|decide)) ?_ ?_
 ·intro i x o hx ho
  obtain ⟨w,hw,rfl,hsw,hw64⟩:=zfh hx
  have hwr:=hs w hsw
  have e1:(ptL n q)[w]? = some ((q w:Nat):Int):=za3 hwr
  refine ⟨rfl,?_⟩
  (repeat' ((conv=>whnf);first|refine vT ?_|refine vN ‹_› ?_|(refine vP ?_ ?_;·omega)|(refine vU ?_ ?_;·kernel_rfl)|fail));all_goals try conv=>whnf
  ·exact ⟨o|||1#64 <<< q w,[(0,0),(1,1)],[],by rw [ho,zv2 hw],by (refine ⟨rfl,rfl,rfl,?_,?_⟩;repeat' first|exact trivial|exact rfl|refine And.intro ?_ ?_|refine ⟨_,rfl,?_⟩|decide)⟩
  all_goals omega
 ·intro o ho
  (repeat' ((conv=>whnf);first|refine vT ?_|refine vY ?_));all_goals try conv=>whnf
  rw [ho,List.length_map,List.take_length,zv1 hn hs]
def zen (m:KM) (N i:Nat):List (List D):=((List.range (N+1)).drop i).map fun j=>[dI (ptL m.W.toNat (zak m j))]
theorem zqX {m:KM} {N i:Nat} (h:i≤N):zen m N i=[dI (ptL m.W.toNat (zak m i))]::zen m N (i+1):=by
 unfold zen
 rw [List.drop_eq_getElem_cons (by simp;omega)];simp
theorem zyS {m:KM} {N i:Nat} (h:N < i):zen m N i=[]:=by
 unfold zen
 rw [List.drop_eq_nil_of_le (by simp;omega)];rfl
def zgx (m:KM):List Int:=(List.range m.W.toNat).map (zz m)
theorem zul {m:KM} {w:Nat} (h:w < m.W.toNat):(zgx m)[w]? = some (zz m w):=by simp [zgx,h]
theorem zxC (n:Nat):zaC n (fun _=>0):=⟨fun w _=>Nat.zero_le w,fun w _=>rfl⟩
theorem zvc (m:KM) {w:Nat} (hw:w < m.W.toNat):zW (zgB (ptL m.W.toNat fun _=>0) (zgx m)) w=zak m 0 w:=by
 refine zhX fun v hv=>?_
 have h1:at0 (ptL m.W.toNat fun _=>0) v=0:=zc5 (za3 (q:=fun _=>0) (by omega))
 have h2:at0 (ptL m.W.toNat fun _=>0) w=0:=zc5 (za3 (q:=fun _=>0) hw)
 have h3:at0 (zgx m) v=zz m v:=zc5 (zul (by omega))
 have h4:at0 (zgx m) w=zz m w:=zc5 (zul hw)
 unfold zgB zbd
 rw [h1,h2,h3,h4]
 simp
theorem zwq (m:KM) (h64:m.W.toNat≤64):Fn Tryz.prog T zc1 [.d (.arr 1 (List.replicate m.W.toNat (D.int .i64 0))),.d (dI (zgx m))] [] (.d (.tup [dI (ptL m.W.toNat (zak m 0)),.int .i64 0])) []:=by
 have cs:=zsr (T:=T) (zxC m.W.toNat) h64 (zgx m) (by simp [zgx])
 rwa [show dI (ptL m.W.toNat fun _=>0)=D.arr 1 (List.replicate m.W.toNat (D.int .i64 0)) by show D.arr 1 ((ptL m.W.toNat fun _=>0).map (D.int .i64))=_;unfold ptL;rw [List.map_map];exact congrArg _ (zad _ _).symm,ziw fun w hw=>zvc m hw] at cs
theorem zwk (m:KM) (h64:m.W.toNat≤64) (i:Nat):Fn Tryz.prog T zc1 [.d (dI (ptL m.W.toNat (zak m i))),.d (dI (ptL m.W.toNat (zdP (zeI m.rel (zak m i) m.W.toNat))))] [] (.d (.tup [dI (ptL m.W.toNat (zak m (i+1))),.int .i64 0])) []:=by
 have cs:=zsr (T:=T) (zfU m i) h64 (ptL m.W.toNat (zdP (zeI m.rel (zak m i) m.W.toNat))) zbx
 rwa [ziw fun w hw=>zvH hw] at cs
theorem zks {α:Type} {n w:Nat} {f:Nat→D} {g:Nat→D} {d:D} (hd:d=f w):(((List.range n).map fun u=>if u < w then f u else g u).set w d)=(List.range n).map fun u=>if u < w+1 then f u else g u:=by
 refine (zdj _).trans (zD fun u hu=>?_)
 by_cases e:u=w
 ·subst e;rw [if_pos rfl,if_pos (by omega),hd]
 ·rw [if_neg e]
  by_cases e2:u < w
  ·rw [if_pos e2,if_pos (by omega)]
  ·rw [if_neg e2,if_neg (by omega)]
theorem zwB (hT:za0 T) (hX:zfv T) {m:KM} (hk0:za m=0) (N:Nat):ItF Tryz.prog T false zdu [.ptr 0 0,.ptr 1 0] [zar m,.box [.d (dUU m.rel)]] (zen m N 0):=by
 have hg0:=zk hk0
 have w1:=hg0.w1
 have w2:=hg0.w2
 have n4:=hg0.n4
 have h64:m.W.toNat≤64:=by omega
 refine zo5 zx znY rfl (by show 3≤93;decide) fun l=>?_
 (repeat' ((conv=>whnf);first|refine vA ?_|refine vK fun hg=>?_|refine vT ?_|(refine vP ?_ ?_;·omega)|fail));all_goals try conv=>whnf
 refine zq (fun ((w,zs):Nat×List D)=>[(0,.yld l),(1,.ptr 0 0),(2,.ptr 1 0),(4,.own 3),(5,.own 4),(22,.d (.int .i64 ((List.replicate m.W.toNat (D.int .i64 0)).length:Int))),(23,.d (.int .i64 ((w:Int))))]) (fun ((w,zs):Nat×List D)=>[(0,some (zar m)),(1,some (.box [.d (dUU m.rel)])),(2,some (.todo (some (zen m N 0)))),(3,some (.row 1 (List.replicate m.W.toNat (D.int .i64 0)))),(4,some (.row 1 zs))]) 5 (fun ((w,zs):Nat×List D)=>w≤m.W.toNat∧zs=(List.range m.W.toNat).map fun u=>if u < w then D.int .i64 (zz m u) else D.int .i64 0) (fun ((w,zs):Nat×List D)=>m.W.toNat - w) ((0,List.replicate m.W.toNat (D.int .i64 0))) [(0,0),(1,1),(2,2),(3,3),(4,4)] [] (⟨by simp,by simp only [Nat.not_lt_zero,if_false];exact zad _ _⟩) (by (refine ⟨rfl,rfl,rfl,?_,?_⟩;repeat' first|exact trivial|exact rfl|refine And.intro ?_ ?_|refine ⟨_,rfl,?_⟩|decide)) ?_
 rintro ⟨w,zs⟩ ⟨hw,hz⟩
 have hzl:zs.length=m.W.toNat:=by rw [hz];simp
 by_cases hwl:w < m.W.toNat
 ·have cf:=zeb (T:=T) m (w:Int)
  rw [zi7 hk0 hwl] at cf
  (repeat' ((conv=>whnf);first|refine vA ?_|(refine vF ?_ ?_<;>intro hc<;>try simp only [vL] at hc)|refine vT ?_|((first|refine vO ?_ ?_|refine vP ?_ ?_);·omega)|refine yD cf ⟨⟨rfl,rfl⟩,⟨rfl,rfl⟩,rfl⟩ rfl ?_));all_goals try conv=>whnf
  ·refine ⟨(w+1,_),[(0,0),(1,1),(2,2),(3,3),(4,4)],[],?_,?_,by (refine ⟨rfl,rfl,rfl,?_,?_⟩;repeat' first|exact trivial|exact rfl|refine And.intro ?_ ?_|refine ⟨_,rfl,?_⟩|decide)⟩
   ·exact ⟨by (omega),by rw [hz];exact zks (α:=Nat) rfl⟩
   ·((simp only [vM] at *;omega))
  all_goals omega
 ·have e0:w=m.W.toNat:=by omega
  obtain rfl:zs=(zgx m).map (D.int .i64):=by
   rw [hz,zgx,List.map_map]
   exact zD fun u hu=>by rw [if_pos (by omega)];rfl
  (repeat' ((conv=>whnf);first|refine vA ?_|(refine vF ?_ ?_<;>intro hc<;>try simp only [vL] at hc)|refine vT ?_|refine yN (zwq m h64) ⟨⟨rfl,rfl⟩,⟨rfl,rfl⟩,rfl⟩ ?_));all_goals try conv=>whnf
  ·omega
  ·refine zq (fun (i:Nat)=>[(0,.yld l),(1,.ptr 0 0),(2,.ptr 1 0),(4,.d (dI (ptL m.W.toNat (zak m i))))]) (fun (i:Nat)=>[(0,some (zar m)),(1,some (.box [.d (dUU m.rel)])),(2,some (.todo (some (zen m N i))))]) 3 (fun (i:Nat)=>i≤N) (fun (i:Nat)=>N+1 - i) (0) [(0,0),(1,1),(2,2)] [] (by simp) (by (refine ⟨rfl,rfl,rfl,?_,?_⟩;repeat' first|exact trivial|exact rfl|refine And.intro ?_ ?_|refine ⟨_,rfl,?_⟩|decide)) ?_
   rintro i hi
   have hd:=zqX (m:=m) hi
   (repeat' ((conv=>whnf);first|refine vA ?_|refine vT ?_));all_goals try conv=>whnf
   refine ⟨rfl,[dI (ptL m.W.toNat (zak m i))],zen m N (i+1),congrArg (fun l=>some (Ob.todo (some l))) hd,rfl,rfl,rfl,?_,?_⟩
   ·by_cases hiN:i < N
    ·have hne:(false || !(zen m N (i+1)).isEmpty)=true:=by rw [zqX (m:=m) (i:=i+1) (by omega)];rfl
     rw [hne]
     (repeat' ((conv=>whnf);first|refine vA ?_|refine vG ?_|refine vK fun hg=>?_|refine vT ?_|(refine vP ?_ ?_;·omega)|fail));all_goals try conv=>whnf
     obtain ⟨bk,hbk⟩ : ∃ bk:Nat→KS,bk=zeI m.rel (zak m i) m.W.toNat:=⟨_,rfl⟩
     refine zq (fun ((w,es,zs):Nat×List (D×D)×List D)=>[(0,.yld l),(1,.ptr 0 0),(2,.ptr 1 0),(4,.d (dI (ptL m.W.toNat (zak m i)))),(7,.map 3),(8,.own 4),(47,.d (.int .i64 ((List.replicate m.W.toNat (D.int .i64 0)).length:Int))),(48,.d (.int .i64 ((w:Int))))]) (fun ((w,es,zs):Nat×List (D×D)×List D)=>[(0,some (zar m)),(1,some (.box [.d (dUU m.rel)])),(2,some (.todo (some (zen m N (i+1))))),(3,some (.map es)),(4,some (.row 1 zs))]) 5 (fun ((w,es,zs):Nat×List (D×D)×List D)=>w≤m.W.toNat∧es=zdc 0 (zee bk w)∧zs=(List.range m.W.toNat).map fun u=>if u < w then D.int .i64 (zdP bk u:Int) else D.int .i64 0) (fun ((w,es,zs):Nat×List (D×D)×List D)=>m.W.toNat - w) ((0,[],List.replicate m.W.toNat (D.int .i64 0))) [(0,0),(1,1),(2,2),(3,3),(4,4)] [] (⟨by simp,rfl,by simp only [Nat.not_lt_zero,if_false];exact zad _ _⟩) (by (refine ⟨rfl,rfl,rfl,?_,?_⟩;repeat' first|exact trivial|exact rfl|refine And.intro ?_ ?_|refine ⟨_,rfl,?_⟩|decide)) ?_
     rintro ⟨w,es,zs⟩ ⟨hw,hes,hz⟩
     obtain ⟨dl,hdl⟩ : ∃ dl,dl=zee bk w:=⟨_,rfl⟩
     rw [← hdl] at hes
     have hzl:zs.length=m.W.toNat:=by rw [hz];simp
     by_cases hwl:w < m.W.toNat
     ·(repeat' ((conv=>whnf);first|refine vA ?_|(refine vF ?_ ?_<;>intro hc<;>try simp only [vL] at hc)|refine vJ fun hg=>?_|refine vT ?_));all_goals try conv=>whnf
      ·refine zq (fun ((k,t):Nat×KS)=>[(0,.yld l),(1,.ptr 0 0),(2,.ptr 1 0),(4,.d (dI (ptL m.W.toNat (zak m i)))),(7,.map 3),(8,.own 4),(9,.d (.int .i64 ((w:Int)))),(10,.d (.str t)),(47,.d (.int .i64 ((List.replicate m.W.toNat (D.int .i64 0)).length:Int))),(48,.d (.int .i64 ((w:Int)))),(51,.d (dUU m.rel)),(52,.d (.int .i64 ((m.rel.map dU).length:Int))),(53,.d (.int .i64 ((k:Int))))]) (fun ((k,t):Nat×KS)=>[(0,some (zar m)),(1,some (.box [.d (dUU m.rel)])),(2,some (.todo (some (zen m N (i+1))))),(3,some (.map es)),(4,some (.row 1 zs))]) 5 (fun ((k,t):Nat×KS)=>k≤m.rel.length∧t=zfO ((m.rel.take k).map fun r=>zaK (zak m i) (r.getD w 0#64) m.W.toNat)) (fun ((k,t):Nat×KS)=>m.rel.length - k) ((0,[])) [(0,0),(1,1),(2,2),(3,3),(4,4)] [] (⟨by simp,rfl⟩) (by (refine ⟨rfl,rfl,rfl,?_,?_⟩;repeat' first|exact trivial|exact rfl|refine And.intro ?_ ?_|refine ⟨_,rfl,?_⟩|decide)) ?_
       rintro ⟨k,t⟩ ⟨hk,ht⟩
       by_cases hkl:k < m.rel.length
       ·obtain ⟨r,hr⟩ : ∃ r,m.rel[k]? = some r:=⟨_,List.getElem?_eq_getElem hkl⟩
        have hrl:=hg0.len r (List.mem_of_getElem? hr)
        obtain ⟨s,hs⟩ : ∃ s,r[w]? = some s:=⟨_,List.getElem?_eq_getElem (by omega)⟩
        have hsb:=(zeq (by omega)).1 (hg0.rel r (List.mem_of_getElem? hr) s (List.mem_of_getElem? hs))
        have hl1:=zsG ((m.rel.take k).map fun r=>zaK (zak m i) (r.getD w 0#64) m.W.toNat)
        have hl2:(zga (zaK (zak m i) s m.W.toNat)).length≤16:=(zjg 15 _).2
        have hl3:((m.rel.take k).map fun r=>zaK (zak m i) (r.getD w 0#64) m.W.toNat).length≤4:=by rw [List.length_map,List.length_take];omega
        rw [← ht] at hl1
        have hl4:([32]:List UInt8).length=1:=rfl
        (repeat' ((conv=>whnf);first|refine vA ?_|(refine vF ?_ ?_<;>intro hc<;>try simp only [vL] at hc)|refine vT ?_|refine vN ‹_› ?_|((first|refine vO ?_ ?_|refine vP ?_ ?_);·first|omega|(simp only [vM] at *;omega))|refine yD (ztL hT h64 s hsb) ⟨⟨rfl,rfl⟩,⟨rfl,rfl⟩,rfl⟩ rfl ?_|refine yD (hX _) (by (repeat refine ⟨⟨rfl,rfl⟩,?_⟩);rfl) rfl ?_));all_goals try conv=>whnf
        ·refine ⟨(k+1,_),[(0,0),(1,1),(2,2),(3,3),(4,4)],[],?_,?_,by (refine ⟨rfl,rfl,rfl,?_,?_⟩;repeat' first|exact trivial|exact rfl|refine And.intro ?_ ?_|refine ⟨_,rfl,?_⟩|decide)⟩
         ·refine ⟨by (omega),?_⟩
          rw [List.take_add_one,hr,Option.toList_some,List.map_append,List.map_singleton,zwE,← ht,zuo hs]
         ·((simp only [vM] at *;omega))
        all_goals (try simp only [List.length_append,hl4])
        all_goals omega
       ·have ek:k=m.rel.length:=by omega
        subst ek
        rw [List.take_length] at ht
        have ht:t=bk w:=by rw [ht,hbk];rfl
        subst ht
        subst hes
        have hfd:=zqO (bk w) dl 0
        have hd64:dl.length≤64:=by rw [hdl];have:=zsJ bk w;omega
        by_cases hm:bk w∈dl
        ·rw [if_pos hm,Nat.zero_add] at hfd
         have ea:zee bk (w+1)=dl:=by rw [zgR,← hdl];exact if_pos hm
         (repeat' ((conv=>whnf);first|refine vA ?_|refine vE ?_|refine vG ?_|(refine vF ?_ ?_<;>intro hc<;>try simp only [vL] at hc)|refine vT ?_|(refine vQ ?_ fun x hx=>?_;·omega)|((first|refine vO ?_ ?_|refine vP ?_ ?_);·omega)|refine zjJ.mk _ ‹_› ?_));all_goals try conv=>whnf
         ·omega
         ·refine ⟨(w+1,_,_),[(0,0),(1,1),(2,2),(3,3),(4,4)],[],?_,?_,by (refine ⟨rfl,rfl,rfl,?_,?_⟩;repeat' first|exact trivial|exact rfl|refine And.intro ?_ ?_|refine ⟨_,rfl,?_⟩|decide)⟩
          ·refine ⟨by (omega),by rw [ea],?_⟩
           rw [hz]
           exact zks (α:=Nat) (by rw [zdP,ea])
          ·((simp only [vM] at *;omega))
         all_goals omega
        ·rw [if_neg hm] at hfd
         have ea:zee bk (w+1)=dl++[bk w]:=by rw [zgR,← hdl];exact if_neg hm
         have eb:zdc 0 (dl++[bk w])=zdc 0 dl++[(.str (bk w),.int .i64 ((zdc 0 dl).length:Int))]:=by rw [zns,zn8,Nat.zero_add]
         have ec:(dl++[bk w]).idxOf (bk w)=(zdc 0 dl).length:=by rw [zn8,List.idxOf_append,if_neg hm];simp
         have hfn:z6 (zdc 0 dl++[(.str (bk w),.int .i64 ((zdc 0 dl).length:Int))]) (.str (bk w))=some (some (.int .i64 ((zdc 0 dl).length:Int))):=by rw [zfI _ _ _ hfd];simp [z6,D.eqk,D.same]
         (repeat' ((conv=>whnf);first|refine vA ?_|(refine vF ?_ ?_<;>intro hc<;>try simp only [vL] at hc)|refine vT ?_|(refine vQ ?_ fun x hx=>?_;·omega)|((first|refine vO ?_ ?_|refine vP ?_ ?_);·omega)|refine zjJ.mk _ ‹_› ?_));all_goals try conv=>whnf
         ·omega
         ·refine ⟨(w+1,_,_),[(0,0),(1,1),(2,2),(3,3),(4,4)],[],?_,?_,by (refine ⟨rfl,rfl,rfl,?_,?_⟩;repeat' first|exact trivial|exact rfl|refine And.intro ?_ ?_|refine ⟨_,rfl,?_⟩|decide)⟩
          ·refine ⟨by (omega),by rw [ea,eb],?_⟩
           rw [hz]
           exact zks (α:=Nat) (by rw [zdP,ea,ec])
          ·((simp only [vM] at *;omega))
         all_goals omega
      ·omega
     ·have e0:w=m.W.toNat:=by omega
      obtain rfl:zs=(ptL m.W.toNat (zdP bk)).map (D.int .i64):=by
       rw [hz];unfold ptL;rw [List.map_map]
       exact zD fun u hu=>by rw [if_pos (by omega)];rfl
      have ck:=zwk (T:=T) m h64 i
      rw [← hbk] at ck
      (repeat' ((conv=>whnf);first|refine vA ?_|(refine vF ?_ ?_<;>intro hc<;>try simp only [vL] at hc)|refine vJ fun hg=>?_|refine vT ?_|refine yN ck ⟨⟨rfl,rfl⟩,⟨rfl,rfl⟩,rfl⟩ ?_));all_goals try conv=>whnf
      ·omega
      ·refine ⟨i+1,[(0,0),(1,1),(2,2)],[],?_,?_,by (refine ⟨rfl,rfl,rfl,?_,?_⟩;repeat' first|exact trivial|exact rfl|refine And.intro ?_ ?_|refine ⟨_,rfl,?_⟩|decide)⟩
       ·(omega)
       ·(omega)
    ·have hne:(false || !(zen m N (i+1)).isEmpty)=false:=by rw [zyS (m:=m) (i:=i+1) (by omega)];rfl
     rw [hne]
     trivial
   ·(repeat' ((conv=>whnf);first|refine vH ?_|refine vT ?_));all_goals try conv=>whnf
    right;rfl
end Go.Ab
namespace Go.Ab
open Go Go.Proofs
set_option maxRecDepth 10000
set_option maxHeartbeats 4000000
variable {T:Nat→Obj→Prop}
theorem zvh (m:KM) (R:List (List (BitVec 64))):Fn Tryz.prog T zi1 [.d (dKM m),.d (dUU R)] [] (.fn zdu [.ptr 0 0,.ptr 1 0]) [some (zar m),some (.box [.d (dUU R)])]:=by
 refine zat zx zpY (by show 2≤6;decide) _ (fun e env mem n h=>h) ?_
 (repeat' ((conv=>whnf);refine vT ?_));all_goals try conv=>whnf
 exact ⟨trivial,_,[(0,0),(1,1)],[],rfl,.inl (by (repeat' first|exact rfl|refine And.intro ?_ ?_|refine ⟨_,rfl,?_⟩)),⟨rfl,rfl,rfl,trivial,by (repeat' first|exact trivial|exact rfl|refine And.intro ?_ ?_|refine ⟨_,rfl,?_⟩|exact of_decide_eq_true rfl)⟩,trivial⟩
def zgr (m:KM) (j:Nat):Prop:=ptL m.W.toNat (zak m (j+1))=ptL m.W.toNat (zak m j)
instance (m:KM) (j:Nat):Decidable (zgr m j):=inferInstanceAs (Decidable (_=_))
def zry (m:KM):Nat:=zW (fun v _=>decide (zgr m v)) 65
theorem zzc {m:KM} {j:Nat} (hj:j < 65) (h:zgr m j) (hn : ∀ i,i < j → ¬zgr m i):zry m=j:=by
 have h1:=zjo (fun v _=>decide (zgr m v)) 65
 rcases Nat.lt_trichotomy (zry m) j with hl|hl|hl
 ·exfalso
  rcases h1.1 with ⟨h2,h3⟩|h2
  ·exact hn _ hl (of_decide_eq_true h3)
  ·unfold zry at hl;omega
 ·exact hl
 ·have:=h1.2 j hl
  simp [h] at this
def zBu (m:KM):Nat→V
 | 0 => .nils 1
 | k+1 => .d (dI (ptL m.W.toNat (zak m k)))
theorem zAr {m:KM} {N i:Nat} {x:List D} (h:(zen m N 0)[i]? = some x):x=[dI (ptL m.W.toNat (zak m i))]∧i≤N:=by
 unfold zen at h
 rw [List.drop_zero,List.getElem?_map,Option.map_eq_some_iff] at h
 obtain ⟨j,hj,rfl⟩:=h
 have hi:=(List.getElem?_eq_some_iff.1 hj).1
 rw [List.length_range] at hi
 rw [List.getElem?_range hi] at hj
 cases hj
 exact ⟨rfl,by omega⟩
theorem zyT (m:KM) (N:Nat):(zen m N 0).length=N+1:=by simp [zen]
theorem zvi (hT:za0 T) (hX:zfv T) {m:KM} (hk0:za m=0):Fn Tryz.prog T zi2 [.d (dKM m),.d (dUU m.rel)] [] (.d (.tup [dI (ptL m.W.toNat (cq m)),.int .i64 (zry m:Int)])) []:=by
 have hg0:=zk hk0
 have w1:=hg0.w1
 have w2:=hg0.w2
 refine zg zx zpZ (by show 2≤21;decide) ?_
 (repeat' ((conv=>whnf);first|refine vA ?_|refine vT ?_));all_goals try conv=>whnf
 refine zaa.res (zvh m m.rel) (by (repeat refine ⟨⟨rfl,rfl⟩,?_⟩);rfl) ?_
 (repeat' ((conv=>whnf);refine vT ?_));all_goals try conv=>whnf
 refine zvG (zwB hT hX hk0 (m.W.toNat+1)) [3,4] [] (by first|((repeat refine ⟨⟨rfl,rfl⟩,?_⟩);rfl)|(repeat' first|exact rfl|refine And.intro ?_ ?_|refine ⟨_,rfl,?_⟩)) (by (repeat' first|exact rfl|refine And.intro ?_ ?_|refine ⟨_,rfl,?_⟩)) (by rfl) (by rfl) [(6,.ptr 0 0),(7,.ptr 1 0)] (fun ((a,c):Nat×Int)=>[(0,some (.box [zBu m a])),(1,some (.box [.d (.int .i64 c)]))]) 2 (fun i ((a,c):Nat×Int)=>a=i∧c=(i:Int) - 1 ∧ ∀ j,j+1 < i → ¬zgr m j) ((0,-1)) [(0,1),(1,2)] [] (⟨rfl,rfl,fun j hj=>by omega⟩) (by (refine ⟨rfl,rfl,rfl,?_,?_⟩;repeat' first|exact trivial|exact rfl|refine And.intro ?_ ?_|refine ⟨_,rfl,?_⟩|decide)) ?_ ?_
 ·rintro i x ⟨a,c⟩ hx ⟨rfl,hcc,hJ⟩
  obtain ⟨rfl,hi⟩:=zAr hx
  refine ⟨rfl,?_⟩
  cases a with
  | zero =>
   have ce:=zly (T:=T) (ptL m.W.toNat (zak m 0)) []
   rw [show (ptL m.W.toNat (zak m 0)==[])=false by
    rw [beq_eq_false_iff_ne];intro e;have:=congrArg List.length e;rw [zbx] at this;simp at this;omega] at ce
   (repeat' ((conv=>whnf);first|refine vA ?_|refine vH ?_|refine vT ?_|(refine vO ?_ ?_;·omega)|refine yD ce ⟨⟨rfl,rfl⟩,⟨rfl,rfl⟩,rfl⟩ rfl ?_));all_goals try conv=>whnf
   ·exact ⟨(0+1,c+1),[(0,0),(1,1)],[],⟨rfl,by omega,fun j hj=>by omega⟩,by (refine ⟨rfl,rfl,rfl,?_,?_⟩;repeat' first|exact trivial|exact rfl|refine And.intro ?_ ?_|refine ⟨_,rfl,?_⟩|decide)⟩
   all_goals omega
  | succ k =>
   (repeat' ((conv=>whnf);first|refine vA ?_|(refine vI ?_ ?_<;>intro hc)|refine vT ?_|(refine vO ?_ ?_;·omega)|(refine vU ?_ ?_;·kernel_rfl)|refine yD (zly _ _) ⟨⟨rfl,rfl⟩,⟨rfl,rfl⟩,rfl⟩ rfl ?_));all_goals try conv=>whnf
   ·show some (D.tup [dI (ptL m.W.toNat (zak m k)),.int .i64 c])=_
    have hs:zgr m k:=by simpa [zgr] using hc
    have hk:=zzc (m:=m) (j:=k) (by omega) hs (fun i hi=>hJ i (by omega))
    rw [zug (m:=m) (k:=k) (by omega) hs,hk,show c=(k:Int) by omega]
   ·have hs : ¬zgr m k:=by simpa [zgr] using hc
    exact ⟨(k+1+1,c+1),[(0,0),(1,1)],[],⟨rfl,by omega,fun j hj=>by
     by_cases e:j=k
     ·subst e;exact hs
     ·exact hJ j (by omega)⟩,by (refine ⟨rfl,rfl,rfl,?_,?_⟩;repeat' first|exact trivial|exact rfl|refine And.intro ?_ ?_|refine ⟨_,rfl,?_⟩|decide)⟩
   all_goals omega
 ·rintro ⟨a,c⟩ ⟨rfl,hcc,hJ⟩
  rw [zyT] at hJ
  have:=zzQ (m:=m) (k:=m.W.toNat+1) fun j hj=>hJ j (by omega)
  omega
def zdM (m:KM):List Int×Int:=if za m≠0 then ([],za m) else (ptL m.W.toNat (cq m),0)
abbrev dLI (x:List Int×Int):D := .tup [dI x.1,.int .i64 x.2]
theorem zhO (hT:za0 T) (hX:zfv T) (m:KM):Fn Tryz.prog T zdt [.d (dKM m)] [] (.d (dLI (zdM m))) []:=by
 refine zg zx znX (by show 1≤20;decide) ?_
 by_cases hk0:za m=0
 ·have cs:=zvi (T:=T) hT hX hk0
  (repeat' ((conv=>whnf);first|refine vA ?_|(refine vD ?_ ?_<;>intro hc)|refine vT ?_|refine yD (zau m) ⟨⟨rfl,rfl⟩,rfl⟩ rfl ?_|refine yN cs ⟨⟨rfl,rfl⟩,⟨rfl,rfl⟩,rfl⟩ ?_));all_goals try conv=>whnf
  ·exact absurd hk0 (by omega)
  ·rw [zdM,if_neg (by omega)];rfl
 ·(repeat' ((conv=>whnf);first|refine vA ?_|(refine vD ?_ ?_<;>intro hc)|refine vT ?_|refine yD (zau m) ⟨⟨rfl,rfl⟩,rfl⟩ rfl ?_));all_goals try conv=>whnf
  ·rw [zdM,if_pos hk0];rfl
  ·exact absurd ‹za m=0› hk0
end Go.Ab
namespace Go.Ab
open Go Go.Proofs
set_option maxRecDepth 10000
set_option maxHeartbeats 4000000
variable {T:Nat→Obj→Prop}
theorem zwh (l:List Int) (h:l≠[]) (hl:l.length≤1000):Fn Tryz.prog T zb5 [.d (dI l)] [] (.own 0) [some (.row 1 (l.map (D.int .i64)))]:=by
 refine zat zx zhU (by show 1≤8;decide) _ (fun e env mem n h=>h) ?_
 (repeat' ((conv=>whnf);first|refine vA ?_|refine vB fun b hb=>?_|refine vE ?_|(refine vF ?_ ?_<;>intro hc)|refine vT ?_|(refine vP ?_ ?_;·(simp only [vM] at *;omega))|fail));all_goals try conv=>whnf
 ·refine ⟨trivial,_,[(0,1)],[],rfl,.inl (by (repeat' exact rfl)),⟨by rfl,by rfl,by rfl,trivial,by (repeat' first|exact trivial|exact rfl|refine And.intro ?_ ?_|refine ⟨_,rfl,?_⟩|exact of_decide_eq_true rfl)⟩,by (repeat' exact trivial)⟩
 ·exact absurd (List.map_eq_nil_iff.1 (hb (by simpa using hc))) h
theorem zzb {n:Nat} {q:Nat→Nat} (hq:zaC n q):zfd (ptL n q)=(zaD n q).map fun (x:Nat)=>(x:Int):=by
 have hs:((zaD n q).map fun (x:Nat)=>(x:Int)).Pairwise (· < ·):=by
  rw [List.pairwise_map]
  refine List.Pairwise.imp (R:=(· < ·)) (fun h=>by omega) (List.Pairwise.filter _ List.pairwise_lt_range)
 have hn:(zfd (ptL n q)).Nodup:=(zca _).nodup_iff.2 (zcJ _)
 refine zdI (zeC _) (hs.imp fun h=>Int.le_of_lt h) (zfS hn (hs.imp fun h e=>by subst e;omega) fun x=>?_)
 rw [zke]
 unfold ptL zaD
 simp only [List.mem_map,List.mem_filter,List.mem_range,decide_eq_true_eq]
 constructor
 ·rintro ⟨w,hw,rfl⟩
  have:=hq.le w hw
  exact ⟨q w,⟨by omega,hq.idem w hw⟩,rfl⟩
 ·rintro ⟨w,⟨hw,e⟩,rfl⟩
  exact ⟨w,hw,by rw [e]⟩
theorem zqz {n:Nat} {q:Nat→Nat} (hq:zaC n q) (h0:0 < n) (h12:n≤12):Fn Tryz.prog T zg9 [.d (dI (ptL n q))] [] (.d (dN (zaD n q))) []:=by
 have hl:(ptL n q).length=n:=zbx
 have c0:=zwh (T:=T) (ptL n q) (fun e=>by rw [e] at hl;simp at hl;omega) (by omega)
 have c1:=znh (T:=T) (ptL n q).toArray (by simp;omega)
 rw [show zbK (Sort.sort ltI (ptL n q).toArray) = .row 1 ((zbz (ptL n q)).map (D.int .i64)) by rw [zbK,zpw]] at c1
 have hsl:(zbz (ptL n q)).length=n:=by rw [(zca _).length_eq,hl]
 have c2:=zsj (T:=T) (zbz (ptL n q)).toArray (by simp;omega)
 rw [zwb,zzb hq] at c2
 refine zg zx zm1 (by show 1≤10;decide) ?_
 (repeat' ((conv=>whnf);refine vT ?_));all_goals try conv=>whnf
 refine zaa.res (c0) (by (repeat refine ⟨⟨rfl,rfl⟩,?_⟩);rfl) ?_
 (repeat' ((conv=>whnf);refine vT ?_));all_goals try conv=>whnf
 refine zaa.objs [0] (c1) (by (repeat' first|exact rfl|refine And.intro ?_ ?_|refine ⟨_,rfl,?_⟩)) (by (repeat' first|exact rfl|refine And.intro ?_ ?_)) (by rfl) (by rfl) (by simp) ?_
 (repeat' ((conv=>whnf);refine vT ?_));all_goals try conv=>whnf
 refine zaa.objs [0] (c2) (by (repeat' first|exact rfl|refine And.intro ?_ ?_|refine ⟨_,rfl,?_⟩)) (by (repeat' first|exact rfl|refine And.intro ?_ ?_)) (by rfl) (by rfl) (by simp) ?_
 (repeat' ((conv=>whnf);refine vT ?_));all_goals try conv=>whnf
 rfl
theorem zoU (s:BitVec 64) {n:Nat} {k:Nat→Nat} (hk : ∀ w,w < n→k w < 64):Fn Tryz.prog T zha [.d (.u64 s),.d (dI (ptL n k))] [] (.d (.u64 (zaK k s n))) []:=by
 have hl:(ptL n k).length=n:=zbx
 refine zg zx zm2 (by show 2≤26;decide) ?_
 (repeat' ((conv=>whnf);first|refine vA ?_|refine vJ fun hg=>?_|refine vT ?_));all_goals try conv=>whnf
 refine zah (fun ((j,o):Nat×BitVec 64)=>[(0,.d (.u64 (s))),(5,.d (.u64 (o))),(8,.d (dI (ptL n k))),(9,.d (.int .i64 (((ptL n k).map (D.int .i64)).length:Int))),(10,.d (.int .i64 ((j:Int))))]) (fun ((j,o):Nat×BitVec 64)=>j≤n∧o=zaK k s j) (fun ((j,o):Nat×BitVec 64)=>n - j) ((0,0#64)) (⟨by simp,rfl⟩) (by (repeat' first|exact trivial|exact rfl|refine And.intro ?_ ?_)) ?_
 rintro ⟨j,o⟩ ⟨hj,ho⟩
 by_cases hjl:j < n
 ·have e1:=za3 (q:=k) hjl
  (repeat' ((conv=>whnf);first|refine vA ?_|(refine vF ?_ ?_<;>intro hc<;>try simp only [vL] at hc)|refine vT ?_|refine vN ‹_› ?_|((first|refine vO ?_ ?_|refine vP ?_ ?_);·omega)|refine vY ?_));all_goals try conv=>whnf
  ·refine ⟨(j+1,_),[],[],?_,?_,by (refine ⟨rfl,rfl,rfl,?_,?_⟩;repeat' first|exact trivial|exact rfl|refine And.intro ?_ ?_)⟩
   ·exact ⟨by (omega),by rw [zgG,if_pos ((zf4 s j).1 ‹_›),ho];rfl⟩
   ·((simp only [vM] at *;omega))
  ·refine ⟨(j+1,o),[],[],?_,?_,by (refine ⟨rfl,rfl,rfl,?_,?_⟩;repeat' first|exact trivial|exact rfl|refine And.intro ?_ ?_)⟩
   ·refine ⟨by (omega),?_⟩
    rw [zgG,if_neg,ho]
    intro h
    exact absurd ((zf4 s j).2 h) ‹_›
   ·((simp only [vM] at *;omega))
  all_goals omega
 ·(repeat' ((conv=>whnf);first|refine vA ?_|(refine vF ?_ ?_<;>intro hc<;>try simp only [vL] at hc)|refine vT ?_|(refine vQ ?_ fun x hx=>?_;·omega)|((first|refine vO ?_ ?_|refine vP ?_ ?_);·omega)|refine vY ?_));all_goals try conv=>whnf
  all_goals try omega
  rw [ho,show j=n by omega]
theorem zuE {n:Nat} {q:Nat→Nat} : (zaD n q).length=zu n q:=rfl
theorem zz3 {n:Nat} {q:Nat→Nat} (hq:zaC n q) {w:Nat} (hw:w < n):zdW (fun y=>((q w:Nat):Int)==y) ((zaD n q).map fun (x:Nat)=>(x:Int))=((zJ q w:Nat):Int):=by
 have h1:=zgk hq hw
 refine zea (by rw [List.getElem?_map,h1];rfl) (by simp) fun i y hi hy=>?_
 rw [List.getElem?_map,Option.map_eq_some_iff] at hy
 obtain ⟨u,hu,rfl⟩:=hy
 have hnd:(zaD n q).Nodup:=List.Nodup.sublist List.filter_sublist List.nodup_range
 rw [beq_eq_false_iff_ne]
 intro e
 have e:q w=u:=by omega
 subst e
 obtain ⟨a1,a2⟩:=List.getElem?_eq_some_iff.1 h1
 obtain ⟨b1,b2⟩:=List.getElem?_eq_some_iff.1 hu
 have:=(List.getElem_inj hnd).1 (a2.trans b2.symm)
 omega
abbrev byQ (p:List Int):Nat→Nat:=fun w=>(at0 p w).toNat
def byF (m:KM) (q:Nat→Nat) (w:Nat):Bool:=decide (zz m w=zz m (q w))
def byL (m:KM) (p:List Int):KM×List Int×Int :=
 if za m≠0 then (zbi,[],za m) else if zbQ p≠0 then (zbi,[],zbQ p) else if (p.length:Int)≠m.W then (zbi,[],3) else
  if (List.range m.W.toNat).all (byF m (byQ p))=true then (zU m (byQ p),ptL m.W.toNat (zJ (byQ p)),0) else (zbi,[],1)
abbrev zu7 (x:KM×List Int×Int):D := .tup [dKM x.1,dI x.2.1,.int .i64 x.2.2]
theorem zzA {n k:Nat} {f:Nat→Bool} (hk:k < n) (h:f k=false) : ¬(List.range n).all f=true:=fun e=>by
 rw [List.all_eq_true] at e
 rw [e k (List.mem_range.2 hk)] at h;cases h
theorem zrK {n:Nat} {f:Nat→Bool} (h : ∀ i,i < n→f i=true):(List.range n).all f=true:=List.all_eq_true.2 fun i hi=>h i (List.mem_range.1 hi)
theorem zvV {q:Nat→Nat} {n:Nat} {r:List (BitVec 64)} {k i:Nat} : zd1 q n r (k+1) i=if zJ q k=i then zd1 q n r k i|||zaK (zJ q) (r.getD k 0#64) n else zd1 q n r k i:=rfl
def byR (m:KM) (q:Nat→Nat):KM×List Int×Int:=if (List.range m.W.toNat).all (byF m q)=true then (zU m q,ptL m.W.toNat (zJ q),0) else (zbi,[],1)
theorem zwg {m:KM} (hk0:za m=0) (h12:m.W≤12) {q:Nat→Nat} (hq:zaC m.W.toNat q):Fn Tryz.prog T zdE [.d (dKM m),.d (dI (ptL m.W.toNat q))] [] (.d (zu7 (byR m q))) []:=by
 have hg0:=zk hk0
 have w1:=hg0.w1
 have n4:=hg0.n4
 have v8:=hg0.v8
 have hp0:zbQ (ptL m.W.toNat q)=0:=zm9 hq (by omega)
 refine zg zx zkH (by show 2≤134;decide) ?_
 have hlen:((ptL m.W.toNat q).length:Int)=m.W:=by rw [zbx];omega
 have e0:byR m q=if (List.range m.W.toNat).all (byF m q)=true then (zU m q,ptL m.W.toNat (zJ q),0) else (zbi,[],1):=rfl
 obtain ⟨n,hn⟩ : ∃ n,n=m.W.toNat:=⟨_,rfl⟩
 rw [← hn] at hq hp0 hlen e0 ⊢
 have hpl:(ptL n q).length=n:=zbx
 have hcn:=zcp n q
 have h64 : ∀ w,w < n→zJ q w < 64:=fun w hw=>by have:=zcq hq hw;omega
 have clo:=zqz (T:=T) hq (by omega) (by omega)
 (repeat' ((conv=>whnf);first|refine vA ?_|(refine vD ?_ ?_<;>intro hc<;>try simp only [vL] at hc)|refine vJ fun hg=>?_|refine vT ?_|refine yD (zau m) ⟨⟨rfl,rfl⟩,rfl⟩ rfl ?_|refine yD (zhh _) ⟨⟨rfl,rfl⟩,rfl⟩ rfl ?_));all_goals try conv=>whnf
 iterate 3 (exact absurd ‹_≠_› (by first|exact not_not_intro hk0|exact not_not_intro hp0|exact not_not_intro hlen))
 refine zq (fun (w:Nat)=>[(1,.d (dI (ptL n q))),(2,.ptr 0 0),(4,.ptr 1 0),(41,.d (dI (ptL n q))),(42,.d (.int .i64 (((ptL n q).map (D.int .i64)).length:Int))),(43,.d (.int .i64 ((w:Int))))]) (fun (w:Nat)=>[(0,some (zar m)),(1,some (.box [.d (.int .i64 0),.nils 1,.nils 1]))]) 2 (fun (w:Nat)=>w≤n ∧ ∀ u,u < w→byF m q u=true) (fun (w:Nat)=>n - w) (0) [(0,0),(1,1)] [] (⟨by omega,fun u hu=>by omega⟩) (by (refine ⟨rfl,rfl,rfl,?_,?_⟩;repeat' first|exact trivial|exact rfl|refine And.intro ?_ ?_|refine ⟨_,rfl,?_⟩|decide)) ?_
 rintro w ⟨hw,hI⟩
 by_cases hwl:w < n
 ·have e1:=za3 (q:=q) hwl
  have hqw:=hq.le w hwl
  have cf1:=zeb (T:=T) m (w:Int)
  have cf2:=zeb (T:=T) m ((q w:Nat):Int)
  rw [zi7 hk0 (by omega)] at cf1 cf2
  (repeat' ((conv=>whnf);first|refine vA ?_|((first|refine vD ?_ ?_|refine vF ?_ ?_)<;>intro hc<;>try simp only [vL] at hc)|refine vT ?_|refine vN ‹_› ?_|(refine vO ?_ ?_;·omega)|(refine vU ?_ ?_;·kernel_rfl)|refine yD cf1 ⟨⟨rfl,rfl⟩,⟨rfl,rfl⟩,rfl⟩ rfl ?_|refine yD cf2 ⟨⟨rfl,rfl⟩,⟨rfl,rfl⟩,rfl⟩ rfl ?_));all_goals try conv=>whnf
  ·rw [e0,if_neg (zzA hwl (by unfold byF;rw [decide_eq_false_iff_not];assumption))];rfl
  ·exact ⟨w+1,[(0,0),(1,1)],[],⟨by (omega),fun u hu=>by
    by_cases e:u=w
    ·subst e;unfold byF;rw [decide_eq_true_eq];assumption
    ·exact hI u (by omega)⟩,by (omega),by (refine ⟨rfl,rfl,rfl,?_,?_⟩;repeat' first|exact trivial|exact rfl|refine And.intro ?_ ?_|refine ⟨_,rfl,?_⟩|decide)⟩
  all_goals omega
 ·have hfa:zuQ m q:=fun w hw=>by
   have:=hI w (by omega)
   simpa [byF] using this
  have e0:byR m q=(zU m q,ptL n (zJ q),0):=by rw [e0,if_pos (zrK fun u hu=>hI u (by omega))]
  have hrl':zgf (zaD n q)=zu n q:=zmv _
  (repeat' ((conv=>whnf);first|refine vA ?_|(refine vF ?_ ?_<;>intro hc<;>try simp only [vL] at hc)|refine vJ fun hg=>?_|refine vT ?_|(refine vQ ?_ fun x hx=>?_;·omega)|(refine vP ?_ ?_;·(simp only [vM] at *;omega))|refine yN clo ⟨⟨rfl,rfl⟩,rfl⟩ ?_));all_goals try conv=>whnf
  ·omega
  refine zq (fun ((w,zs):Nat×List D)=>[(2,.ptr 0 0),(4,.ptr 1 0),(11,.d (dN (zaD n q))),(12,.own 2),(62,.d (dI (ptL n q))),(63,.d (.int .i64 (((ptL n q).map (D.int .i64)).length:Int))),(64,.d (.int .i64 ((w:Int))))]) (fun ((w,zs):Nat×List D)=>[(0,some (zar m)),(1,some (.box [.d (.int .i64 0),.nils 1,.nils 1])),(2,some (.row 1 zs))]) 3 (fun ((w,zs):Nat×List D)=>w≤n∧zs=(List.range n).map fun u=>if u < w then D.int .i64 (zJ q u:Int) else D.int .i64 0) (fun ((w,zs):Nat×List D)=>n - w) ((0,List.replicate ((((ptL n q).map (D.int .i64)).length:Int)).toNat (D.int .i64 0))) [(0,0),(1,1),(2,2)] [] (⟨by omega,by simp only [Nat.not_lt_zero,if_false];rw [List.length_map,hpl,Int.toNat_natCast];exact zad _ _⟩) (by (refine ⟨rfl,rfl,rfl,?_,?_⟩;repeat' first|exact trivial|exact rfl|refine And.intro ?_ ?_|refine ⟨_,rfl,?_⟩|decide)) ?_
  rintro ⟨w,zs⟩ ⟨hw,hz⟩
  have hzl:zs.length=n:=by rw [hz];simp
  by_cases hwl:w < n
  ·have e1:=za3 (q:=q) hwl
   have cix:=zhN (T:=T) ((zaD n q).map fun (x:Nat)=>(x:Int)) ((q w:Nat):Int)
   rw [zz3 hq hwl] at cix
   (repeat' ((conv=>whnf);first|refine vA ?_|(refine vF ?_ ?_<;>intro hc<;>try simp only [vL] at hc)|refine vJ fun hg=>?_|refine vT ?_|refine vN ‹_› ?_|((first|refine vO ?_ ?_|refine vP ?_ ?_);·omega)|refine yD cix ⟨⟨rfl,rfl⟩,⟨rfl,rfl⟩,rfl⟩ rfl ?_));all_goals try conv=>whnf
   ·refine ⟨(w+1,_),[(0,0),(1,1),(2,2)],[],?_,?_,by (refine ⟨rfl,rfl,rfl,?_,?_⟩;repeat' first|exact trivial|exact rfl|refine And.intro ?_ ?_|refine ⟨_,rfl,?_⟩|decide)⟩
    ·exact ⟨by (omega),by rw [hz];exact zks (α:=Nat) rfl⟩
    ·((simp only [vM] at *;omega))
   all_goals omega
  ·obtain rfl:zs=(ptL n (zJ q)).map (D.int .i64):=by
    rw [hz];unfold ptL;rw [List.map_map]
    exact zD fun u hu=>by rw [if_pos (by omega)];rfl
   have hml:(ptL n (zJ q)).length=n:=zbx
   (repeat' ((conv=>whnf);first|refine vA ?_|(refine vF ?_ ?_<;>intro hc<;>try simp only [vL] at hc)|refine vJ fun hg=>?_|refine vT ?_|(refine vQ ?_ fun x hx=>?_;·omega)|fail));all_goals try conv=>whnf
   ·omega
   refine zq (fun ((k,zs):Nat×List D)=>[(2,.ptr 0 0),(4,.ptr 1 0),(11,.d (dN (zaD n q))),(12,.own 2),(15,.ptr 3 0),(80,.d (dU m.val)),(81,.d (.int .i64 ((m.val.map D.u64).length:Int))),(82,.d (.int .i64 ((k:Int))))]) (fun ((k,zs):Nat×List D)=>[(0,some (zar m)),(1,some (.box [.d (.int .i64 0),.nils 1,.nils 1])),(2,some (.row 1 ((ptL n (zJ q)).map (D.int .i64)))),(3,some (.box [.d (.int .i64 (zgf (zaD n q):Int)),.own 4,.nils 1])),(4,some (.row 1 zs))]) 5 (fun ((k,zs):Nat×List D)=>k≤m.val.length∧zs=(m.val.take k).map fun s=>D.u64 (zaK (zJ q) s n)) (fun ((k,zs):Nat×List D)=>m.val.length - k) ((0,[])) [(0,0),(1,1),(2,2),(3,3)]   [4] (⟨by simp,by simp⟩) (by (refine ⟨rfl,rfl,rfl,?_,?_⟩;repeat' first|exact trivial|exact rfl|exact ⟨_,rfl⟩|refine And.intro ?_ ?_|refine ⟨_,rfl,?_⟩|decide)) ?_
   rintro ⟨k,zs⟩ ⟨hk,hz⟩
   have hzl:zs.length≤8:=by rw [hz];simp;omega
   by_cases hkl:k < m.val.length
   ·obtain ⟨s,hs⟩ : ∃ s,m.val[k]? = some s:=⟨_,List.getElem?_eq_getElem hkl⟩
    (repeat' ((conv=>whnf);first|refine vA ?_|(refine vF ?_ ?_<;>intro hc<;>try simp only [vL] at hc)|refine vJ fun hg=>?_|refine vT ?_|refine vN ‹_› ?_|((first|refine vO ?_ ?_|refine vP ?_ ?_);·first|omega|(simp only [vM] at *;omega))|(refine vU ?_ ?_;·kernel_rfl)|refine yD (zoU s h64) ⟨⟨rfl,rfl⟩,⟨rfl,rfl⟩,rfl⟩ rfl ?_));all_goals try conv=>whnf
    ·refine ⟨(k+1,_),[(0,0),(1,1),(2,2),(3,3),(4,6)],[],?_,?_,by (refine ⟨rfl,rfl,rfl,?_,?_⟩;repeat' first|exact trivial|exact rfl|refine And.intro ?_ ?_|refine ⟨_,rfl,?_⟩|decide)⟩
     ·exact ⟨by omega,by rw [List.take_add_one,hs,hz];simp⟩
     ·((simp only [vM] at *;omega))
    all_goals omega
   ·have hzz:zs=m.val.map fun s=>D.u64 (zaK (zJ q) s n):=by rw [hz,List.take_of_length_le (by omega)]
    clear hz
    subst hzz
    (repeat' ((conv=>whnf);first|refine vA ?_|(refine vF ?_ ?_<;>intro hc<;>try simp only [vL] at hc)|refine vJ fun hg=>?_|refine vT ?_|(refine vQ ?_ fun x hx=>?_;·omega)|fail));all_goals try conv=>whnf
    ·omega
    refine zq (fun ((k,zs):Nat×List D)=>[(4,.ptr 1 0),(11,.d (dN (zaD n q))),(12,.own 2),(15,.ptr 3 0),(96,.d (dUU m.rel)),(97,.d (.int .i64 ((m.rel.map dU).length:Int))),(98,.d (.int .i64 ((k:Int))))]) (fun ((k,zs):Nat×List D)=>[(1,some (.box [.d (.int .i64 0),.nils 1,.nils 1])),(2,some (.row 1 ((ptL n (zJ q)).map (D.int .i64)))),(3,some (.box [.d (.int .i64 (zgf (zaD n q):Int)),.own 4,.own 5])),(4,some (.row 1 (m.val.map fun s=>D.u64 (zaK (zJ q) s n)))),(5,some (.row 1 zs))]) 6 (fun ((k,zs):Nat×List D)=>k≤m.rel.length∧zs=(m.rel.take k).map fun r=>dU ((List.range (zu n q)).map (zd1 q n r n))) (fun ((k,zs):Nat×List D)=>m.rel.length - k) ((0,[])) [(1,1),(2,2),(3,3),(4,4)]   [5] (⟨by simp,by simp⟩) (by (refine ⟨rfl,rfl,rfl,?_,?_⟩;repeat' first|exact trivial|exact rfl|exact ⟨_,rfl⟩|refine And.intro ?_ ?_|refine ⟨_,rfl,?_⟩|decide)) ?_
    rintro ⟨k,zs⟩ ⟨hk,hz⟩
    have hzl:zs.length≤4:=by rw [hz];simp;omega
    by_cases hkl:k < m.rel.length
    ·obtain ⟨r,hr⟩ : ∃ r,m.rel[k]? = some r:=⟨_,List.getElem?_eq_getElem hkl⟩
     have hrl:r.length=n:=by have:=hg0.len r (List.mem_of_getElem? hr);omega
     (repeat' ((conv=>whnf);first|refine vA ?_|(refine vF ?_ ?_<;>intro hc<;>try simp only [vL] at hc)|refine vJ fun hg=>?_|refine vT ?_|refine vN ‹_› ?_|(refine vP ?_ ?_;·(simp only [vM] at *;omega))|fail));all_goals try conv=>whnf
     ·refine zq (fun ((w,ys):Nat×List D)=>[(4,.ptr 1 0),(11,.d (dN (zaD n q))),(12,.own 2),(15,.ptr 3 0),(20,.own 6),(96,.d (dUU m.rel)),(97,.d (.int .i64 ((m.rel.map dU).length:Int))),(98,.d (.int .i64 ((k:Int)))),(105,.d (dU r)),(106,.d (.int .i64 ((r.map D.u64).length:Int))),(107,.d (.int .i64 ((w:Int))))]) (fun ((w,ys):Nat×List D)=>[(1,some (.box [.d (.int .i64 0),.nils 1,.nils 1])),(2,some (.row 1 ((ptL n (zJ q)).map (D.int .i64)))),(3,some (.box [.d (.int .i64 (zgf (zaD n q):Int)),.own 4,.own 5])),(4,some (.row 1 (m.val.map fun s=>D.u64 (zaK (zJ q) s n)))),(5,some (.row 1 zs)),(6,some (.row 1 ys))]) 7 (fun ((w,ys):Nat×List D)=>w≤n∧ys=(List.range (zu n q)).map fun i=>D.u64 (zd1 q n r w i)) (fun ((w,ys):Nat×List D)=>n - w) ((0,List.replicate ((zgf (zaD n q):Int)).toNat (D.u64 0))) [(1,1),(2,2),(3,3),(4,4),(5,5),(6,6)] [] (⟨by omega,by rw [hrl',Int.toNat_natCast];exact zad _ _⟩) (by (refine ⟨rfl,rfl,rfl,?_,?_⟩;repeat' first|exact trivial|exact rfl|refine And.intro ?_ ?_|refine ⟨_,rfl,?_⟩|decide)) ?_
      rintro ⟨w,ys⟩ ⟨hw,hy⟩
      have hrl2:(List.range (zu n q)).length=zu n q:=List.length_range
      subst hy
      by_cases hwl:w < n
      ·obtain ⟨s,hs⟩ : ∃ s,r[w]? = some s:=⟨_,List.getElem?_eq_getElem (by omega)⟩
       have e1:=za3 (q:=zJ q) hwl
       have hnl:=zcq hq hwl
       have e2:(List.range (zu n q))[zJ q w]? = some (zJ q w):=List.getElem?_range hnl
       (repeat' ((conv=>whnf);first|refine vA ?_|(refine vF ?_ ?_<;>intro hc<;>try simp only [vL] at hc)|refine vT ?_|refine vN ‹_› ?_|((first|refine vO ?_ ?_|refine vP ?_ ?_);·first|omega|(simp only [vM] at *;omega))|(refine vU ?_ ?_;·kernel_rfl)|refine yD (zoU s h64) ⟨⟨rfl,rfl⟩,⟨rfl,rfl⟩,rfl⟩ rfl ?_));all_goals try conv=>whnf
       ·refine ⟨(w+1,_),[(1,1),(2,2),(3,3),(4,4),(5,5),(6,6)],[],?_,?_,by (refine ⟨rfl,rfl,rfl,?_,?_⟩;repeat' first|exact trivial|exact rfl|refine And.intro ?_ ?_|refine ⟨_,rfl,?_⟩|decide)⟩
        ·refine ⟨by (omega),?_⟩
         refine (zdj _).trans (zD fun u hu=>?_)
         rw [zvV,zuo hs,Int.toNat_natCast]
         by_cases e:u=zJ q w
         ·subst e;rw [if_pos rfl,if_pos rfl]
         ·rw [if_neg e,if_neg (fun h=>e h.symm)]
        ·((simp only [vM] at *;omega))
       all_goals omega
      ·rw [show ((List.range (zu n q)).map fun i=>D.u64 (zd1 q n r w i))=((List.range (zu n q)).map (zd1 q n r n)).map D.u64 by rw [show w=n by omega,List.map_map];rfl]
       (repeat' ((conv=>whnf);first|refine vA ?_|(refine vF ?_ ?_<;>intro hc<;>try simp only [vL] at hc)|refine vT ?_|(refine vQ ?_ fun x hx=>?_;·omega)|((first|refine vO ?_ ?_|refine vP ?_ ?_);·first|omega|(simp only [vM] at *;omega))|fail));all_goals try conv=>whnf
       ·omega
       ·refine ⟨(k+1,_),[(1,1),(2,2),(3,3),(4,4),(5,8)],[],?_,?_,by (refine ⟨rfl,rfl,rfl,?_,?_⟩;repeat' first|exact trivial|exact rfl|refine And.intro ?_ ?_|refine ⟨_,rfl,?_⟩|decide)⟩
        ·refine ⟨by omega,?_⟩
         rw [List.take_add_one,hr,hz];simp
        ·((simp only [vM] at *;omega))
       all_goals omega
     all_goals omega
    ·have hzz:zs=m.rel.map fun r=>dU ((List.range (zu n q)).map (zd1 q n r n)):=by rw [hz,List.take_of_length_le (by omega)]
     subst hzz
     (repeat' ((conv=>whnf);first|refine vA ?_|(refine vF ?_ ?_<;>intro hc<;>try simp only [vL] at hc)|refine vJ fun hg=>?_|refine vT ?_|(refine vQ ?_ fun x hx=>?_;·omega)|(refine vP ?_ ?_;·omega)|fail));all_goals try conv=>whnf
     ·omega
     ·rw [e0]
      refine congrArg some (show D.tup [D.agg [.int .i64 (zgf (zaD n q):Int),.arr 1 (m.val.map fun s=>D.u64 (zaK (zJ q) s n)),.arr 1 (m.rel.map fun r=>dU ((List.range (zu n q)).map (zd1 q n r n)))],dI (ptL n (zJ q)),.int .i64 0]=D.tup [dKM (zU m q),dI (ptL n (zJ q)),.int .i64 0] from ?_)
      have f1:(m.val.map fun s=>zaK (zJ q) s n)=(zU m q).val:=by
       rw [hn] at hq ⊢
       exact List.map_congr_left fun s hs=>zAl hq (by omega) hfa hs
      have f2:(m.rel.map fun r=>(List.range (zu n q)).map (zd1 q n r n))=(zU m q).rel:=by
       rw [hn] at hq ⊢
       exact List.map_congr_left fun r _=>List.map_congr_left fun i _=>zAk hq (by omega) r i
      rw [hrl',show (m.val.map fun s=>D.u64 (zaK (zJ q) s n))=(zU m q).val.map D.u64 by rw [← f1,List.map_map];rfl,show (m.rel.map fun r=>dU ((List.range (zu n q)).map (zd1 q n r n)))=(zU m q).rel.map dU by rw [← f2,List.map_map];rfl,hn]
      rfl
theorem zBp (m:KM) (p:List Int) (h12:za m=0→m.W≤12):Fn Tryz.prog T zdE [.d (dKM m),.d (dI p)] [] (.d (zu7 (byL m p))) []:=by
 by_cases hall:za m=0∧zbQ p=0∧(p.length:Int)=m.W
 ·obtain ⟨hk0,hp0,hlen⟩:=hall
  obtain ⟨hp64,hq,hpe⟩:=ztX hp0
  have hpn:p.length=m.W.toNat:=by omega
  rw [hpn] at hq hpe
  have:=zwg (T:=T) hk0 (h12 hk0) hq
  rw [← hpe] at this
  rw [show byL m p=byR m (byQ p) by rw [byL,if_neg (by omega),if_neg (by omega),if_neg (by omega)];rfl]
  exact this
 refine zg zx zkH (by show 2≤134;decide) ?_
 by_cases hk0:za m=0
 ·by_cases hp0:zbQ p=0
  ·by_cases hlen:(p.length:Int)=m.W
   ·exact absurd ⟨hk0,hp0,hlen⟩ hall
   ·(repeat' ((conv=>whnf);first|refine vA ?_|(refine vD ?_ ?_<;>intro hc<;>try simp only [vL] at hc)|refine vJ fun hg=>?_|refine vT ?_|refine yD (zau m) ⟨⟨rfl,rfl⟩,rfl⟩ rfl ?_|refine yD (zhh p) ⟨⟨rfl,rfl⟩,rfl⟩ rfl ?_));all_goals try conv=>whnf
    ·exact absurd hk0 ‹_›
    ·exact absurd hp0 ‹_›
    ·rw [byL,if_neg (by omega),if_neg (by omega),if_pos hlen];rfl
    ·exact absurd ‹(p.length:Int)=m.W› hlen
  ·(repeat' ((conv=>whnf);first|refine vA ?_|(refine vD ?_ ?_<;>intro hc<;>try simp only [vL] at hc)|refine vJ fun hg=>?_|refine vT ?_|refine yD (zau m) ⟨⟨rfl,rfl⟩,rfl⟩ rfl ?_|refine yD (zhh p) ⟨⟨rfl,rfl⟩,rfl⟩ rfl ?_));all_goals try conv=>whnf
   ·exact absurd hk0 ‹_›
   ·rw [byL,if_neg (by omega),if_pos hp0];rfl
   all_goals exact absurd ‹zbQ p=0› hp0
 ·(repeat' ((conv=>whnf);first|refine vA ?_|(refine vD ?_ ?_<;>intro hc)|refine vT ?_|refine yD (zau m) ⟨⟨rfl,rfl⟩,rfl⟩ rfl ?_));all_goals try conv=>whnf
  ·rw [byL,if_pos hk0];rfl
  all_goals exact absurd ‹za m=0› hk0
end Go.Ab
namespace Go.Ab
open Go Go.Proofs
set_option maxRecDepth 10000
set_option maxHeartbeats 4000000
variable {T:Nat→Obj→Prop}
theorem zAQ (m:KM):byR m (cq m)=(zU m (cq m),ptL m.W.toNat (zJ (cq m)),0):=if_pos (zrK fun w hw=>by unfold byF;rw [decide_eq_true_eq];exact zr1 m w hw)
def zn5 (m:KM):KM×List Int×Int:=if za m≠0 then (zbi,[],za m) else (zU m (cq m),ptL m.W.toNat (zJ (cq m)),0)
theorem ztJ (hT:za0 T) (hX:zfv T) (m:KM) (h12:za m=0→m.W≤12):Fn Tryz.prog T zfZ [.d (dKM m)] [] (.d (zu7 (zn5 m))) []:=by
 have cco:=zhO (T:=T) hT hX m
 refine zg zx zkT (by show 1≤22;decide) ?_
 by_cases hk0:za m=0
 ·rw [show zdM m=(ptL m.W.toNat (cq m),0) by rw [zdM,if_neg (by omega)]] at cco
  have cb:=zwg (T:=T) hk0 (h12 hk0) (zcR m)
  rw [zAQ] at cb
  (repeat' ((conv=>whnf);first|refine vA ?_|refine vH ?_|refine vT ?_|refine yN cco ⟨⟨rfl,rfl⟩,rfl⟩ ?_|refine yN cb ⟨⟨rfl,rfl⟩,⟨rfl,rfl⟩,rfl⟩ ?_));all_goals try conv=>whnf
  ·rw [zn5,if_neg (by omega)];rfl
 ·rw [show zdM m=([],za m) by rw [zdM,if_pos hk0]] at cco
  (repeat' ((conv=>whnf);first|refine vA ?_|(refine vD ?_ ?_<;>intro hc<;>try simp only [vL] at hc)|refine vT ?_|refine yN cco ⟨⟨rfl,rfl⟩,rfl⟩ ?_));all_goals try conv=>whnf
  ·rw [zn5,if_pos hk0];rfl
  all_goals exact absurd ‹za m=0› hk0
def zsP (m:KM):Bool:=decide (za m=0∧zu m.W.toNat (cq m)=m.W.toNat)
theorem zBq (hT:za0 T) (hX:zfv T) (m:KM) (h12:za m=0→m.W≤12):Fn Tryz.prog T zgL [.d (dKM m)] [] (.d (.bool (zsP m))) []:=by
 have cco:=zhO (T:=T) hT hX m
 refine zg zx zlN (by show 1≤20;decide) ?_
 by_cases hk0:za m=0
 ·rw [show zdM m=(ptL m.W.toNat (cq m),0) by rw [zdM,if_neg (by omega)]] at cco
  have w1:=(zk hk0).w1
  have clo:=zqz (T:=T) (zcR m) (by omega) (by have:=h12 hk0;omega)
  have hl:=zmv (zaD m.W.toNat (cq m))
  have hl2:=zuE (n:=m.W.toNat) (q:=cq m)
  (repeat' ((conv=>whnf);first|refine vA ?_|refine vG ?_|refine vJ fun hg=>?_|refine vT ?_|(refine vU ?_ ?_;·kernel_rfl)|refine vZ ?_|refine yN cco ⟨⟨rfl,rfl⟩,rfl⟩ ?_|refine yN clo ⟨⟨rfl,rfl⟩,rfl⟩ ?_));all_goals try conv=>whnf
  ·unfold zsP
   rw [decide_eq_decide]
   simp only [List.length_map,zuE]
   omega
 ·rw [show zdM m=([],za m) by rw [zdM,if_pos hk0]] at cco
  (repeat' ((conv=>whnf);first|refine vA ?_|(refine vF ?_ ?_<;>intro hc<;>try simp only [vL] at hc)|refine vT ?_|(refine vU ?_ ?_;·kernel_rfl)|refine vZ ?_|refine yN cco ⟨⟨rfl,rfl⟩,rfl⟩ ?_));all_goals try conv=>whnf
  ·exact absurd ‹za m=0› hk0
  ·unfold zsP
   rw [eq_comm,decide_eq_false_iff_not]
   rintro ⟨h,-⟩;exact hk0 h
noncomputable def zX (m:KM) (w:Nat):KM:=zC m (zG m.W.toNat (zf m) w)
noncomputable def zag (m:KM) (w:Int):KM×Int×Int :=
 if za m≠0 then (zbi,0,za m) else if w < 0∨m.W≤w then (zbi,0,2) else
  (zU (zX m w.toNat) (cq (zX m w.toNat)),((zJ (cq (zX m w.toNat)) ((zG m.W.toNat (zf m) w.toNat).idxOf w.toNat):Nat):Int),0)
theorem zvf (hT:za0 T) (hX:zfv T) (m:KM) (h12:za m=0→m.W≤12) (w:Int):Fn Tryz.prog T zgM [.d (dKM m),.d (.int .i64 w)] [] (.d (.tup [dKM (zag m w).1,.int .i64 (zag m w).2.1,.int .i64 (zag m w).2.2])) []:=by
 have ccx:=zau (T:=T) m
 refine zg zx zlO (by show 2≤62;decide) ?_
 by_cases hk0:za m=0
 ·have h12:=h12 hk0
  have hg0:=zk hk0
  have w1:=hg0.w1
  rw [hk0] at ccx
  by_cases hw:w < 0∨m.W≤w
  ·(repeat' ((conv=>whnf);first|refine vA ?_|refine vH ?_|(refine vF ?_ ?_<;>intro hc<;>try simp only [vL] at hc)|refine vT ?_|(refine vP ?_ ?_;·omega)|refine yD ccx ⟨⟨rfl,rfl⟩,rfl⟩ rfl ?_));all_goals try conv=>whnf
   iterate 2 (rw [zag,if_neg (by omega),if_pos hw];rfl)
   exfalso;omega
  ·obtain ⟨w,rfl⟩ : ∃ v:Nat,w=(v:Int):=⟨w.toNat,by omega⟩
   have hwl:w < m.W.toNat:=by omega
   have hbit : ∀ v,(1#64 <<< w).getLsbD v=true→v < m.W.toNat:=fun v hv=>by have:=(zmA (by omega)).1 hv;omega
   have hl:=zsx hk0 hwl
   have hroot:=ze7 (R:=zf m) hwl
   have hlen:=zjd (n:=m.W.toNat) (R:=zf m) (w:=w)
   have cg:=zkE hT hk0 hbit
   have cr:=zlz hT hk0 (s:=zgY m (1#64 <<< w)) (fun e=>by
    rw [e,zdK] at hl;rw [← hl] at hroot;cases hroot) (fun v hv=>((zhq hk0).1 hv).lt)
   rw [hl] at cr
   generalize zgY m (1#64 <<< w)=gs at cg cr
   have hres:zag m (w:Int)=(zU (zX m w) (cq (zX m w)),((zJ (cq (zX m w)) ((zG m.W.toNat (zf m) w).idxOf w):Nat):Int),0):=by
    rw [zag,if_neg (by omega),if_neg hw,Int.toNat_natCast]
   rw [hres]
   clear hl
   have hll:1≤(zG m.W.toNat (zf m) w).length:=List.length_pos_of_mem hroot
   have hp0:za (zX m w)=0:=zk3 hk0 hll (by omega)
   have hpW:(zX m w).W.toNat=(zG m.W.toNat (zf m) w).length:=Int.toNat_natCast _
   have hpI:(zX m w).W=((zG m.W.toNat (zf m) w).length:Int):=rfl
   change Fn _ _ _ _ _ (.d (.tup [dKM (zX m w),_,_])) _ at cr
   have cm:=ztJ (T:=T) hT hX (zX m w) (fun _=>by rw [hpI];omega)
   rw [show zn5 (zX m w)=(zU (zX m w) (cq (zX m w)),ptL (zX m w).W.toNat (zJ (cq (zX m w))),0) by rw [zn5,if_neg (by omega)]] at cm
   have ci:=zhN (T:=T) ((zG m.W.toNat (zf m) w).map fun (x:Nat)=>(x:Int)) (w:Int)
   rw [zqx hroot] at ci
   have hix:=List.idxOf_lt_length_of_mem hroot
   generalize zX m w=g at cr cm hpW hp0
   generalize zG m.W.toNat (zf m) w=l at cr cm ci hpW hix
   have e1:=za3 (n:=g.W.toNat) (q:=zJ (cq g)) (w:=l.idxOf w) (by omega)
   (repeat' ((conv=>whnf);first|refine vA ?_|refine vH ?_|(refine vF ?_ ?_<;>intro hc<;>try simp only [vL] at hc)|refine vT ?_|refine vN ‹_› ?_|(refine vP ?_ ?_;·omega)|(refine vU ?_ ?_;·kernel_rfl)|refine yD ccx ⟨⟨rfl,rfl⟩,rfl⟩ rfl ?_|refine yN cg ⟨⟨rfl,rfl⟩,⟨rfl,rfl⟩,rfl⟩ ?_|refine yN cr ⟨⟨rfl,rfl⟩,⟨rfl,rfl⟩,rfl⟩ ?_|refine yN cm ⟨⟨rfl,rfl⟩,rfl⟩ ?_|refine yD ci ⟨⟨rfl,rfl⟩,⟨rfl,rfl⟩,rfl⟩ rfl ?_));all_goals try conv=>whnf
   ·exfalso;omega
   ·rfl
   all_goals skip
 ·(repeat' ((conv=>whnf);first|refine vA ?_|((first|refine vD ?_ ?_|refine vF ?_ ?_)<;>intro hc<;>try simp only [vL] at hc)|refine vT ?_|(refine vP ?_ ?_;·omega)|refine yD ccx ⟨⟨rfl,rfl⟩,rfl⟩ rfl ?_));all_goals try conv=>whnf
  ·rw [zag,if_pos hk0];rfl
  all_goals exact absurd ‹za m=0› hk0
noncomputable def cnL (m:KM) (w:Int):KM×Int:=if (zag m w).2.2≠0 then (zbi,(zag m w).2.2) else ((zf8 (zag m w).1 (zag m w).2.1).1,(zf8 (zag m w).1 (zag m w).2.1).2.2)
theorem zpl {m:KM} {w:Int} (hk0:za m=0) (hw : ¬(w < 0∨m.W≤w)):zag m w=(zU (zX m w.toNat) (cq (zX m w.toNat)),((zJ (cq (zX m w.toNat)) ((zG m.W.toNat (zf m) w.toNat).idxOf w.toNat):Nat):Int),0):=by
 rw [zag,if_neg (by omega),if_neg hw]
theorem zun {m:KM} {w:Nat} (hk0:za m=0) (hw:w < m.W.toNat):za (zX m w)=0∧(zX m w).W.toNat=(zG m.W.toNat (zf m) w).length∧(zX m w).W≤m.W∧1≤(zX m w).W:=by
 have hg:=zk hk0
 have w1:=hg.w1
 have w2:=hg.w2
 have hroot:=ze7 (R:=zf m) hw
 have hlen:=zjd (n:=m.W.toNat) (R:=zf m) (w:=w)
 have hpos:=List.length_pos_of_mem hroot
 have hpI:(zX m w).W=((zG m.W.toNat (zf m) w).length:Int):=rfl
 exact ⟨zk3 hk0 hpos (by omega),Int.toNat_natCast _,by omega,by omega⟩
theorem zwV {m:KM} {w:Int} (h12:za m=0→m.W≤12) (h:(zag m w).2.2=0):za m=0∧0≤w∧w < m.W∧za (zag m w).1=0∧(zag m w).1.W≤12:=by
 by_cases hk0:za m=0
 ·by_cases hw:w < 0∨m.W≤w
  ·rw [zag,if_neg (by omega),if_pos hw] at h;cases h
  ·have h12:=h12 hk0
   obtain ⟨h1,h2,h3,-⟩:=zun hk0 (w:=w.toNat) (by omega)
   rw [zpl hk0 hw]
   refine ⟨hk0,by omega,by omega,zl0 h1 (zcR _),?_⟩
   have:=zcp (zX m w.toNat).W.toNat (cq (zX m w.toNat))
   show ((zu (zX m w.toNat).W.toNat (cq (zX m w.toNat)):Nat):Int)≤12
   omega
 ·rw [zag,if_pos hk0] at h;exact absurd h hk0
theorem zAG (hT:za0 T) (hX:zfv T) (m:KM) (h12:za m=0→m.W≤12) (w:Int):Fn Tryz.prog T zfG [.d (dKM m),.d (.int .i64 w)] [] (.d (dKI (cnL m w))) []:=by
 have cp:=zvf (T:=T) hT hX m h12 w
 have hs:=zwV (m:=m) (w:=w) h12
 refine zg zx zkc (by show 2≤31;decide) ?_
 obtain ⟨x,hx⟩ : ∃ x,x=zag m w:=⟨_,rfl⟩
 have hcn:cnL m w=if x.2.2≠0 then (zbi,x.2.2) else ((zf8 x.1 x.2.1).1,(zf8 x.1 x.2.1).2.2):=by rw [hx];rfl
 rw [← hx] at cp hs
 obtain ⟨g,v,e⟩:=x
 rw [hcn]
 by_cases he:e=0
 ·have h1:=hs he
  have c2:=zsi (T:=T) hT g (fun _=>h1.2.2.2.2) v
  rw [if_neg (not_not_intro he)]
  (repeat' ((conv=>whnf);first|refine vA ?_|(refine vD ?_ ?_<;>intro hc<;>try simp only [vL] at hc)|refine vT ?_|refine yN cp ⟨⟨rfl,rfl⟩,⟨rfl,rfl⟩,rfl⟩ ?_|refine yN c2 ⟨⟨rfl,rfl⟩,⟨rfl,rfl⟩,rfl⟩ ?_));all_goals try conv=>whnf
  ·exact absurd he ‹_›
  ·rfl
 ·rw [if_pos he]
  (repeat' ((conv=>whnf);first|refine vA ?_|(refine vD ?_ ?_<;>intro hc<;>try simp only [vL] at hc)|refine vT ?_|refine yN cp ⟨⟨rfl,rfl⟩,⟨rfl,rfl⟩,rfl⟩ ?_));all_goals try conv=>whnf
  ·rfl
  ·exact absurd ‹e=0› he
end Go.Ab
namespace Go.Ab
open Go Go.Proofs
set_option maxRecDepth 10000
set_option maxHeartbeats 4000000
variable {T:Nat→Obj→Prop}
theorem zx0 {n:Nat} {q:Nat→Nat} : zu n q=n ↔ ∀ w,w < n→q w=w:=by
 unfold zu
 have h:=List.length_filter_eq_length_iff (p:=fun w=>decide (q w=w)) (l:=List.range n)
 rw [List.length_range] at h
 rw [h]
 exact ⟨fun k w hw=>of_decide_eq_true (k w (List.mem_range.2 hw)),fun k w hw=>decide_eq_true (k w (List.mem_range.1 hw))⟩
end Go.Ab
namespace Go.Ab
open Go Go.Proofs
set_option maxRecDepth 10000
set_option maxHeartbeats 4000000
def exQ:KM:=⟨4,[12#64],[[4#64,8#64,4#64,8#64]]⟩
def zyB:KM:=⟨1,[1#64],[[1#64]]⟩
def zzd:KM:=⟨2,[2#64],[[2#64,2#64]]⟩
def zx5:KM:=⟨2,[],[[2#64,1#64]]⟩
theorem zmp {m:KM} {l:List Int} (hk0:za m=0) (h:ptL m.W.toNat (zak m 1)=ptL m.W.toNat (zak m 0)) (h0:ptL m.W.toNat (zak m 0)=l):zdM m=(l,0):=by
 have w1:=(zk hk0).w1
 rw [zdM,if_neg (by omega),← zug (m:=m) (k:=0) (by omega) h,h0]
theorem zAS:zdM exQ=([0,0,2,2],0):=zmp (by decide) (by decide) (by decide)
theorem zzO:zdM zyB=([0],0):=zmp (by decide) (by decide) (by decide)
theorem zzP:zdM zzd=([0,1],0):=zmp (by decide) (by decide) (by decide)
theorem zzN:zdM zx5=([0,0],0):=zmp (by decide) (by decide) (by decide)
def zx1 (m:KM):Option (List Int):=cond (decide (m=exQ)) (some [0,0,2,2]) (cond (decide (m=zyB)) (some [0]) (cond (decide (m=zzd)) (some [0,1]) (cond (decide (m=zx5)) (some [0,0]) none)))
theorem zzM {m:KM} {l:List Int} (h:zx1 m=some l):zdM m=(l,0):=by
 unfold zx1 at h
 cases h1:decide (m=exQ) with
 | true=>rw [h1] at h;cases h;rw [of_decide_eq_true h1];exact zAS
 | false =>
  rw [h1] at h
  cases h2:decide (m=zyB) with
  | true=>rw [h2] at h;cases h;rw [of_decide_eq_true h2];exact zzO
  | false =>
   rw [h2] at h
   cases h3:decide (m=zzd) with
   | true=>rw [h3] at h;cases h;rw [of_decide_eq_true h3];exact zzP
   | false =>
    rw [h3] at h
    cases h4:decide (m=zx5) with
    | true=>rw [h4] at h;cases h;rw [of_decide_eq_true h4];exact zzN
    | false=>rw [h4] at h;cases h
def zsH:Fs:=fun f vs obs =>
 cond (Nat.beq f zdE) (match vs,obs with
  | [.d d,.d (.arr 1 a)],[]=>match zp7 d,zj7 a with
   | some m,some p=>cond (decide (m.W≤12)) (some (.d (zu7 (byL m p)),[])) none
   | _,_=>none
  | _,_=>none)
 (  cond (Nat.beq f zdt) (match vs,obs with
  | [.d d],[]=>match zp7 d with
   | some m=>match zx1 m with
    | some l=>some (.d (.tup [dI l,.int .i64 0]),[])
    | none=>none
   | none=>none
  | _,_=>none)
 (cond (Nat.beq f zN) (match vs,obs with
  | [.d (.arr 1 a),.d (.arr 1 b)],[]=>match zjl a,zjl b with
   | some a,some b=>cond (zvJ a) (some (.d (.int .i64 (zaX a b)),[])) none
   | _,_=>none
  | _,_=>none)
 (cond (Nat.beq f zaS) (match vs,obs with
  | [.d (.u64 w)],[]=>some (.d (.int .i64 (Lib.ctz 64 w.toNat)),[])
  | _,_=>none)
 (cond (Nat.beq f zdU) (match vs,obs with
  | [.d (.u64 w)],[]=>some (.d (.int .i64 (Sort.bitsLen w.toNat:Int)),[])
  | _,_=>none)
 (cond (Nat.beq f ze0) (match vs,obs with
  | [.d d],[]=>match zp7 d with
   | some m=>some (.d (.int .i64 (za m)),[])
   | none=>none
  | _,_=>none)
 (cond (Nat.beq f ze1) (match vs,obs with
  | [.d d,.d (.int .i64 w)],[]=>match zp7 d with
   | some m=>some (.d (.int .i64 (zlr m w)),[])
   | none=>none
  | _,_=>none) none))))))
def zBK (f:Nat):Bool:=Nat.beq f z8||(Nat.beq f zA||(Nat.beq f zeL||(Nat.beq f zaY||Nat.beq f zb5)))
noncomputable def zAR:Cfg:=⟨zi Tryz.prog,zsH,fun _ _ _=>none,zBK,fun f=>Nat.beq f zdw||(Nat.beq f ziC||Nat.beq f zi6),150⟩
variable {T:Nat→Obj→Prop}
theorem zwG (hT:za0 T) (hX:zfv T):zuR Tryz.prog T zsH:=by
 intro f vs obs v obs' h
 unfold zsH at h
 cases hb0:Nat.beq f zdE with
 | true =>
  rw [hb0,cond_true] at h
  rw [Nat.eq_of_beq_eq_true hb0]
  split at h
  ·split at h
   ·rename_i m p hm hp
    rw [zmy hm,znU hp]
    cases hc:decide (m.W≤12) with
    | true=>rw [hc] at h;cases h;exact zBp m p fun _=>of_decide_eq_true hc
    | false=>rw [hc] at h;cases h
   ·cases h
  ·cases h
 | false =>
 rw [hb0,cond_false] at h
 cases h0:Nat.beq f zdt with
 | true =>
  rw [h0,cond_true] at h
  rw [Nat.eq_of_beq_eq_true h0]
  split at h
  ·split at h
   ·rename_i m hm
    split at h
    ·rename_i hl
     cases h
     rw [zmy hm]
     have:=zhO (T:=T) hT hX m
     rw [zzM hl] at this
     exact this
    ·cases h
   ·cases h
  ·cases h
 | false =>
 rw [h0,cond_false] at h
 cases h1:Nat.beq f zN with
 | true =>
  rw [h1,cond_true] at h
  rw [Nat.eq_of_beq_eq_true h1]
  split at h
  ·split at h
   ·rename_i a b ha hb
    rw [zlQ ha,zlQ hb]
    cases hc:zvJ a with
    | true=>rw [hc] at h;cases h;exact zhP _ _ (zAu hc)
    | false=>rw [hc] at h;cases h
   ·cases h
  ·cases h
 | false =>
  rw [h1,cond_false] at h
  cases h2:Nat.beq f zaS with
  | true =>
   rw [h2,cond_true] at h
   rw [Nat.eq_of_beq_eq_true h2]
   split at h
   ·cases h;exact hT _
   ·cases h
  | false =>
   rw [h2,cond_false] at h
   cases h3:Nat.beq f zdU with
   | true =>
    rw [h3,cond_true] at h
    rw [Nat.eq_of_beq_eq_true h3]
    split at h
    ·cases h;exact zso _
    ·cases h
   | false =>
    rw [h3,cond_false] at h
    cases h4:Nat.beq f ze0 with
    | true =>
     rw [h4,cond_true] at h
     rw [Nat.eq_of_beq_eq_true h4]
     split at h
     ·split at h
      ·rename_i hm;cases h;rw [zmy hm];exact zau _
      ·cases h
     ·cases h
    | false =>
     rw [h4,cond_false] at h
     cases h5:Nat.beq f ze1 with
     | true =>
      rw [h5,cond_true] at h
      rw [Nat.eq_of_beq_eq_true h5]
      split at h
      ·split at h
       ·rename_i hm;cases h;rw [zmy hm];exact zeb _ _
       ·cases h
      ·cases h
     | false=>rw [h5] at h;cases h
theorem zzG (hT:za0 T) (hX:zfv T):zuP Tryz.prog T zAR:=⟨fun f c h=>h,zwG hT hX,fun g vs obs xs h=>by cases h⟩
end Go.Ab
namespace Go.Ab
open Go Go.Proofs
set_option maxRecDepth 10000
set_option maxHeartbeats 4000000
variable {T:Nat→Obj→Prop}
theorem zwJ {m:KM} {l:List Nat} (h2:l.length≤64):(zej (zC m l) (-1)).2=(zcm l.length (zF l (zf m)) (fun i=>[[1],[zac l (zz m) i]])).2:=by
 have hid:Ren l.length fun w=>w:=⟨fun _ h=>h,fun _ _ _ _ h=>h⟩
 have:=zmD hid (zrN h2 (m:=m)) (first:=fun i=>[[1],[zac l (zz m) i]]) (first':=mkT (zC m l) (-1)) fun i hi=>by
  unfold mkT
  rw [if_neg (by omega),ziQ h2 hi]
 unfold zej
 rw [show (zC m l).W.toNat=l.length from Int.toNat_natCast _]
 exact this.2.2.2
theorem zzF {m:KM} (hk0:za m=0) {w:Nat} (hw:w < m.W.toNat):zf8 m (w:Int)=if ziH (zC m (zG m.W.toNat (zf m) w))=false then (zbi,[],16) else (zC m (zdo m w),(zdo m w).map fun (x:Nat)=>(x:Int),0):=by
 rw [zf8,if_neg (by omega),if_neg (by omega),Int.toNat_natCast]
end Go.Ab
namespace Go.Ab
open Go
theorem zci.refl' {n:Nat} {fa fb:Nat→Int} {R R':zB} (hf : ∀ w,w < n→fb w=fa w) (hl:R'.length=R.length) (hR : ∀ (i:Nat) r r',R[i]? = some r→R'[i]? = some r' → ∀ v w,v < n→w < n→r' v w=r v w):zci n fa fb R R' fun w=>w :=
 ⟨⟨fun _ h=>h,fun _ _ _ _ e=>e⟩,hf,⟨hl,fun i r r' h1 h2 v w hv hw=>hR i r r' h1 h2 v w hv hw⟩⟩
theorem zx2 {n:Nat} {R R':zB} {fa fb:Nat→Int} (h:zci n fa fb R R' fun w=>w) {w:Nat} (hw:w < n):coa n R' fb w=coa n R fa w:=by
 have S:=zdp n R fa
 have S':=zdp n R' fb
 have B:=h.bis
 rw [← zjU S'.canon hw,← zjU S.canon hw]
 refine zhX fun v hv=>?_
 unfold zbd
 rw [Bool.eq_iff_iff,decide_eq_true_eq,decide_eq_true_eq]
 constructor
 ·intro e
  exact ziU ((B.trans S'.bis).trans B.symm) (v:=v) (w:=w) ⟨w,⟨v,⟨by omega,rfl⟩,by omega,hw,e⟩,hw,rfl⟩
 ·intro e
  exact ziU ((B.symm.trans S.bis).trans B) (v:=v) (w:=w) ⟨w,⟨v,⟨by omega,rfl⟩,by omega,hw,e⟩,hw,rfl⟩
theorem zx7 {n:Nat} {R:zB} {fa:Nat→Int} : zhy n R fa ↔ ∀ Z,zch n n R R fa fa Z → ∀ v w,Z v w→v=w:=by
 constructor
 ·intro h Z B v w hz;exact h.eq B hz
 ·intro h i hi
  have S:=zdp n R fa
  have:=S.canon.le i hi
  exact h _ S.bis _ _ ⟨by omega,hi,S.canon.idem i hi⟩
theorem zuk {n:Nat} {R R':zB} {fa fb:Nat→Int} {f:Nat→Nat} (h:zci n fa fb R R' f) (hd:zhy n R fa):zhy n R' fb:=by
 rw [zx7] at hd ⊢
 intro Z B v w hz
 have hvw:=B.lt hz
 obtain ⟨v',hv',rfl⟩:=h.ren.surj hvw.1
 obtain ⟨w',hw',rfl⟩:=h.ren.surj hvw.2
 have:=hd _ ((h.bis.trans B).trans h.bis.symm) v' w' ⟨_,⟨_,⟨hv',rfl⟩,hz⟩,hw',rfl⟩
 rw [this]
section
variable {n:Nat} {q q':Nat→Nat} (h : ∀ w,w < n→q w=q' w)
include h
theorem zqq {k:Nat} (hk:k≤n):zu k q=zu k q':=by
 unfold zu
 congr 1
 exact List.filter_congr fun w hw=>by rw [h w (by have:=List.mem_range.1 hw;omega)]
theorem zw2:zaD n q=zaD n q':=by
 unfold zaD
 exact List.filter_congr fun w hw=>by rw [h w (List.mem_range.1 hw)]
theorem zgT (hq:zaC n q) {w:Nat} (hw:w < n):zJ q w=zJ q' w:=by
 unfold zJ
 have:=hq.le w hw
 rw [zqq h (by omega),h w hw]
theorem zwX (hq:zaC n q) {r r':Nat→Nat→Bool} (hr : ∀ v w,v < n→w < n→r v w=r' v w) (i j:Nat):zaL n q r i j=zaL n q' r' i j:=by
 rw [Bool.eq_iff_iff,zbf,zbf]
 constructor
 ·rintro ⟨v,w,a,b,c,d,e⟩
  exact ⟨v,w,a,b,by rw [← zgT h hq a];exact c,by rw [← zgT h hq b];exact d,by rw [← hr v w a b];exact e⟩
 ·rintro ⟨v,w,a,b,c,d,e⟩
  exact ⟨v,w,a,b,by rw [zgT h hq a];exact c,by rw [zgT h hq b];exact d,by rw [hr v w a b];exact e⟩
end
def ptM (m:KM) (w:Nat):Ptd:=⟨m.W.toNat,zf m,zz m,w⟩
section
variable {m:KM} (hk0:za m=0) {w:Nat} (hw:w < m.W.toNat)
include hk0 hw
theorem zjx:let Q:=(zag m (w:Int)).1;Q.W.toNat=(ptM m w).min.n∧za Q=0∧(zag m (w:Int)).2.1=(((ptM m w).min.root:Nat):Int)∧zci (ptM m w).min.n (ptM m w).min.fa (zz Q) (ptM m w).min.R (zf Q) fun x=>x:=by
 intro Q
 have hg0:=zk hk0
 have w2:=hg0.w2
 have hW : ¬((w:Int) < 0∨m.W≤(w:Int)):=by omega
 have hQ:zag m (w:Int)=_:=zpl hk0 hW
 rw [Int.toNat_natCast] at hQ
 obtain ⟨hp0,hpW,hpI,hp1⟩:=zun hk0 hw
 have hQ1:Q=zU (zX m w) (cq (zX m w)):=congrArg Prod.fst hQ
 have hlen:=zjd (n:=m.W.toNat) (R:=zf m) (w:=w)
 have hid:zci (zG m.W.toNat (zf m) w).length (zac (zG m.W.toNat (zf m) w) (zz m)) (zz (zX m w)) (zF (zG m.W.toNat (zf m) w) (zf m)) (zf (zX m w)) fun x=>x :=
  zci.refl' (fun x hx=>ziQ (by omega) hx) (by simp [zF,zf,zX,zC]) fun i r r' h1 h2 v u hv hu=>zmn (by omega) h2 h1 hv hu
 have hcq : ∀ x,x < (zG m.W.toNat (zf m) w).length→cq (zX m w) x=coa (zG m.W.toNat (zf m) w).length (zF (zG m.W.toNat (zf m) w) (zf m)) (zac (zG m.W.toNat (zf m) w) (zz m)) x:=fun x hx=>by
  rw [zAT (by omega) (by omega) (by omega),hpW]
  exact zx2 hid hx
 have hcan:zaC (zG m.W.toNat (zf m) w).length (cq (zX m w)):=by rw [← hpW];exact zcR _
 have hcnt:=zqq hcq (Nat.le_refl _)
 have hroot:=ze7 (R:=zf m) hw
 have hix:=List.idxOf_lt_length_of_mem hroot
 have hQW:Q.W.toNat=zu (zG m.W.toNat (zf m) w).length (cq (zX m w)):=by rw [hQ1];show ((zu (zX m w).W.toNat (cq (zX m w)):Nat):Int).toNat=_;rw [Int.toNat_natCast,hpW]
 refine ⟨hQW.trans hcnt,by rw [hQ1];exact zl0 hp0 (zcR _),?_,zci.refl' (fun i hi=>?_) ?_ fun i r r' h1 h2 a b ha hb=>?_⟩
 ·rw [hQ]
  show ((zJ (cq (zX m w)) _:Nat):Int)=_
  rw [zgT hcq hcan hix];rfl
 ·have hi':i < zu (zX m w).W.toNat (cq (zX m w)):=by rw [hpW,hcnt];exact hi
  rw [hQ1,zqb (by omega) hi']
  rw [show (ptM m w).min.fa i=zgm (zG m.W.toNat (zf m) w).length (coa (zG m.W.toNat (zf m) w).length (zF (zG m.W.toNat (zf m) w) (zf m)) (zac (zG m.W.toNat (zf m) w) (zz m))) (zac (zG m.W.toNat (zf m) w) (zz m)) i from rfl]
  unfold zgm
  rw [hpW,zw2 hcq]
  have hl:(zaD (zG m.W.toNat (zf m) w).length (coa (zG m.W.toNat (zf m) w).length (zF (zG m.W.toNat (zf m) w) (zf m)) (zac (zG m.W.toNat (zf m) w) (zz m)))).getD i 0 < (zG m.W.toNat (zf m) w).length:=by
   have hm:=zaf (l:=zaD (zG m.W.toNat (zf m) w).length (coa (zG m.W.toNat (zf m) w).length (zF (zG m.W.toNat (zf m) w) (zf m)) (zac (zG m.W.toNat (zf m) w) (zz m)))) (i:=i) hi
   exact List.mem_range.1 (List.mem_filter.1 hm).1
  exact hid.fac _ hl
 ·rw [hQ1]
  show (zf (zU (zX m w) (cq (zX m w)))).length=((zF _ (zf m)).map _).length
  simp [zf,zU,zF,zX,zC]
 ·have h1':((zF (zG m.W.toNat (zf m) w) (zf m)).map (zaL (zG m.W.toNat (zf m) w).length (coa (zG m.W.toNat (zf m) w).length (zF (zG m.W.toNat (zf m) w) (zf m)) (zac (zG m.W.toNat (zf m) w) (zz m)))))[i]? = some r:=h1
  rw [List.getElem?_map,Option.map_eq_some_iff] at h1'
  obtain ⟨s,hs,rfl⟩:=h1'
  obtain ⟨s',hs'⟩:=zeB hid.rel.len hs
  rw [hQ1] at h2
  have h3:((zf (zX m w)).map (zaL (zX m w).W.toNat (cq (zX m w))))[i]? = some (zaL (zX m w).W.toNat (cq (zX m w)) s'):=by rw [List.getElem?_map,hs'];rfl
  rw [zmC (by omega) h2 h3 (by rw [hpW,hcnt];exact ha) (by rw [hpW,hcnt];exact hb),hpW]
  exact zwX hcq hcan (fun v u hv hu=>hid.rel.rel i s s' hs hs' v u hv hu) a b
theorem zyH:zhy (zag m (w:Int)).1.W.toNat (zf (zag m (w:Int)).1) (zz (zag m (w:Int)).1):=by
 obtain ⟨h1,h2,h3,h4⟩:=zjx hk0 hw
 rw [h1]
 exact zuk h4 (zdy (ptM m w))
theorem zs3:(ptM m w).min.root < (ptM m w).min.n:=zfa (m:=ptM m w) hw
theorem zuA:zG (zag m (w:Int)).1.W.toNat (zf (zag m (w:Int)).1) (ptM m w).min.root=List.range (zag m (w:Int)).1.W.toNat:=by
 obtain ⟨h1,h2,h3,h4⟩:=zjx hk0 hw
 rw [h1]
 unfold zG
 refine List.filter_eq_self.2 fun i hi=>?_
 rw [@decide_eq_true_eq _ (Classical.propDecidable _)]
 exact Rch.iso (S:=(· = (ptM m w).min.root)) h4 (fun v _ e=>e) (zlS (m:=ptM m w) hw i (List.mem_range.1 hi))
theorem zyI:ziH (zC (zag m (w:Int)).1 (zG (zag m (w:Int)).1.W.toNat (zf (zag m (w:Int)).1) (ptM m w).min.root))=true:=by
 obtain ⟨h1,h2,h3,h4⟩:=zjx hk0 hw
 have hd:=zyH hk0 hw
 have hg:=zuA hk0 hw
 have w2:=(zk h2).w2
 rw [hg]
 generalize (zag m (w:Int)).1=Q at *
 have hr:=zjY hd 0
 have hl:(List.range Q.W.toNat).length=Q.W.toNat:=List.length_range
 unfold ziH
 rw [decide_eq_true_eq,zwJ (by omega),show (zC Q (List.range Q.W.toNat)).W.toNat=(List.range Q.W.toNat).length from Int.toNat_natCast _]
 refine (zsQ (fa:=zac (List.range Q.W.toNat) (zz Q)) fun v u _ _=>by simp).1 ?_
 show zu _ (coa (List.range Q.W.toNat).length (zF (List.range Q.W.toNat) (zf Q)) (zac (List.range Q.W.toNat) (zz Q)))=_
 rw [zx0]
 have hid:zci (List.range Q.W.toNat).length (zz Q) (zac (List.range Q.W.toNat) (zz Q)) (zf Q) (zF (List.range Q.W.toNat) (zf Q)) fun x=>x :=
  zci.refl' (fun x hx=>by unfold zac;rw [show (List.range Q.W.toNat).getD x 0=x by simp [List.getD,show x < Q.W.toNat by omega]]) (by simp [zF]) fun i r r' e1 e2 v u hv hu=>by
   unfold zF at e2
   rw [List.getElem?_map,e1] at e2
   cases e2
   show r ((List.range Q.W.toNat).getD v 0) ((List.range Q.W.toNat).getD u 0)=r v u
   rw [show (List.range Q.W.toNat).getD v 0=v by simp [List.getD,show v < Q.W.toNat by omega],show (List.range Q.W.toNat).getD u 0=u by simp [List.getD,show u < Q.W.toNat by omega]]
 rw [hl] at hid ⊢
 exact fun x hx=>zuk hid hd x hx
theorem zBm:cnL m (w:Int)=(zC (zag m (w:Int)).1 (zdo (zag m (w:Int)).1 (ptM m w).min.root),0):=by
 obtain ⟨h1,h2,h3,h4⟩:=zjx hk0 hw
 have hr:=zs3 hk0 hw
 have he:(zag m (w:Int)).2.2=0:=by rw [zpl hk0 (by omega)]
 unfold cnL
 rw [if_neg (not_not_intro he),h3,zzF h2 (by omega),if_neg (by rw [zyI hk0 hw];decide)]
end
end Go.Ab
namespace Go.Ab
open Go
section
variable {m:KM} (hk0:za m=0) {w:Nat} (hw:w < m.W.toNat)
include hk0 hw
theorem ziS:(cnL m (w:Int)).2=0∧za (cnL m (w:Int)).1=0∧(cnL m (w:Int)).1.W=((ptM m w).can.n:Int)∧(cnL m (w:Int)).1.val.length=m.val.length∧(cnL m (w:Int)).1.rel.length=m.rel.length ∧
  zci (ptM m w).can.n (ptM m w).can.fa (zz (cnL m (w:Int)).1) (ptM m w).can.R (zf (cnL m (w:Int)).1) fun x=>x:=by
 obtain ⟨h1,h2,h3,h4⟩:=zjx hk0 hw
 have hr:(ptM m w).min.root < (ptM m w).min.n:=zs3 hk0 hw
 have hQv:(zag m (w:Int)).1.val.length=m.val.length∧(zag m (w:Int)).1.rel.length=m.rel.length:=by
  rw [zpl hk0 (by omega)];simp [zU,zX,zC]
 have hg:=zuA hk0 hw
 rw [zBm hk0 hw]
 have hcn:(ptM m w).can.n=(ptM m w).min.n:=rfl
 have hcw:zdo (zag m (w:Int)).1 (ptM m w).min.root=zT (List.range (ptM m w).min.n) (ptM m w).min.R (ptM m w).min.fa (ptM m w).min.root:=by
  unfold zdo
  rw [hg,h1]
  have:=zuc (l:=List.range (ptM m w).min.n) (l2:=List.range (ptM m w).min.n) (R:=(ptM m w).min.R) (R2:=zf (zag m (w:Int)).1) (fa:=(ptM m w).min.fa) (fb:=zz (zag m (w:Int)).1) (root:=(ptM m w).min.root) (root2:=(ptM m w).min.root) (f:=fun x=>x)
   List.nodup_range List.nodup_range (fun x=>by simp) (fun x y _ _ e=>e) (fun x hx=>h4.fac x (List.mem_range.1 hx)) h4.rel.len (fun i r r' e1 e2 x y hx hy=>h4.rel.rel i r r' e1 e2 x y (List.mem_range.1 hx) (List.mem_range.1 hy)) (List.mem_range.2 hr) rfl (zjY (zdy (ptM m w)) _)
  rw [this,List.map_id']
 have w2:=(zk h2).w2
 obtain ⟨l1,l2,l3,l4⟩:=znL (R:=(ptM m w).min.R) (fa:=(ptM m w).min.fa) hr (zdy (ptM m w))
 have hfa:(ptM m w).can.fa=zac (zT (List.range (ptM m w).min.n) (ptM m w).min.R (ptM m w).min.fa (ptM m w).min.root) (ptM m w).min.fa:=rfl
 have hR:(ptM m w).can.R=zF (zT (List.range (ptM m w).min.n) (ptM m w).min.R (ptM m w).min.fa (ptM m w).min.root) (ptM m w).min.R:=rfl
 rw [hcw]
 generalize zT (List.range (ptM m w).min.n) (ptM m w).min.R (ptM m w).min.fa (ptM m w).min.root=cw at *
 rw [hfa,hR,hcn]
 generalize (zag m (w:Int)).1=Q at *
 generalize (ptM m w).min=P at *
 refine ⟨rfl,zk3 h2 (by omega) (by omega),by show ((cw.length:Nat):Int)=_;rw [l1],by simp [zC,hQv.1],by simp [zC,hQv.2],zci.refl' (fun x hx=>?_) ?_ fun i r r' e1 e2 a b ha hb=>?_⟩
 ·rw [ziQ (by omega) (by omega)]
  exact h4.fac _ ((l3 _).1 (zaf (by omega)))
 ·have:=h4.rel.len
  simp [zf,zC,zF] at this ⊢;omega
 ·unfold zF at e1
  rw [List.getElem?_map,Option.map_eq_some_iff] at e1
  obtain ⟨s,hs,rfl⟩:=e1
  obtain ⟨s',hs'⟩:=zeB h4.rel.len hs
  have h3':(zF cw (zf Q))[i]? = some fun a b=>s' (cw.getD a 0) (cw.getD b 0):=by unfold zF;rw [List.getElem?_map,hs'];rfl
  rw [zmn (by omega) e2 h3' (by omega) (by omega)]
  exact h4.rel.rel i s s' hs hs' _ _ ((l3 _).1 (zaf (by omega))) ((l3 _).1 (zaf (by omega)))
end
theorem zzl {m m':KM} (hm:za m=0) (hm':za m'=0) {w w':Nat} (hw:w < m.W.toNat) (hw':w' < m'.W.toNat) (hv:m'.val.length=m.val.length) (h:ze2 (ptM m w) (ptM m' w')):(cnL m (w:Int)).1=(cnL m' (w':Int)).1:=by
 have hc:=(zty (m:=ptM m w) (m':=ptM m' w') hw hw').2 h
 obtain ⟨a1,a2,a3,a4,a5,a6⟩:=ziS hm hw
 obtain ⟨b1,b2,b3,b4,b5,b6⟩:=ziS hm' hw'
 have hrl:m'.rel.length=m.rel.length:=by
  obtain ⟨Z,B,-⟩:=h
  have:=B.len
  simpa [ptM,zf] using this
 generalize (cnL m (w:Int)).1=C at *
 generalize (cnL m' (w':Int)).1=D at *
 have hn:=hc.n
 have hCW:C.W.toNat=(ptM m w).can.n:=by omega
 refine zwF (zk a2) (zk b2) (by rw [a3,b3,hn]) (by rw [a4,b4,hv]) (by rw [a5,b5,hrl]) (fun x hx=>?_) fun i r r' e1 e2 u v hu hv'=>?_
 ·rw [hCW] at hx
  rw [show zz C x=_ from a6.fac x hx,show zz D x=_ from b6.fac x (by rw [hn];exact hx)]
  exact (hc.fa x hx).symm
 ·rw [hCW] at hu hv'
  obtain ⟨s,hs⟩:=zeB a6.rel.len.symm e1
  obtain ⟨s',hs'⟩:=zeB b6.rel.len.symm e2
  rw [show r u v=_ from a6.rel.rel i s r hs e1 u v hu hv',show r' u v=_ from b6.rel.rel i s' r' hs' e2 u v (by rw [hn];exact hu) (by rw [hn];exact hv')]
  exact (hc.rel i s s' hs hs' u v hu hv').symm
theorem zzI {m:KM} (hm:za m=0) {w:Nat} (hw:w < m.W.toNat):0 < (cnL m (w:Int)).1.W.toNat∧ze2 (ptM m w) (ptM (cnL m (w:Int)).1 0):=by
 obtain ⟨a1,a2,a3,a4,a5,a6⟩:=ziS hm hw
 have hp:=znM (m:=ptM m w) hw
 have hpos:0 < (ptM m w).can.n:=by
  obtain ⟨Z,B,hz⟩:=hp
  have:=(B.lt hz).2
  omega
 refine ⟨by omega,hp.trans ⟨fun v v'=>v < (ptM m w).can.n∧v'=v,?_,hpos,rfl⟩⟩
 have:=a6.bis
 rw [show (ptM (cnL m (w:Int)).1 0).n=(ptM m w).can.n from by show (cnL m (w:Int)).1.W.toNat=_;omega]
 exact this
theorem zBJ {m:KM} (hm:za m=0) {w:Nat} (hw:w < m.W.toNat):(cnL (cnL m (w:Int)).1 0)=((cnL m (w:Int)).1,0):=by
 obtain ⟨a1,a2,a3,a4,a5,a6⟩:=ziS hm hw
 obtain ⟨h1,h2⟩:=zzI hm hw
 have e:=zzl hm a2 hw h1 a4 h2
 obtain ⟨b1,-⟩:=ziS a2 h1
 rw [show ((0:Nat):Int)=0 from rfl] at e b1
 exact Prod.ext e.symm b1
theorem zBR {m:KM} (hm:za m=0) {to:List Int} (hp:zcF to m.W.toNat=true) {w:Nat} (hw:w < m.W.toNat):cnL (zC m (za9 to m.W.toNat)) (at0 to w)=((cnL m (w:Int)).1,0):=by
 have hg:=zk hm
 have w1:=hg.w1
 have w2:=hg.w2
 have hl:(za9 to m.W.toNat).length=m.W.toNat:=zji _ _
 have hiso:=zAo hm hp
 have hk:=zk3 hm (l:=za9 to m.W.toNat) (by omega) (by omega)
 have hr:=zkl hp
 have hW:(zC m (za9 to m.W.toNat)).W.toNat=m.W.toNat:=by show ((za9 to m.W.toNat).length:Int).toNat=_;rw [hl];rfl
 obtain ⟨h1,h2,h3⟩:=zel.1 hp
 have ha:=h2 (at0 to w) (List.mem_of_getElem? (zdb (by omega)))
 have hlt:=hr.lt w hw
 have e:at0 to w=((toF to w:Nat):Int):=by unfold toF;omega
 rw [e]
 have hb:ze2 (ptM m w) (ptM (zC m (za9 to m.W.toNat)) (toF to w)):=by
  refine ⟨fun v v'=>v < m.W.toNat∧v'=toF to v,?_,hw,rfl⟩
  have:=hiso.bis
  rw [show (ptM (zC m (za9 to m.W.toNat)) (toF to w)).n=m.W.toNat from hW]
  exact this
 obtain ⟨b1,-⟩:=ziS hk (w:=toF to w) (by omega)
 exact Prod.ext (zzl hm hk hw (by omega) (by simp [zC]) hb).symm b1
end Go.Ab
namespace Go.Ab
open Go Go.Proofs Go.RowKit Go.Lib Go.Sort
theorem zzr:bits BinOp.and IntKind.i64 16 15=0:=by decide
abbrev zdN:UInt8→Value:=fun b=>Value.int .u8 (b.toNat:Int)
theorem zwv {P:Program} (t:TypeId) (ht:P.underlying t=some .string) (k:IntKind) (x:Nat) (hx:x < 16) (w:World) :
  (Instr.index t (.string { data := #[48,49,50,51,52,53,54,55,56,57,97,98,99,100,101,102,103,104,105,106,107,108,109,110,111,112,113,114,115,116,117,118,119,120,121,122] }) (.int k (x:Int))).run P w = .ok (.int .u8 ((zai x).toNat:Int)) w:=by
 rw [run_index_string w t _ k _ ht,dif_pos ⟨by omega,by show (x:Int) < 36;omega⟩]
 have:x=0∨x=1∨x=2∨x=3∨x=4∨x=5∨x=6∨x=7∨x=8∨x=9∨x=10∨x=11∨x=12∨x=13∨x=14∨x=15:=by omega
 rcases this with rfl|rfl|rfl|rfl|rfl|rfl|rfl|rfl|rfl|rfl|rfl|rfl|rfl|rfl|rfl|rfl<;>rfl
theorem zyk (x:Nat) (hx:x < 16) (h:x < (ByteArray.mk #[48,49,50,51,52,53,54,55,56,57,97,98,99,100,101,102,103,104,105,106,107,108,109,110,111,112,113,114,115,116,117,118,119,120,121,122]).size) :
  (ByteArray.mk #[48,49,50,51,52,53,54,55,56,57,97,98,99,100,101,102,103,104,105,106,107,108,109,110,111,112,113,114,115,116,117,118,119,120,121,122])[x]=zai x:=by
 have:x=0∨x=1∨x=2∨x=3∨x=4∨x=5∨x=6∨x=7∨x=8∨x=9∨x=10∨x=11∨x=12∨x=13∨x=14∨x=15:=by omega
 rcases this with rfl|rfl|rfl|rfl|rfl|rfl|rfl|rfl|rfl|rfl|rfl|rfl|rfl|rfl|rfl|rfl<;>rfl
theorem zw9 (dk:Array UInt8) (i:Nat) (x:UInt8) (hi:i < dk.size):(dk.setIfInBounds i x)[i]! = x:=by simp [hi]
theorem zxa (dk:Array UInt8) (i j:Nat) (x:UInt8) (h:i≠j):(dk.setIfInBounds i x)[j]! = dk[j]! := by rw [getElem!_def,getElem!_def,Array.getElem?_setIfInBounds_ne h]
theorem zz2 (w:World) (t:TypeId):Holds zdN (w.alloc (.cells Tryz.zeroCells208 t)) w.heap.size 0 (Array.replicate 65 0):=by
 intro j hj
 have hj:j < 65:=by simpa using hj
 refine ⟨?_,World.frozen?_alloc_new _ _ _ _⟩
 rw [World.cell?_alloc_new,Nat.zero_add]
 have h:Tryz.zeroCells208=Array.replicate 65 (Value.int .u8 0):=by kernel_rfl
 rw [h]
 simp [hj]
theorem zwu {w w1:World} {o:Obj} {d:Array UInt8} (h:w.alloc o=w1):w.grownBy (putRow zdN w1 w.heap.size 0 d) none:=by
 subst h
 refine ⟨rfl,rfl,rfl,by simp,fun b hb _=>?_⟩
 have:(putRow zdN (w.alloc o) w.heap.size 0 d).heap[b]? = (w.alloc o).heap[b]? := by
  unfold putRow mapBlock
  rw [Array.getElem?_modify,if_neg (by omega)]
 rw [this]
 exact heap_alloc_old _ _ hb
theorem zz4 (w:World):Calls Tryz.prog 216 #[.int .i64 16] w fun e w'=>e = .returned (.bool true)∧w'=w:=by
 have hp:=zzr
 go_enter Tryz.func216,Tryz.ntmps216
 go_wp2
 go_ret
 exact ⟨rfl,rfl⟩
theorem zBM (w:World) (T:Nat→Obj→Prop) (hw : ∀ b o,T b o→w.heap[b]? = some o)
  (hz : ∀ w':World,(∀ b o,T b o→w'.heap[b]? = some o)→Calls Tryz.prog 100 #[.int .u64 16] w' fun e w''=>e = .returned (.int .i64 4)∧w''=w') :
  Calls Tryz.prog 217 #[.int .u64 16] w fun e w'=>e = .returned (.int .i64 4)∧w'=w:=by
 go_enter Tryz.func217,Tryz.ntmps217
 go_wp2_with (go_at_call 100;refine (hz _ hw).mono ?_;rintro e w' ⟨rfl,rfl⟩)
 go_ret
 exact ⟨rfl,rfl⟩
set_option maxHeartbeats 4000000 in
set_option maxRecDepth 100000 in
theorem zAP (u:Nat) (hu:u < 18446744073709551616) (w:World) (T:Nat→Obj→Prop) (hw : ∀ b o,T b o→w.heap[b]? = some o)
  (hz : ∀ w':World,(∀ b o,T b o→w'.heap[b]? = some o)→Calls Tryz.prog 100 #[.int .u64 16] w' fun e w''=>e = .returned (.int .i64 4)∧w''=w') :
  Calls Tryz.prog 207 #[.slice none 0 0,.int .u64 u,.int .i64 16,.bool false,.bool false] w fun e w'=>e = .returned (.tuple #[.slice none 0 0,.string ⟨(zdO 15 u).toArray⟩])∧w.grownBy w' none:=by
 have hp:=zzr
 go_enter Tryz.func207,Tryz.ntmps207
 go_wp2_with (first|(go_at_call 216;refine (zz4 _).mono ?_;rintro e w' ⟨rfl,rfl⟩)|(go_at_call 217;refine (zBM _ T ?_ hz).mono ?_;rotate_left;rintro e w' ⟨rfl,rfl⟩))
 ·generalize hw1:w.alloc (Obj.cells Tryz.zeroCells208 208)=w1
  have hH:=zz2 w 208
  rw [hw1] at hH
  have hix:=zwv (P:=Tryz.prog) 9 Tryz.underlying9 .u64
  go_loopw [1,13] (fun vu vi wr => ∃ (k v:Nat) (dk:Array UInt8) (ds:List UInt8),vu = .int .u64 v∧vi = .int .i64 (50+k:Nat)∧k≤15∧v < 16 ^ (k+1)∧zdO 15 u=zdO k v++ds∧wr=putRow zdN w1 w.heap.size 0 dk∧dk.size=65∧ds.length=15 - k ∧ ∀ j (hj:j < ds.length),dk[50+k+j]! = ds[j]) (fun _ vi _=>(RowKit.intOf vi).toNat)
  case atStart=>exact ⟨15,u,Array.replicate 65 0,[],rfl,rfl,Nat.le_refl _,by simpa using hu,by simp,(putRow_self _ _ _ _ _ hH).symm,by simp,rfl,fun j hj=>by simp at hj⟩
  case round =>
   obtain ⟨k,v,dk,ds,rfl,rfl,hk,hv,hx,rfl,hs,hdl,hd⟩:=hrel
   have hHk:Holds zdN (putRow zdN w1 w.heap.size 0 dk) w.heap.size 0 dk:=holds_putRow zdN w1 w.heap.size 0 (Array.replicate 65 0) dk hH (by simp [hs])
   obtain ⟨G,hG⟩ : ∃ G:Nat→Int,∀ t,G t=(dk[t]!.toNat:Int):=⟨_,fun _=>rfl⟩
   have hc0 : ∀ t,t < 65→(putRow zdN w1 w.heap.size 0 dk).cell? ⟨w.heap.size,t,none⟩=some (.int .u8 (G t)):=fun t ht=>by have:=(hHk t (by omega)).1;rw [Nat.zero_add] at this;rw [hG];exact this
   have hf0 : ∀ t,t < 65→(putRow zdN w1 w.heap.size 0 dk).frozen? ⟨w.heap.size,t,none⟩=false:=fun t ht=>by have:=(hHk t (by omega)).2;rw [Nat.zero_add] at this;exact this
   by_cases h16:16≤v
   ·obtain ⟨k,rfl⟩ : ∃ k',k=k'+1:=⟨k - 1,by
     rcases Nat.eq_zero_or_pos k with rfl|h
     ·simp at hv;omega
     ·omega⟩
    have hand0:bits BinOp.and IntKind.u64 (v:Int) 15=(v:Int) % 16:=by
     have h0:(0:Int)≤v:=by omega
     have h1:(v:Int) < 18446744073709551616:=by
      have:16 ^ (k+1+1)≤16 ^ 16:=Nat.pow_le_pow_right (by omega) (by omega)
      omega
     go_bits2
    have hand:bits BinOp.and IntKind.u64 (v:Int) 15=((v % 16:Nat):Int):=by rw [hand0];omega
    clear hand0
    have hc1:=hc0 (50+k) (by omega)
    have hf1:=hf0 (50+k) (by omega)
    have hm16:v % 16 < 16:=Nat.mod_lt _ (by omega)
    generalize hW:putRow zdN w1 w.heap.size 0 dk=W at *
    go_wp2
    rw [zyk (v % 16) hm16]
    have hset:W.setCell { block:=w.heap.size,off:=50+k } (Value.int IntKind.u8 ((zai (v % 16)).toNat:Int))=putRow zdN w1 w.heap.size 0 (dk.setIfInBounds (50+k) (zai (v % 16))):=by
     rw [← hW,← putRow_set zdN w1 w.heap.size 0 dk (50+k) (zai (v % 16)) (by omega),Nat.zero_add]
    refine ⟨⟨k,v / 16,dk.setIfInBounds (50+k) (zai (v % 16)),zai (v % 16)::ds,by simp,by go_num,by omega,by rw [Nat.pow_succ] at hv;omega,?_,hset,by simp [hs],by simp;omega,fun j hj=>?_⟩,by simp [RowKit.intOf];omega⟩
    ·rw [hx,zdO,if_neg (by omega)];simp
    ·cases j with
     | zero=>rw [Nat.add_zero,zw9 _ _ _ (by omega)];rfl
     | succ j =>
      rw [zxa _ _ _ _ (by omega)]
      have:=hd j (by simpa using hj)
      rw [show 50+k+(j+1)=50+(k+1)+j by omega,this];rfl
   ·have h15:v < 16:=by omega
    have hc1:=hc0 (49+k) (by omega)
    have hf1:=hf0 (49+k) (by omega)
    have hal:Tryz.prog.arrayLen 208=65:=by kernel_rfl
    generalize hW:putRow zdN w1 w.heap.size 0 dk=W at *
    have hl:(zai v::ds).length=16 - k:=by simp [hdl];omega
    have hxx:zdO 15 u=zai v::ds:=by
     rw [hx]
     cases k with
     | zero=>rw [zdO,Nat.mod_eq_of_lt h15];rfl
     | succ k=>rw [zdO,if_pos h15];rfl
    have hsl : ∀ W,(Instr.sliceAt 208 (.pointer (some ⟨w.heap.size,0,none⟩)) (some (.int .i64 (50+(k:Int) - 1))) none none).run Tryz.prog W = .ok (.slice (some ⟨w.heap.size,49+k,none⟩) (16 - k) (16 - k)) W:=fun W=>by
     rw [run_sliceAt_array_l W 208 ⟨w.heap.size,0,none⟩ (by simp [Program.arrayLen,Program.elem,Tryz.underlying208]) .i64 (50+(k:Int) - 1) (by omega) (by rw [hal];omega)]
     go_simp
     rw [show (50+(k:Int)).toNat=50+k by omega,if_neg (by omega)]
     exact ⟨by rw [show 50+k - 1=49+k by omega],by omega⟩
    have hset:W.setCell { block:=w.heap.size,off:=49+k } (Value.int IntKind.u8 ((zai v).toNat:Int))=putRow zdN w1 w.heap.size 0 (dk.setIfInBounds (49+k) (zai v)):=by
     rw [← hW,← putRow_set zdN w1 w.heap.size 0 dk (49+k) (zai v) (by omega),Nat.zero_add]
    have hH2:Holds zdN (putRow zdN w1 w.heap.size 0 (dk.setIfInBounds (49+k) (zai v))) w.heap.size 0 (dk.setIfInBounds (49+k) (zai v)):=holds_putRow zdN w1 w.heap.size 0 (Array.replicate 65 0) _ hH (by simp [hs])
    have hcv:(convert 196 9 (.slice (some ⟨w.heap.size,49+k,none⟩) (16 - k) (16 - k))).run Tryz.prog (W.setCell { block:=w.heap.size,off:=49+k } (Value.int IntKind.u8 ((zai v).toNat:Int))) = .ok (.string ⟨(zai v::ds).toArray⟩) (W.setCell { block:=w.heap.size,off:=49+k } (Value.int IntKind.u8 ((zai v).toNat:Int))):=by
     have h:=run_convert_bytes_back (P:=Tryz.prog) (W.setCell { block:=w.heap.size,off:=49+k } (Value.int IntKind.u8 ((zai v).toNat:Int))) 196 9 5 ⟨w.heap.size,49+k,none⟩ (16 - k) (zai v::ds) Tryz.underlying196 Tryz.underlying5 Tryz.underlying9 (fun j hj=>by
      rw [Addr.add_lit,hset]
      have h1:=(hH2 (49+k+j) (by simp [hs];omega)).1
      rw [Nat.zero_add] at h1
      rw [h1]
      cases j with
      | zero=>rw [Nat.add_zero,zw9 _ _ _ (by omega)];rfl
      | succ j =>
       rw [zxa _ _ _ _ (by omega)]
       have:=hd j (by simpa using hj)
       rw [show 49+k+(j+1)=50+k+j by omega,this];rfl)
     rw [hl] at h
     exact h
    rw [hset] at hcv
    go_wp2
    go_ret2
    refine ⟨?_,zwu hw1⟩
    rw [← hx,hxx];rfl
 ·intro b o ht
  exact (heap_alloc_old _ _ (by have:=hw b o ht;exact zo this)).trans (hw b o ht)
theorem zBo (u:Nat) (hu:u < 18446744073709551616) (w:World) (T:Nat→Obj→Prop) (hw : ∀ b o,T b o→w.heap[b]? = some o)
  (hz : ∀ w':World,(∀ b o,T b o→w'.heap[b]? = some o)→Calls Tryz.prog 100 #[.int .u64 16] w' fun e w''=>e = .returned (.int .i64 4)∧w''=w') :
  Calls Tryz.prog 184 #[.int .u64 u,.int .i64 16] w fun e w'=>e = .returned (.string ⟨(zdO 15 u).toArray⟩)∧w.grownBy w' none:=by
 go_enter Tryz.func184,Tryz.ntmps184
 go_wp2_with (go_at_call 207;refine (zAP u hu _ T hw hz).mono ?_;rintro e w' ⟨rfl,hg⟩)
 go_ret
 exact ⟨rfl,hg⟩
theorem zAW {T:Nat→Obj→Prop} (hz : ∀ w':World,(∀ b o,T b o→w'.heap[b]? = some o)→Calls Tryz.prog 100 #[.int .u64 16] w' fun e w''=>e = .returned (.int .i64 4)∧w''=w') (x:BitVec 64) :
  Fn Tryz.prog T zcY [.d (.u64 x),.d (.int .i64 16)] [] (.d (.str (zga x))) []:=by
 refine znk ⟨_,Tryz.func184,by decide,rfl⟩ fun B σ a w args hT hS hsz hargs=>?_
 have ha:args = #[args.getD 0 undef,args.getD 1 undef]:=by
  apply Array.ext
  ·simpa using hsz
  ·intro i h1 h2
   match i,h2 with
   | 0,_=>simp [Array.getD,show 0 < args.size by omega]
   | 1,_=>simp [Array.getD,show 1 < args.size by omega]
 have h0:=hargs 0 (by simp)
 have h1:=hargs 1 (by simp)
 rw [ha]
 have e0:([V.d (D.u64 x),V.d (D.int .i64 16)].getD 0 .undef) = .d (D.u64 x):=rfl
 have e1:([V.d (D.u64 x),V.d (D.int .i64 16)].getD 1 .undef) = .d (D.int .i64 16):=rfl
 rw [e0] at h0
 rw [e1] at h1
 generalize args.getD 0 undef=va at h0
 generalize args.getD 1 undef=vb at h1
 cases h0 with
 | d _ _ hd0 =>
 cases h1 with
 | d _ _ hd1 =>
 cases hd0
 cases hd1
 refine (zBo x.toNat x.isLt w T (fun b o ht=>hS.pins b o (hT b o ht)) hz).mono ?_
 rintro e w' ⟨he,hg⟩
 refine ⟨_,σ,he,⟨fun t => .undef _,fun id ob h=>by simp [zy] at h,fun i j b h=>absurd (by simp [zy]) h,fun id b h=>absurd (by simp [zy]) h,fun _ _=>by simp [zy],?_,hS.nt,fun b hb=>Nat.lt_of_lt_of_le (hS.olt b hb) hg.size,fun b o hp=>(hg.block b (zo (hS.pins b o hp)) (by simp)).trans (hS.pins b o hp),fun id l h=>by simp [zy] at h⟩,.d _ _ ?_,fun i ob h=>by simp at h⟩
 ·refine ⟨hg.os.trans hS.kept.os,hg.tape.trans hS.kept.tape,hg.output.trans hS.kept.output,Nat.le_trans hS.kept.size hg.size,fun b hb hR=>(hg.block b (Nat.lt_of_lt_of_le hb hS.kept.size) (by simp)).trans (hS.kept.block b hb hR),fun b c e h=>?_⟩
  obtain ⟨c',h1,h2⟩:=hS.kept.cells b c e h
  exact ⟨c',(hg.block b (zo h1) (by simp)).trans h1,h2⟩
 ·exact .str _
end Go.Ab
namespace Go.Ab
open Go Go.Proofs
set_option maxRecDepth 10000
set_option maxHeartbeats 4000000
variable {T:Nat→Obj→Prop}
theorem zrg (x:BitVec 64) (h:Fn Tryz.prog T zcY [.d (.u64 x),.d (.int .i64 16)] [] (.d (.str (zga x))) []):Fn Tryz.prog T zdv [.d (.u64 x),.d (.int .i64 16)] [] (.d (.str (zga x))) []:=by
 refine zg zx zkd (by show 2≤8;decide) ?_
 (repeat' ((conv=>whnf);first|refine vA ?_|refine vB fun b hb=>?_|refine vC (fun hl=>?_) fun i kv vv hi=>?_|refine vE ?_|refine vG ?_|refine vH ?_|((first|refine vD ?_ ?_|refine vF ?_ ?_|refine vI ?_ ?_)<;>intro hc<;>try simp only [vL] at hc)|refine vJ fun hg=>?_|refine vK fun hg=>?_|refine vT ?_|refine vN ‹_› ?_|(refine vQ ?_ fun x hx=>?_;·first|omega|(simp only [vM] at *;omega))|((first|refine vO ?_ ?_|refine vR ?_ ‹_› ?_|refine vS ?_ fun x hx=>?_|refine vP ?_ ?_);·first|omega|(simp only [vM] at *;omega))|refine vW ⟨by omega,by omega⟩ ?_|(refine vU ?_ ?_;·kernel_rfl)|refine vX ?_|refine vY ?_|refine vZ ?_|refine yD h (by (repeat refine ⟨⟨rfl,rfl⟩,?_⟩);rfl) rfl ?_|refine yN h (by (repeat refine ⟨⟨rfl,rfl⟩,?_⟩);rfl) ?_|refine zjJ.mk _ ‹_› ?_|refine vP (show (_:BitVec 64)≠_ by decide) ?_));all_goals try conv=>whnf
 rfl
end Go.Ab
namespace Go.Ab
open Go Go.Proofs
set_option maxRecDepth 10000
set_option maxHeartbeats 4000000
variable {T:Nat→Obj→Prop}
def zdX (m:KM) (i v:Nat):BitVec 64:=(m.rel.getD i []).getD v 0#64
def zsv (p:List (BitVec 64)) (s t:BitVec 64):Bool:=(zt s).all fun x=>decide (p.getD x 0#64&&&t≠0#64)
def zki (p:List (BitVec 64)) (s t:BitVec 64):Bool:=zsv p s t&&decide (t &&& ~~~(zcr p (zt s))=0#64)
def zlR (a b:KM) (p:List (BitVec 64)) (v w:Nat):Bool:=decide (zz a v=zz b w)&&(List.range a.rel.length).all fun i=>zki p (zdX a i v) (zdX b i w)
theorem zpf {a b:KM} {p:List (BitVec 64)} {v w i:Nat} (hi:i < a.rel.length) (h:zki p (zdX a i v) (zdX b i w)=false):zlR a b p v w=false:=by
 unfold zlR
 rw [Bool.and_eq_false_iff];right
 rw [List.all_eq_false]
 exact ⟨i,List.mem_range.2 hi,by rw [h];decide⟩
theorem zvo {p:List (BitVec 64)} {s t:BitVec 64} {x:Nat} (hx:s.getLsbD x=true) (hx64:x < 64) (h:p.getD x 0#64&&&t=0#64):zki p s t=false:=by
 unfold zki zsv
 rw [Bool.and_eq_false_iff];left
 rw [List.all_eq_false]
 exact ⟨x,zbe.2 hx,by rw [decide_eq_true_eq];exact not_not_intro h⟩
theorem ztK (hT:za0 T) {a b:KM} (ha:za a=0) (hb:za b=0) (hr:a.rel.length=b.rel.length) {p:List (BitVec 64)} (hp:p.length=a.W.toNat) {v w:Nat} (hv:v < a.W.toNat) (hw:w < b.W.toNat):Fn Tryz.prog T zig [.d (dKM a),.d (dKM b),.d (dU p),.d (.int .i64 (v:Int)),.d (.int .i64 (w:Int))] [] (.d (.bool (zlR a b p v w))) []:=by
 have ga:=zk ha
 have gb:=zk hb
 have wa1:=ga.w1
 have wa2:=ga.w2
 have wb1:=gb.w1
 have wb2:=gb.w2
 have ca:=zeb (T:=T) a (v:Int)
 have cb:=zeb (T:=T) b (w:Int)
 rw [zi7 ha hv] at ca
 rw [zi7 hb hw] at cb
 refine zg zx zo6 (by show 5≤69;decide) ?_
 (repeat' ((conv=>whnf);first|refine vA ?_|(refine vD ?_ ?_<;>intro hc)|refine vJ fun hg=>?_|refine vT ?_|(refine vU ?_ ?_;·kernel_rfl)|refine vZ ?_|refine yD ca ⟨⟨rfl,rfl⟩,⟨rfl,rfl⟩,rfl⟩ rfl ?_|refine yD cb ⟨⟨rfl,rfl⟩,⟨rfl,rfl⟩,rfl⟩ rfl ?_));all_goals try conv=>whnf
 ·rw [zlR,decide_eq_false hc];rfl
 refine zq (fun (g:Nat)=>[(3,.d (.int .i64 ((v:Int)))),(5,.ptr 0 0),(6,.ptr 1 0),(7,.ptr 2 0),(9,.ptr 3 0),(10,.ptr 4 0),(23,.d (.int .i64 (((a.rel.map dU).length:Int)))),(24,.d (.int .i64 ((g:Int))))]) (fun (g:Nat)=>[(0,some (zar a)),(1,some (zar b)),(2,some (.box [.d (dU p)])),(3,some (.box [.d (.int .i64 (w:Int))])),(4,some (.box [.d (.bool false)]))]) 5 (fun (g:Nat)=>g≤a.rel.length ∧ ∀ j,j < g→zki p (zdX a j v) (zdX b j w)=true) (fun (g:Nat)=>a.rel.length - g) (0) [(0,0),(1,1),(2,2),(3,3),(4,4)] [] (⟨by omega,fun j h=>by omega⟩) (by (refine ⟨rfl,rfl,rfl,?_,?_⟩;repeat' first|exact trivial|exact rfl|exact .inr (.inr ⟨rfl,rfl⟩)|refine And.intro ?_ ?_|refine ⟨_,rfl,?_⟩|decide)) ?_
 rintro g ⟨hi,hI⟩
 by_cases hil:g < a.rel.length
 ·(repeat' ((conv=>whnf);first|refine vA ?_|(refine vF ?_ ?_<;>intro hc<;>try simp only [vL] at hc)|refine vT ?_|(refine vQ ?_ fun x hx=>?_;·omega)|(refine vS ?_ fun x hx=>?_;·omega)|refine vZ ?_));all_goals try conv=>whnf
  ·have hrow:=hx
   have hxl:=ga.len _ (List.mem_of_getElem? hrow)
   (repeat' ((conv=>whnf);first|refine vT ?_|(refine vQ ?_ fun x hx=>?_;·omega)|fail));all_goals try conv=>whnf
   ·have hs:zdX a g v=x:=by unfold zdX;simp [List.getD,hrow,hx]
    obtain ⟨br,hbr⟩ : ∃ br,b.rel[g]? = some br:=⟨_,List.getElem?_eq_getElem (by omega)⟩
    have hbl:=gb.len _ (List.mem_of_getElem? hbr)
    obtain ⟨t,ht⟩ : ∃ t,br[w]? = some t:=⟨_,List.getElem?_eq_getElem (by omega)⟩
    have hst:zdX b g w=t:=by unfold zdX;simp [List.getD,hbr,ht]
    have hin : ∀ u,x.getLsbD u=true→u < p.length:=fun u hu=>by
     have:=(zeq (by omega)).1 (ga.rel _ (List.mem_of_getElem? hrow) _ (List.mem_of_getElem? hx)) u hu
     omega
    refine zaa.res (ziD x) (by (repeat refine ⟨⟨rfl,rfl⟩,?_⟩);rfl) ?_
    (repeat' ((conv=>whnf);refine vT ?_));all_goals try conv=>whnf
    refine zfn (ziF hT x) [7] [] (by first|((repeat refine ⟨⟨rfl,rfl⟩,?_⟩);rfl)|(repeat' first|exact rfl|refine And.intro ?_ ?_|refine ⟨_,rfl,?_⟩)) (by (repeat' first|exact rfl|refine And.intro ?_ ?_|refine ⟨_,rfl,?_⟩)) (by rfl) (by rfl) [(3,.d (.int .i64 ((v:Int)))),(5,.ptr 0 0),(6,.ptr 1 0),(7,.ptr 2 0),(9,.ptr 3 0),(10,.ptr 4 0),(11,.ptr 5 0),(12,.ptr 6 0),(23,.d (.int .i64 (((a.rel.map dU).length:Int)))),(24,.d (.int .i64 ((g:Int))))] (fun (o:BitVec 64)=>[(0,some (zar a)),(1,some (zar b)),(2,some (.box [.d (dU p)])),(3,some (.box [.d (.int .i64 (w:Int))])),(4,some (.box [.d (.bool false)])),(5,some (.box [.d (.int .i64 (g:Int))])),(6,some (.box [.d (.u64 o)]))]) 7 (fun i (o:BitVec 64)=>o=zcr p ((zt x).take i) ∧ ∀ j y,j < i→(zt x)[j]? = some y→p.getD y 0#64&&&t≠0#64) (0#64) [(0,0),(1,1),(2,2),(3,3),(4,4),(5,5),(6,6)] [] (⟨rfl,fun j y h=>by omega⟩) (by (refine ⟨rfl,rfl,rfl,?_,?_⟩;repeat' first|exact trivial|exact rfl|exact .inl rfl|refine And.intro ?_ ?_|refine ⟨_,rfl,?_⟩|decide)) ?_ ?_
    ·rintro i y o hy ⟨ho,hJ⟩
     obtain ⟨u,hu,rfl,hxu,hu64⟩:=zfh hy
     have hup:=hin u hxu
     refine ⟨rfl,?_⟩
     (repeat' ((conv=>whnf);first|refine vA ?_|(refine vF ?_ ?_<;>intro hc)|refine vT ?_|refine vN ‹_› ?_|(refine vQ ?_ fun x hx=>?_;·omega)|(refine vU ?_ ?_;·kernel_rfl)|refine vZ ?_));all_goals try conv=>whnf
     ·have hpu:p.getD u 0#64=x:=by simp [List.getD,hx]
      exact (zpf hil (by rw [hs,hst];exact zvo hxu hu64 (by rw [hpu];exact hc))).symm
     ·have hpu:p.getD u 0#64=x:=by simp [List.getD,hx]
      exact ⟨o|||x,[(0,0),(1,1),(2,2),(3,3),(4,4),(5,5),(6,6)],[],⟨by rw [ho,zme hu,hpu],fun j y hj h=>by
       by_cases e:j=i
       ·subst e;rw [hu] at h;cases h;rw [hpu];exact hc
       ·exact hJ j y (by omega) h⟩,by (refine ⟨rfl,rfl,rfl,?_,?_⟩;repeat' first|exact trivial|exact rfl|exact .inl rfl|refine And.intro ?_ ?_|refine ⟨_,rfl,?_⟩|decide)⟩
    ·rintro o ⟨ho,hJ⟩
     rw [List.length_map,List.take_length] at ho
     rw [List.length_map] at hJ
     (repeat' ((conv=>whnf);first|refine vA ?_|(refine vD ?_ ?_<;>intro hc)|refine vT ?_|refine vN ‹_› ?_|(refine vO ?_ ?_;·omega)|(refine vU ?_ ?_;·kernel_rfl)|refine vZ ?_));all_goals try conv=>whnf
     ·refine (zpf hil ?_).symm
      rw [hs,hst]
      unfold zki
      rw [Bool.and_eq_false_iff];right
      rw [← ho]
      exact decide_eq_false hc
     ·have hcc:t &&& ~~~o=0#64:=hc
      refine ⟨g+1,[(0,0),(1,1),(2,2),(3,3),(4,4)],[],?_,?_,by (refine ⟨rfl,rfl,rfl,?_,?_⟩;repeat' first|exact trivial|exact rfl|exact .inl rfl|refine And.intro ?_ ?_|refine ⟨_,rfl,?_⟩|decide)⟩
      ·refine ⟨by (omega),fun j hj=>?_⟩
       by_cases e:j=g
       ·subst e
        rw [hs,hst]
        unfold zki zsv
        rw [Bool.and_eq_true_iff]
        refine ⟨List.all_eq_true.2 fun y hy=>?_,by rw [← ho];exact decide_eq_true hcc⟩
        obtain ⟨k,hk⟩:=List.mem_iff_getElem?.1 hy
        exact decide_eq_true (hJ k y (List.getElem?_eq_some_iff.1 hk).1 hk)
       ·exact hI j (by omega)
      ·(omega)
  ·exfalso;omega
 ·(repeat' ((conv=>whnf);first|refine vA ?_|(refine vF ?_ ?_<;>intro hc<;>try simp only [vL] at hc)|refine vT ?_|(refine vQ ?_ fun x hx=>?_;·omega)|refine vZ ?_));all_goals try conv=>whnf
  ·omega
  ·rw [zlR,decide_eq_true (by omega),Bool.true_and,eq_comm,List.all_eq_true]
   exact fun j hj=>hI j (by have:=List.mem_range.1 hj;omega)
def zrq (a b:KM):Int:=if za a≠0 then za a else if za b≠0 then za b else if a.rel.length≠b.rel.length∨a.val.length≠b.val.length then 1 else 0
theorem zyd (a b:KM):Fn Tryz.prog T zlo [.d (dKM a),.d (dKM b)] [] (.d (.int .i64 (zrq a b))) []:=by
 have ck1:=zau (T:=T) a
 have ck2:=zau (T:=T) b
 refine zg zx zsC (by show 2≤33;decide) ?_
 (repeat' ((conv=>whnf);first|refine vA ?_|(refine vD ?_ ?_<;>intro hc<;>try simp only [vL] at hc)|refine vJ fun hg=>?_|refine vT ?_|refine vX ?_|refine yD ck1 ⟨⟨rfl,rfl⟩,rfl⟩ rfl ?_|refine yD ck2 ⟨⟨rfl,rfl⟩,rfl⟩ rfl ?_));all_goals try conv=>whnf
 all_goals unfold zrq
 ·rw [if_pos ‹_›]
 ·rw [if_neg (by omega),if_pos ‹_›]
 ·rw [if_neg (by omega),if_neg (by omega),if_pos (by omega)]
 ·rw [if_neg (by omega),if_neg (by omega),if_pos (by omega)]
 ·rw [if_neg (by omega),if_neg (by omega),if_neg (by omega)]
theorem zBE (hT:za0 T) {a b:KM} (ha:za a=0) (hb:za b=0) (hr:a.rel.length=b.rel.length) (hv:a.val.length=b.val.length) {p:List (BitVec 64)} (hp:p.length=a.W.toNat) (hin : ∀ s∈p,∀ i,s.getLsbD i=true→i < b.W.toNat)
  (hm : ∀ v w,v < a.W.toNat→(p.getD v 0#64).getLsbD w=true→zlR a b p v w=true):Fn Tryz.prog T zkB [.d (dKM a),.d (dKM b),.d (dU p)] [] (.d (.int .i64 0)) []:=by
 have ga:=zk ha
 have gb:=zk hb
 have wa1:=ga.w1
 have wa2:=ga.w2
 have wb1:=gb.w1
 have wb2:=gb.w2
 have cbo:=zyd (T:=T) a b
 rw [show zrq a b=0 by unfold zrq;rw [if_neg (by omega),if_neg (by omega),if_neg (by omega)]] at cbo
 have hlen : ∀ s∈p,(Sort.bitsLen s.toNat:Int)≤b.W:=fun s hs=>by
  have:=(Sort.bitsLen_le_iff s.toNat b.W.toNat).2 (by
   refine Nat.lt_of_not_le fun h=>?_
   obtain ⟨i,h1,h2⟩:=Nat.exists_ge_and_testBit_of_ge_two_pow h
   have:=hin s hs i h2
   omega)
  omega
 refine zg zx zrh (by show 3≤54;decide) ?_
 (repeat' ((conv=>whnf);first|refine vA ?_|refine vH ?_|(refine vD ?_ ?_<;>intro hc<;>try simp only [vL] at hc)|refine vJ fun hg=>?_|refine vT ?_|refine vX ?_|refine yD cbo ⟨⟨rfl,rfl⟩,⟨rfl,rfl⟩,rfl⟩ rfl ?_));all_goals try conv=>whnf
 ·omega
 refine zq (fun (g:Nat)=>[(3,.ptr 0 0),(4,.ptr 1 0),(5,.ptr 2 0),(6,.ptr 3 0),(24,.d (dU p)),(25,.d (.int .i64 (((p.map D.u64).length:Int)))),(26,.d (.int .i64 ((g:Int))))]) (fun (g:Nat)=>[(0,some (zar a)),(1,some (zar b)),(2,some (.box [.d (dU p)])),(3,some (.box [.d (.int .i64 0)]))]) 4 (fun (g:Nat)=>g≤p.length) (fun (g:Nat)=>p.length - g) (0) [(0,0),(1,1),(2,2),(3,3)] [] (by omega) (by (refine ⟨rfl,rfl,rfl,?_,?_⟩;repeat' first|exact trivial|exact rfl|refine And.intro ?_ ?_|refine ⟨_,rfl,?_⟩|decide)) ?_
 rintro g hg
 (repeat' ((conv=>whnf);first|refine vA ?_|(refine vF ?_ ?_<;>intro hc<;>try simp only [vL] at hc)|refine vJ fun hg=>?_|refine vT ?_|(refine vQ ?_ fun x hx=>?_;·omega)|(refine vO ?_ ?_;·omega)|(refine vU ?_ ?_;·kernel_rfl)|refine vX ?_|refine yD (zsp _) ⟨⟨rfl,rfl⟩,rfl⟩ rfl ?_));all_goals try conv=>whnf
 ·exfalso;have:=hlen _ (List.mem_of_getElem? hx);omega
 ·refine ⟨g+1,[(0,0),(1,1),(2,2),(3,3)],[],?_,?_,by (refine ⟨rfl,rfl,rfl,?_,?_⟩;repeat' first|exact trivial|exact rfl|refine And.intro ?_ ?_|refine ⟨_,rfl,?_⟩|decide)⟩
  ·(omega)
  ·(omega)
 ·refine zq (fun (g:Nat)=>[(3,.ptr 0 0),(4,.ptr 1 0),(5,.ptr 2 0),(6,.ptr 3 0),(36,.d (dU p)),(37,.d (.int .i64 (((p.map D.u64).length:Int)))),(38,.d (.int .i64 ((g:Int))))]) (fun (g:Nat)=>[(0,some (zar a)),(1,some (zar b)),(2,some (.box [.d (dU p)])),(3,some (.box [.d (.int .i64 0)]))]) 4 (fun (g:Nat)=>g≤p.length) (fun (g:Nat)=>p.length - g) (0) [(0,0),(1,1),(2,2),(3,3)] [] (by omega) (by (refine ⟨rfl,rfl,rfl,?_,?_⟩;repeat' first|exact trivial|exact rfl|refine And.intro ?_ ?_|refine ⟨_,rfl,?_⟩|decide)) ?_
  rintro g hg
  (repeat' ((conv=>whnf);first|refine vA ?_|(refine vF ?_ ?_<;>intro hc<;>try simp only [vL] at hc)|refine vT ?_|(refine vQ ?_ fun x hx=>?_;·omega)|refine vX ?_));all_goals try conv=>whnf
  ·refine zaa.res (ziD x) (by (repeat refine ⟨⟨rfl,rfl⟩,?_⟩);rfl) ?_
   (repeat' ((conv=>whnf);refine vT ?_));all_goals try conv=>whnf
   refine zfn (ziF hT x) [5] [] (by first|((repeat refine ⟨⟨rfl,rfl⟩,?_⟩);rfl)|(repeat' first|exact rfl|refine And.intro ?_ ?_|refine ⟨_,rfl,?_⟩)) (by (repeat' first|exact rfl|refine And.intro ?_ ?_|refine ⟨_,rfl,?_⟩)) (by rfl) (by rfl) [(3,.ptr 0 0),(4,.ptr 1 0),(5,.ptr 2 0),(6,.ptr 3 0),(10,.ptr 4 0),(36,.d (dU p)),(37,.d (.int .i64 (((p.map D.u64).length:Int)))),(38,.d (.int .i64 ((g:Int))))] (fun (o:Unit)=>[(0,some (zar a)),(1,some (zar b)),(2,some (.box [.d (dU p)])),(3,some (.box [.d (.int .i64 0)])),(4,some (.box [.d (.int .i64 (g:Int))]))]) 5 (fun i (o:Unit)=>True) (()) [(0,0),(1,1),(2,2),(3,3),(4,4)] [] (trivial) (by (refine ⟨rfl,rfl,rfl,?_,?_⟩;repeat' first|exact trivial|exact rfl|refine And.intro ?_ ?_|refine ⟨_,rfl,?_⟩|decide)) ?_ ?_
   ·rintro i y o hy -
    obtain ⟨u,hu,rfl,hxu,hu64⟩:=zfh hy
    have hub:=hin _ (List.mem_of_getElem? hx) u hxu
    have hgl:=(List.getElem?_eq_some_iff.1 hx).1
    have cm:=ztK (T:=T) hT ha hb hr hp (v:=g) (w:=u) (by omega) hub
    rw [hm g u (by omega) (by simpa [List.getD,hx] using hxu)] at cm
    refine ⟨rfl,?_⟩
    (repeat' ((conv=>whnf);first|refine vE ?_|refine vG ?_|refine vT ?_|refine yD cm (by (repeat refine ⟨⟨rfl,rfl⟩,?_⟩);rfl) rfl ?_));all_goals try conv=>whnf
    exact ⟨(),[(0,0),(1,1),(2,2),(3,3),(4,4)],[],trivial,by (refine ⟨rfl,rfl,rfl,?_,?_⟩;repeat' first|exact trivial|exact rfl|refine And.intro ?_ ?_|refine ⟨_,rfl,?_⟩|decide)⟩
   ·rintro o -
    (repeat' ((conv=>whnf);first|refine vT ?_|(refine vO ?_ ?_;·omega)|fail));all_goals try conv=>whnf
    refine ⟨g+1,[(0,0),(1,1),(2,2),(3,3)],[],?_,?_,by (refine ⟨rfl,rfl,rfl,?_,?_⟩;repeat' first|exact trivial|exact rfl|refine And.intro ?_ ?_|refine ⟨_,rfl,?_⟩|decide)⟩
    ·(omega)
    ·(omega)
end Go.Ab
namespace Go.Ab
open Go
theorem zp8 {x:BitVec 64} : x≠0#64 ↔ ∃ i,x.getLsbD i=true:=by
 constructor
 ·intro h
  refine Classical.byContradiction fun hn=>h (BitVec.eq_of_getLsbD_eq fun i hi=>?_)
  rw [BitVec.getLsbD_zero]
  cases e:x.getLsbD i
  ·rfl
  ·exact absurd ⟨i,e⟩ hn
 ·rintro ⟨i,hi⟩ rfl
  simp at hi
theorem zyg {p:List (BitVec 64)} {s t:BitVec 64} : zsv p s t=true ↔ ∀ x,s.getLsbD x=true → ∃ y,(p.getD x 0#64).getLsbD y=true∧t.getLsbD y=true:=by
 unfold zsv
 rw [List.all_eq_true]
 simp only [zbe,decide_eq_true_eq,zp8,BitVec.getLsbD_and,Bool.and_eq_true]
theorem zyA {p:List (BitVec 64)} {s t:BitVec 64} : zki p s t=true↔(∀ x,s.getLsbD x=true → ∃ y,(p.getD x 0#64).getLsbD y=true∧t.getLsbD y=true) ∧ ∀ y,t.getLsbD y=true → ∃ x,s.getLsbD x=true∧(p.getD x 0#64).getLsbD y=true:=by
 unfold zki
 rw [Bool.and_eq_true,zyg,decide_eq_true_eq]
 refine and_congr Iff.rfl ?_
 constructor
 ·intro h y hy
  refine Classical.byContradiction fun hn=>?_
  have:(t &&& ~~~(zcr p (zt s)))≠0#64:=zp8.2 ⟨y,?_⟩
  ·exact this h
  ·have hy64:y < 64:=by
    refine Nat.lt_of_not_le fun h=>?_
    rw [BitVec.getLsbD_of_ge _ _ h] at hy;cases hy
   rw [BitVec.getLsbD_and,hy,Bool.true_and,BitVec.getLsbD_not,decide_eq_true hy64,Bool.true_and]
   cases e:(zcr p (zt s)).getLsbD y
   ·rfl
   ·obtain ⟨u,hu,he⟩:=zgC.1 e
    exact absurd ⟨u,zbe.1 hu,he⟩ hn
 ·intro h
  refine Classical.byContradiction fun hn=>?_
  obtain ⟨y,hy⟩:=zp8.1 hn
  rw [BitVec.getLsbD_and,BitVec.getLsbD_not,Bool.and_eq_true,Bool.and_eq_true] at hy
  obtain ⟨x,h1,h2⟩:=h y hy.1
  have:(zcr p (zt s)).getLsbD y=true:=zgC.2 ⟨x,zbe.2 h1,h2⟩
  rw [this] at hy
  simp at hy
theorem zix {m:KM} {i v u:Nat} {r:Nat→Nat→Bool} (h:(zf m)[i]? = some r):(zdX m i v).getLsbD u=r v u:=by
 unfold zf at h
 rw [List.getElem?_map,Option.map_eq_some_iff] at h
 obtain ⟨s,hs,rfl⟩:=h
 unfold zdX rb
 simp [List.getD,hs]
theorem zsy {m:KM} (g:zfu m) {i v u:Nat} (h:(zdX m i v).getLsbD u=true):u < m.W.toNat:=by
 have w1:=g.w1
 unfold zdX at h
 by_cases hi:i < m.rel.length
 ·by_cases hv:v < (m.rel[i]).length
  ·have e:(m.rel.getD i []).getD v 0#64=(m.rel[i])[v]:=by simp [List.getD,hi,hv]
   rw [e] at h
   exact (zeq (by omega)).1 (g.rel _ (List.getElem_mem hi) _ (List.getElem_mem hv)) u h
  ·simp [List.getD,hi,hv] at h
 ·simp [List.getD,hi] at h
theorem zBx {a b:KM} (ga:zfu a) (gb:zfu b) {p:List (BitVec 64)} {Z:Nat→Nat→Prop} (B:zch a.W.toNat b.W.toNat (zf a) (zf b) (zz a) (zz b) Z) (hp : ∀ v w,Z v w→(p.getD v 0#64).getLsbD w=true) {v w:Nat} (h:Z v w):zlR a b p v w=true:=by
 unfold zlR
 rw [decide_eq_true (B.fac h),Bool.true_and,List.all_eq_true]
 intro i hi
 have hi:=List.mem_range.1 hi
 obtain ⟨r,hr⟩ : ∃ r,(zf a)[i]? = some r:=⟨_,List.getElem?_eq_getElem (by rw [zyN];exact hi)⟩
 obtain ⟨r',hr'⟩:=zeB B.len hr
 rw [zyA]
 constructor
 ·intro x hx
  have hxl:=zsy ga hx
  rw [zix hr] at hx
  obtain ⟨u,h1,h2,h3⟩:=B.forth hr hr' h hxl hx
  exact ⟨u,hp _ _ h3,by rw [zix hr'];exact h2⟩
 ·intro y hy
  have hyl:=zsy gb hy
  rw [zix hr'] at hy
  obtain ⟨u,h1,h2,h3⟩:=B.back hr hr' h hyl hy
  exact ⟨u,by rw [zix hr];exact h2,hp _ _ h3⟩
theorem zyJ {m:KM} {q:Nat→Nat} (hn:m.W.toNat≤64):zci (zu m.W.toNat q) (zgm m.W.toNat q (zz m)) (zz (zU m q)) ((zf m).map (zaL m.W.toNat q)) (zf (zU m q)) fun x=>x :=
 ⟨⟨fun _ h=>h,fun _ _ _ _ e=>e⟩,fun i hi=>zqb hn hi,zyK hn⟩
theorem zjy (m:KM) (q:Nat→Nat):(zU m q).W.toNat=zu m.W.toNat q:=by show ((zu m.W.toNat q:Nat):Int).toNat=_;rw [Int.toNat_natCast]
theorem zAj {m:KM} (hm:za m=0):zch m.W.toNat (zU m (cq m)).W.toNat (zf m) (zf (zU m (cq m))) (zz m) (zz (zU m (cq m))) fun w i=>w < m.W.toNat∧i=zJ (cq m) w:=by
 have g:=zk hm
 have w1:=g.w1
 have w2:=g.w2
 have S:=ziV (m:=m) (by omega) (by omega)
 have B:=S.quo.trans (zyJ (m:=m) (q:=cq m) (by omega)).bis
 rw [zjy]
 refine ⟨B.len,fun {v v'} h=>⟨h.1,?_⟩,fun {v v'} h=>?_,fun {i r r'} h1 h2 {v v' u} h hu hr=>?_,fun {i r r'} h1 h2 {v v' u} h hu hr=>?_⟩
 ·rw [h.2];exact zcq S.canon h.1
 ·exact B.fac ⟨v',h,by rw [h.2];exact zcq S.canon h.1,rfl⟩
 ·obtain ⟨u',a1,a2,x,a3,a4,rfl⟩:=B.forth h1 h2 ⟨v',h,by rw [h.2];exact zcq S.canon h.1,rfl⟩ hu hr
  exact ⟨u',a1,a2,a3⟩
 ·obtain ⟨u',a1,a2,x,a3,a4,rfl⟩:=B.back h1 h2 ⟨v',h,by rw [h.2];exact zcq S.canon h.1,rfl⟩ hu hr
  exact ⟨u',a1,a2,a3⟩
theorem zqT {m:KM} (hm:za m=0) : ∀ i,i < (zU m (cq m)).W.toNat→cq (zU m (cq m)) i=i:=by
 have g:=zk hm
 have w1:=g.w1
 have w2:=g.w2
 have S:=ziV (m:=m) (by omega) (by omega)
 have B:=zAj hm
 have gQ:=zk (zl0 hm S.canon)
 have q1:=gQ.w1
 have q2:=gQ.w2
 have S':=ziV (m:=zU m (cq m)) (by omega) (by omega)
 intro i hi
 have hle:=S'.canon.le i hi
 have hid:=S'.canon.idem i hi
 generalize hj:cq (zU m (cq m)) i=j at *
 rw [zjy] at hi
 obtain ⟨u,-,hu,-,hui⟩:=zei S.canon hi
 obtain ⟨v,-,hv,-,hvj⟩:=zei S.canon (i:=j) (by omega)
 have:=zjD (by omega) ((B.trans S'.bis).trans B.symm) m.W.toNat v u ⟨i,⟨j,⟨hv,hvj.symm⟩,by rw [zjy];omega,by rw [zjy];omega,by rw [hid,hj]⟩,hu,hui.symm⟩
 rw [← hui,← hvj]
 exact (zeh S.canon hv hu).2 this
section
variable {n:Nat} {q:Nat→Nat} (h : ∀ w,w < n→q w=w)
include h
theorem ziT {k:Nat} (hk:k≤n):zu k q=k:=by
 unfold zu
 rw [List.filter_eq_self.2 fun w hw=>decide_eq_true (h w (by have:=List.mem_range.1 hw;omega))]
 exact List.length_range
theorem zA4:zaD n q=List.range n:=by
 unfold zaD
 exact List.filter_eq_self.2 fun w hw=>decide_eq_true (h w (List.mem_range.1 hw))
theorem zph {w:Nat} (hw:w < n):zJ q w=w:=by
 unfold zJ
 rw [h w hw,ziT h (by omega)]
theorem zAi {r:Nat→Nat→Bool} {i j:Nat} (hi:i < n) (hj:j < n):zaL n q r i j=r i j:=by
 rw [Bool.eq_iff_iff,zbf]
 constructor
 ·rintro ⟨v,w,a,b,c,d,e⟩
  rw [zph h a] at c
  rw [zph h b] at d
  rw [← c,← d];exact e
 ·intro e
  exact ⟨i,j,hi,hj,zph h hi,zph h hj,e⟩
end
theorem zAh {m:KM} (hm:za m=0) {q:Nat→Nat} (h : ∀ w,w < m.W.toNat→q w=w):zU m q=m:=by
 have g:=zk hm
 have w1:=g.w1
 have w2:=g.w2
 have hc:zaC m.W.toNat q:=⟨fun w hw=>by rw [h w hw];omega,fun w hw=>by rw [h w hw,h w hw]⟩
 have hW:(zU m q).W.toNat=m.W.toNat:=by rw [zjy,ziT h (Nat.le_refl _)]
 refine zwF (zkn g hc) g (by have:=(zkn g hc).w1;omega) (by simp [zU]) (by simp [zU]) (fun w hw=>?_) fun i r r' h1 h2 v w hv hw=>?_
 ·rw [hW] at hw
  rw [zqb (by omega) (by rw [ziT h (Nat.le_refl _)];exact hw)]
  unfold zgm
  rw [zA4 h]
  simp [List.getD,hw]
 ·rw [hW] at hv hw
  have h3:((zf m).map (zaL m.W.toNat q))[i]? = some (zaL m.W.toNat q r'):=by rw [List.getElem?_map,h2];rfl
  rw [zmC (by omega) h1 h3 (by rw [ziT h (Nat.le_refl _)];exact hv) (by rw [ziT h (Nat.le_refl _)];exact hw),zAi h hv hw]
theorem zBF {m:KM} (hm:za m=0):zn5 (zU m (cq m))=(zU m (cq m),ptL (zU m (cq m)).W.toNat (zJ (cq (zU m (cq m)))),0)∧zsP (zU m (cq m))=true:=by
 have hk:=zl0 hm (zcR m)
 constructor
 ·unfold zn5
  rw [if_neg (not_not_intro hk),zAh hk (zqT hm)]
 ·unfold zsP
  rw [decide_eq_true_eq]
  exact ⟨hk,ziT (zqT hm) (Nat.le_refl _)⟩
end Go.Ab
namespace Go.Ab
open Go Go.Proofs
set_option maxRecDepth 10000
set_option maxHeartbeats 4000000
variable {T:Nat→Obj→Prop}
theorem zyc (l:List (List (BitVec 64))) (g:Nat) (y:D) (p:List (BitVec 64)→Bool) (hF : ∀ x,Fn Tryz.prog T g [.d (dU x),.d y] [] (.d (.bool (p x))) []):Fn Tryz.prog T zao [.d (dUU l),.d (.fn g [y])] [] (.d (.bool (l.any p))) []:=by
 refine zg zx zbm (by show 2≤9;decide) ?_
 (repeat' ((conv=>whnf);first|refine vT ?_|refine vZ ?_|refine yD (zsm l g y p hF) ⟨⟨rfl,rfl⟩,⟨rfl,rfl⟩,rfl⟩ rfl ?_));all_goals try conv=>whnf
 exact zim
theorem zzV (l:List Int) (g:Nat) (y:D) (p:Int→Bool) (hF : ∀ x,Fn Tryz.prog T g [.d (.int .i64 x),.d y] [] (.d (.bool (p x))) []):Fn Tryz.prog T zc8 [.d (dI l),.d (.fn g [y])] [] (.d (.int .i64 (zdW p l))) []:=by
 refine zg zx zgc (by show 2≤19;decide) ?_
 (repeat' ((conv=>whnf);first|refine vA ?_|refine vJ fun hg=>?_|refine vT ?_));all_goals try conv=>whnf
 refine zah (fun (k:Nat)=>[(0,.d (dI l)),(1,.d (.fn g [y])),(7,.d (.int .i64 ((l.map (D.int .i64)).length:Int))),(8,.d (.int .i64 ((k:Int))))]) (fun (k:Nat)=>k≤l.length ∧ ∀ (i:Nat) x,i < k→l[i]? = some x→p x=false) (fun (k:Nat)=>l.length - k) (0) (⟨by simp,fun i x h=>by omega⟩) (by (repeat' first|exact trivial|exact rfl|refine And.intro ?_ ?_)) ?_
 rintro k ⟨hk,hI⟩
 (repeat' ((conv=>whnf);first|refine vA ?_|((first|refine vF ?_ ?_|refine vI ?_ ?_)<;>intro hc<;>try simp only [vL] at hc)|refine vT ?_|(refine vQ ?_ fun x hx=>?_;·omega)|(refine vO ?_ ?_;·omega)|refine vX ?_|refine yD (hF _) (by (repeat refine ⟨⟨rfl,rfl⟩,?_⟩);rfl) rfl ?_));all_goals try conv=>whnf
 ·rw [zea hx ‹_› hI]
 ·exact ⟨k+1,[],[],⟨by (omega),fun i z hi hz=>by
   by_cases e:i=k
   ·subst e;rw [hx] at hz;cases hz;assumption
   ·exact hI i z (by omega) hz⟩,by (omega),by (refine ⟨rfl,rfl,rfl,?_,?_⟩;repeat' first|exact trivial|exact rfl|refine And.intro ?_ ?_)⟩
 ·rw [zfJ fun i x hi hx=>hI i x (by omega) hx]
theorem zzU (l:List Int) (g:Nat) (y:D) (p:Int→Bool) (hF : ∀ x,Fn Tryz.prog T g [.d (.int .i64 x),.d y] [] (.d (.bool (p x))) []):Fn Tryz.prog T zcg [.d (dI l),.d (.fn g [y])] [] (.d (.bool (l.any p))) []:=by
 refine zg zx zfs (by show 2≤9;decide) ?_
 (repeat' ((conv=>whnf);first|refine vT ?_|refine vZ ?_|refine yD (zzV l g y p hF) ⟨⟨rfl,rfl⟩,⟨rfl,rfl⟩,rfl⟩ rfl ?_));all_goals try conv=>whnf
 exact zim
def prL (k:Int):List Int:=if k=1 then [1] else if k=2 then [2] else [2,4,5]
theorem zja {k:Int} (hk:k=2∨k=1∨k=6):Fn Tryz.prog T zfY [.d (.int .i64 k)] [] (.d (dLI (prL k,0))) []:=by
 refine zg zx zkR (by show 1≤25;decide) ?_
 rcases hk with rfl|rfl|rfl<;>(repeat' ((conv=>whnf);first|refine vA ?_|refine vG ?_|refine vH ?_|refine vT ?_));all_goals try conv=>whnf
 all_goals rfl
noncomputable def zj1 (r:List (BitVec 64)) (k:Int):Bool := !(decide (zbg r≠0)||(prL k).any fun p => !zj5 r p)
theorem zye (hT:za0 T) (r:List (BitVec 64)) (p:Int):Fn Tryz.prog T zet [.d (.int .i64 p),.d (.box [dU r])] [] (.d (.bool (!zj5 r p))) []:=by
 refine zg zx zp0 (by show 2≤8;decide) ?_
 (repeat' ((conv=>whnf);first|refine vT ?_|refine vZ ?_|refine yD (zAV hT _ _) ⟨⟨rfl,rfl⟩,⟨rfl,rfl⟩,rfl⟩ rfl ?_));all_goals try conv=>whnf
theorem zzY (hT:za0 T) (r:List (BitVec 64)) {k:Int} (hk:k=2∨k=1∨k=6):Fn Tryz.prog T zlp [.d (dU r),.d (.int .i64 k)] [] (.d (.bool (zj1 r k))) []:=by
 have cp:=zja (T:=T) hk
 have cc:=zzU (T:=T) (prL k) zet (.box [dU r]) (fun p => !zj5 r p) (zye hT r)
 refine zg zx zsD (by show 2≤25;decide) ?_
 unfold zj1
 generalize (prL k).any (fun p => !zj5 r p)=z at *
 generalize prL k=ps at *
 (repeat' ((conv=>whnf);first|refine vA ?_|refine vH ?_|(refine vD ?_ ?_<;>intro hc)|refine vJ fun hg=>?_|refine vT ?_|refine vZ ?_|refine yN cp ⟨⟨rfl,rfl⟩,rfl⟩ ?_|refine yD (znl r) ⟨⟨rfl,rfl⟩,⟨rfl,rfl⟩,rfl⟩ rfl ?_|refine yD cc ⟨⟨rfl,rfl⟩,⟨rfl,rfl⟩,rfl⟩ rfl ?_));all_goals try conv=>whnf
 ·rw [decide_eq_true (by omega)];rfl
 ·rw [decide_eq_false (by omega)];rfl
theorem zzZ (hT:za0 T) (r:List (BitVec 64)) {k:Int} (hk:k=2∨k=1∨k=6):Fn Tryz.prog T zeZ [.d (dU r),.d (.box [.int .i64 k])] [] (.d (.bool (!zj1 r k))) []:=by
 refine zg zx zri (by show 2≤8;decide) ?_
 (repeat' ((conv=>whnf);first|refine vT ?_|refine vZ ?_|refine yD (zzY hT _ hk) ⟨⟨rfl,rfl⟩,⟨rfl,rfl⟩,rfl⟩ rfl ?_));all_goals try conv=>whnf
noncomputable def fIn (m:KM) (k:Int):Bool:=decide (za m=0) && !(m.rel.any fun r => !zj1 r k)
theorem zBS (hT:za0 T) (m:KM) {k:Int} (hk:k=2∨k=1∨k=6):Fn Tryz.prog T znb [.d (dKM m),.d (.int .i64 k)] [] (.d (.bool (fIn m k))) []:=by
 have cp:=zja (T:=T) hk
 have cm:=zau (T:=T) m
 have cc:=zyc (T:=T) m.rel zeZ (.box [.int .i64 k]) (fun r => !zj1 r k) (fun r=>zzZ hT r hk)
 refine zg zx ztS (by show 2≤26;decide) ?_
 unfold fIn
 generalize m.rel.any (fun r => !zj1 r k)=z at *
 generalize prL k=ps at *
 (repeat' ((conv=>whnf);first|refine vA ?_|refine vG ?_|(refine vF ?_ ?_<;>intro hc)|refine vT ?_|refine vZ ?_|refine yN cp ⟨⟨rfl,rfl⟩,rfl⟩ ?_|refine yD cm ⟨⟨rfl,rfl⟩,rfl⟩ rfl ?_|refine yD cc ⟨⟨rfl,rfl⟩,⟨rfl,rfl⟩,rfl⟩ rfl ?_));all_goals try conv=>whnf
 ·rw [decide_eq_true (by omega)];rfl
 ·rw [decide_eq_false (by omega)];rfl
theorem zsc {r:List (BitVec 64)} {k:Int} : zj1 r k=true↔zbg r=0 ∧ ∀ p∈prL k,zuS r p:=by
 unfold zj1
 simp only [Bool.not_eq_true',Bool.or_eq_false_iff,decide_eq_false_iff_not,List.any_eq_false,zhr]
 exact and_congr ⟨fun h=>by omega,fun h=>by omega⟩ (forall_congr' fun p=>forall_congr' fun _=>Classical.not_not)
theorem zzT {m:KM} {k:Int} : fIn m k=true↔za m=0 ∧ ∀ r∈m.rel,zj1 r k=true:=by
 unfold fIn
 rw [Bool.and_eq_true,decide_eq_true_eq,Bool.not_eq_true',List.any_eq_false]
 simp only [Bool.not_eq_true',Bool.not_eq_false]
theorem zAn {m:KM} (hm:za m=0) {r':List (BitVec 64)} (h:r'∈(zU m (cq m)).rel) : ∃ r∈m.rel,r'.length=zu m.W.toNat (cq m)∧ziN r' ∧ ∀ v w,v < zu m.W.toNat (cq m)→w < zu m.W.toNat (cq m)→rb r' v w=zaL m.W.toNat (cq m) (fun a b=>rb r a b) v w:=by
 have g:=zk hm
 have w2:=g.w2
 have gQ:=zkn g (zcR m)
 have q1:=gQ.w1
 have hQW:=zjy m (cq m)
 have hlen:=gQ.len _ h
 obtain ⟨i,hi⟩:=List.mem_iff_getElem?.1 h
 have hil:=(List.getElem?_eq_some_iff.1 hi).1
 have hl:(zU m (cq m)).rel.length=m.rel.length:=by simp [zU]
 obtain ⟨r,hr⟩ : ∃ r,m.rel[i]? = some r:=⟨_,List.getElem?_eq_getElem (by omega)⟩
 refine ⟨r,List.mem_of_getElem? hr,by omega,fun v w hb=>?_,fun v w hv hw=>?_⟩
 ·unfold rb at hb
  by_cases hv:v < r'.length
  ·rw [List.getD,List.getElem?_eq_getElem hv] at hb
   have:=(zeq (by omega)).1 (gQ.rel _ h _ (List.getElem_mem hv)) w hb
   omega
  ·rw [List.getD,List.getElem?_eq_none (by omega)] at hb
   simp at hb
 ·exact zmC (q:=cq m) (by omega) (show (zf (zU m (cq m)))[i]? = some fun a b=>rb r' a b by unfold zf;rw [List.getElem?_map,hi];rfl) (show ((zf m).map (zaL m.W.toNat (cq m)))[i]? = some (zaL m.W.toNat (cq m) fun a b=>rb r a b) by unfold zf;rw [List.getElem?_map,List.getElem?_map,hr];rfl) hv hw
theorem zBO {m:KM} (hm:za m=0) {k:Int} (hk:k=2∨k=1∨k=6) (h:fIn m k=true):fIn (zU m (cq m)) k=true:=by
 have g:=zk hm
 have w1:=g.w1
 have w2:=g.w2
 have S:=ziV (m:=m) (by omega) (by omega)
 have hle:=zcp m.W.toNat (cq m)
 rw [zzT] at h ⊢
 refine ⟨zl0 hm (zcR m),fun r' hr'=>?_⟩
 obtain ⟨r,hr,hl,hin,hrel⟩:=zAn hm hr'
 have hmem:(fun a b=>rb r a b)∈zf m:=List.mem_map.2 ⟨r,hr,rfl⟩
 have hrl:=g.len r hr
 obtain ⟨h0,hp⟩:=zsc.1 (h.2 r hr)
 have hin0:=(zeV.1 h0).2
 have hr0:zbg r'=0:=zeV.2 ⟨by omega,hin⟩
 have lt : ∀ {v w:Nat},rb r' v w=true→v < zu m.W.toNat (cq m)∧w < zu m.W.toNat (cq m):=fun {v w} h=>by
  refine ⟨Nat.lt_of_not_le fun hv=>?_,by have:=hin v w h;omega⟩
  rw [zjA (by omega)] at h;cases h
 have tot : ∀ {v w:Nat},rb r' v w=true→zaL m.W.toNat (cq m) (fun a b=>rb r a b) v w=true:=fun {v w} h=>by
  rw [← hrel v w (lt h).1 (lt h).2];exact h
 have ser:(∀ w,w < r.length → ∃ v,rb r w v=true) → ∀ w,w < r'.length → ∃ v,rb r' w v=true:=fun hs w hw=>by
  obtain ⟨j,hj,e⟩:=zvB S.canon (r:=fun a b=>rb r a b) (fun v hv=>by
   obtain ⟨u,hu⟩:=hs v (by omega)
   exact ⟨u,by have:=hin0 v u hu;omega,hu⟩) w (by omega)
  exact ⟨j,by rw [hrel w j (by omega) hj];exact e⟩
 have refl:(∀ w,w < r.length→rb r w w=true) → ∀ w,w < r'.length→rb r' w w=true:=fun hs w hw=>by
  rw [hrel w w (by omega) (by omega)]
  exact zyL S.canon (r:=fun a b=>rb r a b) (fun v hv=>hs v (by omega)) w (by omega)
 have trans:(∀ w u v,rb r w u=true→rb r u v=true→rb r w v=true) → ∀ w u v,rb r' w u=true→rb r' u v=true→rb r' w v=true:=fun hs w u v a b=>by
  rw [hrel w v (lt a).1 (lt b).2]
  exact zwZ S hmem (fun u v w _ _ _=>hs u v w) w u v (tot a) (tot b)
 have eucl:(∀ w u v,rb r w u=true→rb r w v=true→rb r u v=true) → ∀ w u v,rb r' w u=true→rb r' w v=true→rb r' u v=true:=fun hs w u v a b=>by
  rw [hrel u v (lt a).2 (lt b).2]
  obtain ⟨x,y,hx,hy,ex,ey,e⟩:=zbf.1 (tot a)
  obtain ⟨x',y',hx',hy',ex',ey',e'⟩:=zbf.1 (tot b)
  have e1:=(zeh S.canon hx' hx).1 (ex'.trans ex.symm)
  obtain ⟨z,z1,z2,z3⟩:=((zbY.1 (S.stab x' x hx' hx e1)).2 _ hmem (cq m y')).1 ⟨y',hy',e',rfl⟩
  exact zbf.2 ⟨y,z,hy,z1,ey,by rw [← ey'];exact (zeh S.canon z1 hy').2 z3,hs x y z e z2⟩
 refine zsc.2 ⟨hr0,fun p hpm=>⟨hr0,?_⟩⟩
 have h3:=(hp p hpm).2
 rcases h3 with ⟨rfl,h3⟩|⟨rfl,h3⟩|⟨rfl,h3⟩|⟨rfl,h3⟩|⟨rfl,h3⟩
 ·exact .inl ⟨rfl,ser h3⟩
 ·exact .inr (.inl ⟨rfl,refl h3⟩)
 ·exfalso
  rcases hk with rfl|rfl|rfl<;>revert hpm<;>decide
 ·exact .inr (.inr (.inr (.inl ⟨rfl,trans h3⟩)))
 ·exact .inr (.inr (.inr (.inr ⟨rfl,eucl h3⟩)))
end Go.Ab
