/- A part of the proofs of this seat: functions and their contracts. -/
import Derived.Test.YtkmhdnlmghaooaaGreatDoorMD
import Derived.Calls
set_option linter.unusedVariables false
set_option linter.unusedSimpArgs false
set_option linter.unusedSectionVars false
namespace Go.Ab
section
variable {α:Type} [Inhabited α] [DecidableEq α]
theorem zfX {d:Array α} {x:α} : ∀ {n:Nat},x∈ddA d n ↔ ∃ i,i < n∧d[i]! = x
 | 0=>by simp [ddA]
 | n+1=>by
  rw [ddA]
  constructor
  ·intro h
   split at h
   ·obtain ⟨i,h1,h2⟩:=zfX.1 h
    exact ⟨i,by omega,h2⟩
   ·rcases List.mem_append.1 h with h|h
    ·obtain ⟨i,h1,h2⟩:=zfX.1 h
     exact ⟨i,by omega,h2⟩
    ·exact ⟨n,by omega,by simp at h;exact h.symm⟩
  ·rintro ⟨i,h1,h2⟩
   split
   ·rename_i hc
    by_cases e:i=n
    ·subst e
     exact zfX.2 ⟨i - 1,by omega,by rw [← hc.2];exact h2⟩
    ·exact zfX.2 ⟨i,by omega,h2⟩
   ·by_cases e:i=n
    ·subst e;exact List.mem_append.2 (.inr (by simp [h2]))
    ·exact List.mem_append.2 (.inl (zfX.2 ⟨i,by omega,h2⟩))
theorem zk0 {lt:α→α→Bool} {d:Array α} (hs : ∀ i j,i < j→j < d.size→lt d[j]! d[i]! = false) (tri : ∀ x y,lt x y=false→lt y x=false→x=y) : ∀ {n:Nat},n≤d.size→(ddA d n).Pairwise fun x y=>lt x y=true
 | 0,_=>List.Pairwise.nil
 | n+1,h=>by
  rw [ddA]
  split
  ·exact zk0 hs tri (by omega)
  ·rename_i hc
   refine List.pairwise_append.2 ⟨zk0 hs tri (by omega),List.pairwise_singleton _ _,fun x hx y hy=>?_⟩
   obtain ⟨i,hi,rfl⟩:=zfX.1 hx
   have hy:y=d[n]! := by simpa using hy
   subst hy
   cases hb:lt d[i]! d[n]! with
   | true=>rfl
   | false =>
    have e1:=tri _ _ hb (hs i n hi (by omega))
    refine absurd ⟨by omega,?_⟩ hc
    by_cases e:i=n - 1
    ·rw [← e];exact e1.symm
    ·refine (tri _ _ ?_ ?_)
     ·exact hs (n - 1) n (by omega) (by omega)
     ·rw [← e1];exact hs i (n - 1) (by omega) (by omega)
end
def ltT (x y:Tup):Bool:=decide (zbe x y < 0)
theorem zie {x y:Tup} : ltT x y=true↔zbe x y < 0:=by simp [ltT]
theorem zva {x y:Tup} : ltT x y=false↔0≤zbe x y:=by simp [ltT]
theorem zEo:Sort.SWO ltT:=by
 refine ⟨fun x=>zva.2 (by rw [zaB.refl];omega),fun x y z h1 h2=>zie.2 (zaB.tr (zie.1 h1) (zie.1 h2)),fun x y z h1 h2=>?_⟩
 rw [zva] at *
 have a1:=zaB.anti x y
 have a2:=zaB.anti y z
 have a3:=zaB.anti x z
 by_cases e1:zbe x y=0
 ·rw [zaB.zero.1 e1];exact h2
 ·by_cases e2:zbe y z=0
  ·rw [← zaB.zero.1 e2];exact h1
  ·have:=zaB.tr (x:=z) (y:=y) (z:=x) (by omega) (by omega)
   omega
theorem zmF {α:Type} {p:α→Bool} : ∀ {S:List α} {i:Nat},i≤S.length→(∀ (k:Nat) x,k < i→S[k]? = some x→p x=true)→(∀ (k:Nat) x,i≤k→S[k]? = some x→p x=false)→(S.filter p).length=i
 | [],i,hi,_,_=>by simp at hi;simp [hi]
 | a::S,0,hi,h1,h2=>by
  have:(a::S).filter p=[]:=by
   rw [List.filter_eq_nil_iff]
   intro x hx
   obtain ⟨k,hk⟩:=List.getElem?_of_mem hx
   rw [h2 k x (by omega) hk];simp
  rw [this];rfl
 | a::S,i+1,hi,h1,h2=>by
  rw [List.filter_cons_of_pos (h1 0 a (by omega) rfl),List.length_cons,zmF (i:=i) (by simpa using hi) (fun k x hk hx=>h1 (k+1) x (by omega) (by simpa using hx)) fun k x hk hx=>h2 (k+1) x (by omega) (by simpa using hx)]
structure zcR (ts S:List Tup):Prop where
 pw:S.Pairwise fun x y=>zbe x y < 0
 mem : ∀ x,x∈S↔x∈ts
theorem zcR.nodup {ts S:List Tup} (h:zcR ts S):S.Nodup:=h.pw.imp fun {a b} h e=>by subst e;rw [zaB.refl] at h;omega
theorem zcR.cnt {ts S:List Tup} (h:zcR ts S):S.length=cnN ts:=zCq h.nodup h.mem
theorem zcR.le {ts S:List Tup} (h:zcR ts S):S.length≤ts.length:=zb9 h.nodup fun x hx=>(h.mem x).1 hx
theorem zcR.rk {ts S:List Tup} (h:zcR ts S) {t:Tup} {i:Nat} (hi:i≤S.length) (h1 : ∀ (k:Nat) x,k < i→S[k]? = some x→zbe x t < 0) (h2 : ∀ (k:Nat) x,i≤k→S[k]? = some x → ¬zbe x t < 0):i=rkN ts t:=by
 rw [← zCA h.nodup h.mem]
 exact (zmF hi (fun k x hk hx=>decide_eq_true (h1 k x hk hx)) fun k x hk hx=>decide_eq_false (h2 k x hk hx)).symm
theorem zcR.lt_of {ts S:List Tup} (h:zcR ts S) {t:Tup} {i k:Nat} {x y:Tup} (hx:S[i]? = some x) (hy:S[k]? = some y) (hik:k≤i) (hl:zbe x t < 0):zbe y t < 0:=by
 by_cases e:k=i
 ·subst e;rw [hx] at hy;cases hy;exact hl
 ·obtain ⟨a,b⟩:=List.getElem?_eq_some_iff.1 hx
  obtain ⟨c,d⟩:=List.getElem?_eq_some_iff.1 hy
  have:=List.pairwise_iff_getElem.1 h.pw k i c a (by omega)
  rw [b,d] at this
  exact zaB.tr this hl
theorem ztq (d:Array Tup):(Sort.sort ltT d).toList.Perm d.toList:=by
 obtain ⟨⟨h1,-,h2⟩,-⟩:=Sort.sort_sorts ltT zEo d
 have e1:(Sort.sort ltT d).extract 0 d.size=Sort.sort ltT d:=by rw [← h1];simp
 have e2:d.extract 0 d.size=d:=by simp
 rwa [e1,e2] at h2
theorem zyr {ts:List Tup} {S:Array Tup} (hS:S=Sort.sort ltT ts.toArray):zcR ts (ddA S S.size):=by
 subst hS
 obtain ⟨⟨h1,-,-⟩,h3⟩:=Sort.sort_sorts _ zEo ts.toArray
 have hp:=ztq ts.toArray
 generalize Sort.sort ltT ts.toArray=S at h1 h3 hp
 refine ⟨?_,fun x=>?_⟩
 ·refine (zk0 (fun i j hij hj=>h3 i j (Nat.zero_le _) hij (by rw [← h1];exact hj)) (fun x y h1 h2=>zaB.zero.1 (by rw [zva] at h1 h2;have:=zaB.anti x y;omega)) (Nat.le_refl _)).imp fun h=>zie.1 h
 ·rw [zfX]
  have:=hp.mem_iff (a:=x)
  rw [show ts.toArray.toList=ts from rfl] at this
  rw [← this]
  constructor
  ·rintro ⟨i,hi,rfl⟩;exact List.mem_of_getElem? (zcf hi)
  ·intro hx
   obtain ⟨i,hi⟩:=List.getElem?_of_mem hx
   exact ⟨i,(zbo hi).2,(zbo hi).1⟩
end Go.Ab
namespace Go.Ab
open Go Go.Proofs
set_option maxRecDepth 10000
set_option maxHeartbeats 4000000
variable {T:Nat→Obj→Prop}
theorem ze5 (a b:Int):Fn Tryz.prog T zb4 [.d (.int .i64 a),.d (.int .i64 b)] [] (.d (.int .i64 (zbv a b))) []:=by
 have hn : ∀ z:Int,Fn Tryz.prog T zfI [.d (.int .i64 z)] [] (.d (.bool false)) []:=fun z=>by
  refine zb zn ziK (by show 1≤6;decide) ?_
  (repeat' ((conv=>whnf);first|refine vT ?_|refine vZ ?_));all_goals try conv=>whnf
  simp
 refine zb zn zmT (by show 2≤20;decide) ?_
 (repeat' ((conv=>whnf);first|refine vA ?_|refine vH ?_|(refine vF ?_ ?_<;>intro hc<;>try simp only [vL] at hc)|refine vT ?_|refine vX ?_|refine yD (hn _) (by (repeat refine ⟨⟨rfl,rfl⟩,?_⟩);rfl) rfl ?_));all_goals try conv=>whnf
 all_goals (unfold zbv;first|rw [if_pos ‹_›]|(rw [if_neg (by omega)];first|rw [if_pos ‹_›]|rw [if_neg (by omega)])|skip)
theorem zuo {α:Type} {c:α→α→Int} {a b:List α} {k:Nat} (h:k=min a.length b.length):zao c (a.drop k) (b.drop k)=zbv (a.length:Int) (b.length:Int):=by
 rcases Nat.lt_trichotomy a.length b.length with h1|h1|h1
 ·rw [List.drop_eq_nil_of_le (show a.length≤k by omega)]
  obtain ⟨x,hx⟩ : ∃ x,b[k]? = some x:=⟨_,List.getElem?_eq_getElem (by omega)⟩
  rw [z2 hx,zao,zbv,if_pos (by omega)]
 ·rw [List.drop_eq_nil_of_le (show a.length≤k by omega),List.drop_eq_nil_of_le (show b.length≤k by omega),zao,zbv,if_neg (by omega),if_neg (by omega)]
 ·rw [List.drop_eq_nil_of_le (show b.length≤k by omega)]
  obtain ⟨x,hx⟩ : ∃ x,a[k]? = some x:=⟨_,List.getElem?_eq_getElem (by omega)⟩
  rw [z2 hx,zao,zbv,if_neg (by omega),if_pos (by omega)]
theorem zr4 (a b:List Int) (ha:a.length≤1000000):Fn Tryz.prog T zfe [.d (dI a),.d (dI b),.d (.fn zb4 [])] [] (.d (.int .i64 (zao zbv a b))) []:=by
 refine zb zn zi5 (by show 3≤36;decide) ?_
 (repeat' ((conv=>whnf);first|refine vA ?_|refine vJ fun hg=>?_|refine vT ?_));all_goals try conv=>whnf
 refine zal (fun (k:Nat)=>[(0,.d (dI a)),(1,.d (dI b)),(2,.d (.fn zb4 [])),(13,.d (.int .i64 ((min ((a.map (D.int .i64)).length:Int) ((b.map (D.int .i64)).length:Int))))),(14,.d (.int .i64 ((k:Int))))]) (fun (k:Nat)=>k≤a.length∧k≤b.length∧zao zbv a b=zao zbv (a.drop k) (b.drop k)) (fun (k:Nat)=>a.length - k) (0) (⟨by simp,by simp,rfl⟩) (by (repeat' first|exact trivial|exact rfl|refine And.intro ?_ ?_)) ?_
 rintro k ⟨hk,hk2,hI⟩
 by_cases hkl:k < a.length∧k < b.length
 ·obtain ⟨x,hx⟩ : ∃ x,a[k]? = some x:=⟨_,List.getElem?_eq_getElem hkl.1⟩
  obtain ⟨y,hy⟩ : ∃ y,b[k]? = some y:=⟨_,List.getElem?_eq_getElem hkl.2⟩
  have hs:zao zbv a b=if zbv x y=0 then zao zbv (a.drop (k+1)) (b.drop (k+1)) else zbv x y:=by rw [hI,z2 hx,z2 hy,zao]
  (repeat' ((conv=>whnf);first|refine vA ?_|((first|refine vD ?_ ?_|refine vF ?_ ?_)<;>intro hc<;>try simp only [vL] at hc)|refine vJ fun hg=>?_|refine vT ?_|refine vN ‹_› ?_|(refine vO ?_ ?_;·omega)|(refine vU ?_ ?_;·kernel_rfl)|refine vX ?_|refine yD (ze5 _ _) ⟨⟨rfl,rfl⟩,⟨rfl,rfl⟩,rfl⟩ rfl ?_));all_goals try conv=>whnf
  ·rw [hs,if_neg hc]
  ·exact ⟨k+1,[],[],⟨by omega,by omega,by rw [hs,if_pos hc]⟩,by (omega),by (refine ⟨rfl,rfl,rfl,?_,?_⟩;repeat' first|exact trivial|exact rfl|refine And.intro ?_ ?_)⟩
  ·omega
 ·(repeat' ((conv=>whnf);first|refine vA ?_|((first|refine vD ?_ ?_|refine vF ?_ ?_)<;>intro hc<;>try simp only [vL] at hc)|refine vJ fun hg=>?_|refine vT ?_|(refine vQ ?_ fun x hx=>?_;·omega)|(refine vO ?_ ?_;·omega)|(refine vU ?_ ?_;·kernel_rfl)|refine vX ?_|refine yD (ze5 _ _) ⟨⟨rfl,rfl⟩,⟨rfl,rfl⟩,rfl⟩ rfl ?_));all_goals try conv=>whnf
  iterate 2 (exfalso;omega)
  ·rw [hI,zuo (by omega),List.length_map,List.length_map]
def Sml (t:Tup):Prop:=t.length≤1000 ∧ ∀ r∈t,r.length≤1000
theorem zzd (x y:List Int) (h:x.length≤1000000):Fn Tryz.prog T zb5 [.d (dI x),.d (dI y)] [] (.d (.int .i64 (zao zbv x y))) []:=by
 refine zb zn zmV (by show 2≤8;decide) ?_
 (repeat' ((conv=>whnf);first|refine vT ?_|refine vX ?_|refine yD (zr4 x y h) ⟨⟨rfl,rfl⟩,⟨rfl,rfl⟩,⟨rfl,rfl⟩,rfl⟩ rfl ?_));all_goals try conv=>whnf
theorem zuQ (a b:Tup) (ha:a.length≤1000000) (hb : ∀ r∈a,r.length≤1000000):Fn Tryz.prog T zeL [.d (dII a),.d (dII b),.d (.fn zb5 [])] [] (.d (.int .i64 (zao (zao zbv) a b))) []:=by
 refine zb zn ziL (by show 3≤36;decide) ?_
 (repeat' ((conv=>whnf);first|refine vA ?_|refine vJ fun hg=>?_|refine vT ?_));all_goals try conv=>whnf
 refine zal (fun (k:Nat)=>[(0,.d (dII a)),(1,.d (dII b)),(2,.d (.fn zb5 [])),(13,.d (.int .i64 ((min ((a.map dI).length:Int) ((b.map dI).length:Int))))),(14,.d (.int .i64 ((k:Int))))]) (fun (k:Nat)=>k≤a.length∧k≤b.length∧zao (zao zbv) a b=zao (zao zbv) (a.drop k) (b.drop k)) (fun (k:Nat)=>a.length - k) (0) (⟨by simp,by simp,rfl⟩) (by (repeat' first|exact trivial|exact rfl|refine And.intro ?_ ?_)) ?_
 rintro k ⟨hk,hk2,hI⟩
 by_cases hkl:k < a.length∧k < b.length
 ·obtain ⟨x,hx⟩ : ∃ x,a[k]? = some x:=⟨_,List.getElem?_eq_getElem hkl.1⟩
  obtain ⟨y,hy⟩ : ∃ y,b[k]? = some y:=⟨_,List.getElem?_eq_getElem hkl.2⟩
  have hs:zao (zao zbv) a b=if (zao zbv) x y=0 then zao (zao zbv) (a.drop (k+1)) (b.drop (k+1)) else (zao zbv) x y:=by rw [hI,z2 hx,z2 hy,zao]
  have cA:=zzd (T:=T) x y (hb x (List.mem_of_getElem? hx))
  (repeat' ((conv=>whnf);first|refine vA ?_|((first|refine vD ?_ ?_|refine vF ?_ ?_)<;>intro hc<;>try simp only [vL] at hc)|refine vJ fun hg=>?_|refine vT ?_|refine vN ‹_› ?_|(refine vO ?_ ?_;·omega)|(refine vU ?_ ?_;·kernel_rfl)|refine vX ?_|refine yD cA ⟨⟨rfl,rfl⟩,⟨rfl,rfl⟩,rfl⟩ rfl ?_|refine yD (ze5 _ _) ⟨⟨rfl,rfl⟩,⟨rfl,rfl⟩,rfl⟩ rfl ?_));all_goals try conv=>whnf
  ·rw [hs,if_neg hc]
  ·exact ⟨k+1,[],[],⟨by omega,by omega,by rw [hs,if_pos hc]⟩,by (omega),by (refine ⟨rfl,rfl,rfl,?_,?_⟩;repeat' first|exact trivial|exact rfl|refine And.intro ?_ ?_)⟩
  ·omega
 ·(repeat' ((conv=>whnf);first|refine vA ?_|(refine vF ?_ ?_<;>intro hc<;>try simp only [vL] at hc)|refine vJ fun hg=>?_|refine vT ?_|(refine vQ ?_ fun x hx=>?_;·omega)|refine vX ?_|refine yD (ze5 _ _) ⟨⟨rfl,rfl⟩,⟨rfl,rfl⟩,rfl⟩ rfl ?_));all_goals try conv=>whnf
  ·exfalso;omega
  ·rw [hI,zuo (by omega),List.length_map,List.length_map]
theorem ziJ (x y:Tup) (h:Sml x):Fn Tryz.prog T zW [.d (dII x),.d (dII y)] [] (.d (.int .i64 (zbe x y))) []:=by
 have cB:=zuQ (T:=T) x y (by have:=h.1;omega) (fun r hr=>by have:=h.2 r hr;omega)
 refine zb zn zpC (by show 2≤8;decide) ?_
 (repeat' ((conv=>whnf);first|refine vT ?_|refine vX ?_|refine yD cB ⟨⟨rfl,rfl⟩,⟨rfl,rfl⟩,⟨rfl,rfl⟩,rfl⟩ rfl ?_));all_goals try conv=>whnf
 rfl
theorem zDE {α:Type} [Inhabited α] {d:Array α} {i j:Nat} (hi:i < d.size) (hj:j < d.size) {x:α} (h:x∈(Sort.swp d i j).toList):x∈d.toList:=by
 have a1:=List.mem_of_getElem? (zcf hi)
 have a2:=List.mem_of_getElem? (zcf hj)
 unfold Sort.swp at h
 simp only [Array.set!_eq_setIfInBounds,Array.toList_setIfInBounds] at h
 rcases List.mem_or_eq_of_mem_set h with h|rfl
 ·rcases List.mem_or_eq_of_mem_set h with h|rfl
  ·exact h
  ·exact a2
 ·exact a1
abbrev zg2 (d:Array Tup):Ob := .row 1 (d.toList.map dII)
theorem zC3 (d:Array Tup) (b:Nat) (hd : ∀ x∈d.toList,Sml x) (hb:b≤d.size) (hs:d.size≤1000) :
  Fn Tryz.prog T za8 [.own 0,.d (.int .i64 0),.d (.int .i64 (b:Int)),.d (.fn zW [])] [zg2 d] (.tup []) [some (zg2 (Sort.insertionSort ltT d 0 b))]:=by
 refine zP zn zc5 (by show 4≤53;decide) _ (fun e env mem n h=>h) ?_
 (repeat' ((conv=>whnf);first|refine vT ?_|(refine vO ?_ ?_;·omega)|fail));all_goals try conv=>whnf
 refine zy (fun ((ii,xs):Int×List D)=>[(0,.own 0),(1,.d (.int .i64 (0))),(2,.d (.int .i64 ((b:Int)))),(3,.d (.fn zW [])),(8,.d (.int .i64 (ii))),(zf,.own 0)]) (fun ((ii,xs):Int×List D)=>[(0,some (.row 1 xs))]) 1 (fun ((ii,xs):Int×List D) => ∃ (i:Nat) (e:Array Tup),ii=i∧xs=e.toList.map dII∧0 < i∧i≤b+1∧e.size=d.size∧(∀ x∈e.toList,Sml x)∧Sort.insOuter ltT 0 b i e=Sort.insertionSort ltT d 0 b) (fun ((ii,xs):Int×List D)=>(b - ii).toNat) (((0:Int)+1,d.toList.map dII)) [(0,0)] [] (⟨1,d,by omega,rfl,by omega,by omega,rfl,hd,rfl⟩) (by (refine ⟨rfl,rfl,rfl,?_,?_⟩;repeat' first|exact trivial|exact rfl|refine And.intro ?_ ?_|refine ⟨_,rfl,?_⟩|decide)) ?_
 rintro ⟨_,_⟩ ⟨i,e,rfl,rfl,hi,hi2,he,hsm,hI⟩
 (repeat' ((conv=>whnf);first|refine vA ?_|(refine vF ?_ ?_<;>intro hc<;>try simp only [vL] at hc)|refine vT ?_));all_goals try conv=>whnf
 ·refine zy (fun ((jj,xs):Int×List D)=>[(0,.own 0),(1,.d (.int .i64 (0))),(2,.d (.int .i64 ((b:Int)))),(3,.d (.fn zW [])),(8,.d (.int .i64 ((i:Int)))),(9,.d (.int .i64 (jj))),(zf,.own 0)]) (fun ((jj,xs):Int×List D)=>[(0,some (.row 1 xs))]) 1 (fun ((jj,xs):Int×List D) => ∃ (j:Nat) (g:Array Tup),jj=j∧xs=g.toList.map dII∧j≤i∧g.size=d.size∧(∀ x∈g.toList,Sml x)∧Sort.insInner ltT 0 j g=Sort.insInner ltT 0 i e) (fun ((jj,xs):Int×List D)=>jj.toNat) (((i:Int),e.toList.map dII)) [(0,0)] [] (⟨i,e,rfl,rfl,by omega,he,hsm,rfl⟩) (by (refine ⟨rfl,rfl,rfl,?_,?_⟩;repeat' first|exact trivial|exact rfl|refine And.intro ?_ ?_|refine ⟨_,rfl,?_⟩|decide)) ?_
  rintro ⟨_,_⟩ ⟨j,g,rfl,rfl,hj,hg,hgm,hJ⟩
  have hgl:g.toList.length=d.size:=by rw [Array.length_toList];exact hg
  have stop : ¬(0 < j∧ltT g[j]! g[j - 1]! = true)→Sort.insOuter ltT 0 b (i+1) g=Sort.insertionSort ltT d 0 b:=fun h=>by
   rw [← hI,Sort.insOuter.eq_def ltT 0 b i,if_pos (by omega),← hJ,zlR h]
  by_cases hj0:0 < j
  ·have hx1:g.toList[j]? = some g[j]! := zcf (by omega)
   have hx2:g.toList[((j:Int) - 1).toNat]? = some g[j - 1]! := by rw [show ((j:Int) - 1).toNat=j - 1 by omega];exact zcf (by omega)
   have co:=ziJ (T:=T) g[j]! g[j - 1]! (hgm _ (List.mem_of_getElem? hx1))
   (repeat' ((conv=>whnf);first|refine vA ?_|(refine vF ?_ ?_<;>intro hc<;>try simp only [vL] at hc)|refine vT ?_|refine vN ‹_› ?_|((first|refine vO ?_ ?_|refine vP ?_ ?_);·first|omega|(simp only [vM] at *;omega))|(refine vU ?_ ?_;·kernel_rfl)|refine yD co ⟨⟨rfl,rfl⟩,⟨rfl,rfl⟩,rfl⟩ rfl ?_));all_goals try conv=>whnf
   ·refine ⟨(_,_),[(0,0)],[],?_,?_,by (refine ⟨rfl,rfl,rfl,?_,?_⟩;repeat' first|exact trivial|exact rfl|refine And.intro ?_ ?_|refine ⟨_,rfl,?_⟩|decide)⟩
    ·refine ⟨j - 1,Sort.swp g j (j - 1),by omega,?_,by omega,by rw [zvQ,hg],fun x hx=>hgm x (zDE (by omega) (by omega) hx),?_⟩
     ·rw [show ((j:Int) - 1).toNat=j - 1 by omega] at hx2 ⊢
      exact zxk hx1 hx2
     ·exact (zlQ (d:=g) (j:=j) (by omega) (zie.2 ‹_›)).symm.trans hJ
    ·((simp only [vM] at *;omega))
   ·refine ⟨(_,_),[(0,0)],[],?_,?_,by (refine ⟨rfl,rfl,rfl,?_,?_⟩;repeat' first|exact trivial|exact rfl|refine And.intro ?_ ?_|refine ⟨_,rfl,?_⟩|decide)⟩
    ·exact ⟨i+1,g,by omega,rfl,by omega,by omega,hg,hgm,stop fun h=>by
      have:=zie.1 h.2;omega⟩
    ·((simp only [vM] at *;omega))
   ·exfalso;omega
  ·(repeat' ((conv=>whnf);first|refine vA ?_|(refine vF ?_ ?_<;>intro hc<;>try simp only [vL] at hc)|refine vT ?_|(refine vQ ?_ fun x hx=>?_;·omega)|((first|refine vO ?_ ?_|refine vP ?_ ?_);·omega)|(refine vU ?_ ?_;·kernel_rfl)|fail));all_goals try conv=>whnf
   ·exfalso;omega
   ·refine ⟨(_,_),[(0,0)],[],?_,?_,by (refine ⟨rfl,rfl,rfl,?_,?_⟩;repeat' first|exact trivial|exact rfl|refine And.intro ?_ ?_|refine ⟨_,rfl,?_⟩|decide)⟩
    ·exact ⟨i+1,g,by omega,rfl,by omega,by omega,hg,hgm,stop fun h=>by omega⟩
    ·((simp only [vM] at *;omega))
 ·have e0:Sort.insertionSort ltT d 0 b=e:=by
   rw [← hI,Sort.insOuter,if_neg (by omega)]
  rw [e0]
  refine ⟨trivial,_,[(0,0)],[],rfl,.inl (by (repeat' first|exact rfl|refine ⟨_,rfl,?_⟩)),⟨by rfl,by rfl,by rfl,trivial,by (repeat' first|exact trivial|exact rfl|refine And.intro ?_ ?_|refine ⟨_,rfl,?_⟩|exact of_decide_eq_true rfl)⟩,by (repeat' first|exact trivial|exact rfl|refine And.intro ?_ ?_)⟩
theorem zC4 (d:Array Tup) (hd : ∀ x∈d.toList,Sml x) (h12:d.size≤12) (l:Nat) :
  Fn Tryz.prog T zbI [.own 0,.d (.int .i64 0),.d (.int .i64 (d.size:Int)),.d (.int .i64 (l:Int)),.d (.fn zW [])] [zg2 d] (.tup []) [some (zg2 (Sort.pdq ltT d 0 d.size l true true))]:=by
 have hR:Sort.pdq ltT d 0 d.size l true true=Sort.insertionSort ltT d 0 d.size:=by rw [Sort.pdq,if_pos (by omega)]
 rw [hR]
 refine zP zn zel (by show 5≤148;decide) _ (fun e env mem n h=>h) ?_
 (repeat' ((conv=>whnf);refine vT ?_));all_goals try conv=>whnf
 refine zy (fun (u:Unit)=>[(0,.own 0),(1,.d (.int .i64 (0))),(2,.d (.int .i64 ((d.size:Int)))),(3,.d (.int .i64 ((l:Int)))),(4,.d (.fn zW [])),(10,.d (.bool (true))),(11,.d (.bool (true))),(zf,.own 0)]) (fun (u:Unit)=>[(0,some (zg2 d))]) 1 (fun (u:Unit)=>True) (fun (u:Unit)=>0) (()) [(0,0)] [] (trivial) (by (refine ⟨rfl,rfl,rfl,?_,?_⟩;repeat' first|exact trivial|exact rfl|exact .inr (.inl ⟨rfl,rfl⟩)|refine And.intro ?_ ?_|refine ⟨_,rfl,?_⟩|decide)) ?_
 rintro u -
 (repeat' ((conv=>whnf);first|refine zit.but 39 rfl ?_|(refine vF ?_ ?_<;>intro hc<;>try simp only [vL] at hc)|refine vT ?_|(refine vO ?_ ?_;·omega)|fail));all_goals try conv=>whnf
 ·refine zK.objs [0] (zC3 d d.size hd (Nat.le_refl _) (by omega)) (by (repeat' first|exact rfl|refine And.intro ?_ ?_|refine ⟨_,rfl,?_⟩)) (by (repeat' first|exact rfl|refine And.intro ?_ ?_)) (by rfl) (by rfl) (by simp) ?_
  (repeat' ((conv=>whnf);refine vT ?_));all_goals try conv=>whnf
  refine ⟨trivial,_,[(0,0)],[],rfl,.inl (by (repeat' first|exact rfl|refine ⟨_,rfl,?_⟩)),⟨by rfl,by rfl,by rfl,trivial,by (repeat' first|exact trivial|exact rfl|refine And.intro ?_ ?_|refine ⟨_,rfl,?_⟩|exact of_decide_eq_true rfl)⟩,by (repeat' first|exact trivial|exact rfl|refine And.intro ?_ ?_)⟩
 all_goals (exfalso;omega)
theorem zuO (d:Array Tup) (hd : ∀ x∈d.toList,Sml x) (h12:d.size≤12):Fn Tryz.prog T zaS [.own 0,.d (.fn zW [])] [zg2 d] (.tup []) [some (zg2 (Sort.sort ltT d))]:=by
 have hn:((BitVec.ofInt 64 (d.size:Int)).toNat)=d.size:=by simp;omega
 have hl:(d.toList.map dII).length=d.size:=by simp
 have hp:=zC4 (T:=T) d hd h12 (Sort.bitsLen d.size)
 refine zP zn zcv (by show 2≤14;decide) _ (fun e env mem n h=>h) ?_
 (repeat' ((conv=>whnf);first|refine vJ fun hg=>?_|refine vT ?_|refine yD (zuN _) ⟨⟨rfl,rfl⟩,rfl⟩ rfl ?_));all_goals try conv=>whnf
 have e1:((d.toList.map dII).length:Int)=(d.size:Int):=by rw [hl]
 have e2:(Sort.bitsLen (BitVec.ofInt 64 ((d.toList.map dII).length:Int)).toNat:Int)=(Sort.bitsLen d.size:Int):=by rw [hl,hn]
 rw [← e1,← e2] at hp
 refine zK.objs [0] (hp) (by (repeat' first|exact rfl|refine And.intro ?_ ?_|refine ⟨_,rfl,?_⟩)) (by (repeat' first|exact rfl|refine And.intro ?_ ?_)) (by rfl) (by rfl) (by simp) ?_
 (repeat' ((conv=>whnf);refine vT ?_));all_goals try conv=>whnf
 refine ⟨trivial,_,[(0,0)],[],rfl,.inl (by (repeat' first|exact rfl|refine ⟨_,rfl,?_⟩)),⟨by rfl,by rfl,by rfl,trivial,by (repeat' first|exact trivial|exact rfl|refine And.intro ?_ ?_|refine ⟨_,rfl,?_⟩|exact of_decide_eq_true rfl)⟩,by (repeat' first|exact trivial|exact rfl|refine And.intro ?_ ?_)⟩
end Go.Ab
namespace Go.Ab
open Go Go.Proofs
set_option maxRecDepth 10000
set_option maxHeartbeats 4000000
variable {T:Nat→Obj→Prop}
theorem zuR (x y:Tup) (h:Sml x):Fn Tryz.prog T zc0 [.d (dII x),.d (dII y)] [] (.d (.bool (decide (x=y)))) []:=by
 have cA:=ziJ (T:=T) x y h
 refine zb zn zmW (by show 2≤9;decide) ?_
 (repeat' ((conv=>whnf);first|refine vT ?_|refine vZ ?_|refine yD cA ⟨⟨rfl,rfl⟩,⟨rfl,rfl⟩,rfl⟩ rfl ?_));all_goals try conv=>whnf
 rw [Bool.eq_iff_iff,decide_eq_true_eq,decide_eq_true_eq];exact zaB.zero
abbrev fEq:D := .fn zc0 []
theorem zv9 (d:Array Tup) (hm : ∀ x∈d.toList,Sml x) (hs:d.size≤1000) (hd:Steps d):Fn Tryz.prog T zE [.own 0,.d fEq] [zg2 d] (.own 1) [none,some (zg2 d)]:=by
 have hln:d.toList.length=d.size:=Array.length_toList
 refine zP zn zaF (by show 2≤66;decide) _ (fun e env mem n h=>h) ?_
 (repeat' ((conv=>whnf);first|refine vA ?_|(refine vF ?_ ?_<;>intro hc<;>try simp only [vL] at hc)|refine vJ fun hg=>?_|refine vT ?_));all_goals try conv=>whnf
 ·refine ⟨trivial,_,[(1,0)],[],rfl,.inl (by (repeat' exact rfl)),⟨by rfl,by rfl,by rfl,trivial,by (repeat' first|exact trivial|exact rfl|refine And.intro ?_ ?_|refine ⟨_,rfl,?_⟩|exact of_decide_eq_true rfl)⟩,by (repeat' first|exact trivial|refine And.intro ?_ ?_)⟩
 refine zy (fun (i:Int)=>[(0,.own 0),(1,.d fEq),(5,.d (.int .i64 (i))),(zf,.own 0)]) (fun (i:Int)=>[(0,some (zg2 d))]) 1 (fun (i:Int) => ∃ k:Nat,i=k∧0 < k∧k≤d.size) (fun (i:Int)=>(d.size - i).toNat) (1) [(0,0)] [] (⟨1,rfl,by omega,by omega⟩) (by (refine ⟨rfl,rfl,rfl,?_,?_⟩;repeat' first|exact trivial|exact rfl|refine And.intro ?_ ?_|refine ⟨_,rfl,?_⟩|decide)) ?_
 rintro _ ⟨k,rfl,hk0,hk1⟩
 by_cases hkl:k < d.size
 ·have hx1:d.toList[k]? = some d[k]! := zcf hkl
  have hx2:d.toList[((k:Int) - 1).toNat]? = some d[k - 1]! := by rw [show ((k:Int) - 1).toNat=k - 1 by omega];exact zcf (by omega)
  have cA:=zuR (T:=T) d[k]! d[k - 1]! (hm _ (List.mem_of_getElem? hx1))
  (repeat' ((conv=>whnf);first|refine vA ?_|(refine vF ?_ ?_<;>intro hc<;>try simp only [vL] at hc)|refine vJ fun hg=>?_|refine vT ?_|refine vN ‹_› ?_|((first|refine vO ?_ ?_|refine vP ?_ ?_);·first|omega|(simp only [vM] at *;omega))|(refine vU ?_ ?_;·kernel_rfl)|refine yD cA ⟨⟨rfl,rfl⟩,⟨rfl,rfl⟩,rfl⟩ rfl ?_));all_goals try conv=>whnf
  ·exact absurd ‹d[k]! = d[k - 1]!› (hd k hk0 hkl)
  ·refine ⟨_,[(0,0)],[],?_,?_,by (refine ⟨rfl,rfl,rfl,?_,?_⟩;repeat' first|exact trivial|exact rfl|refine And.intro ?_ ?_|refine ⟨_,rfl,?_⟩|decide)⟩
   ·exact ⟨k+1,by omega,by omega,by omega⟩
   ·(omega)
  ·exfalso;omega
 ·(repeat' ((conv=>whnf);first|refine vA ?_|(refine vF ?_ ?_<;>intro hc<;>try simp only [vL] at hc)|refine vJ fun hg=>?_|refine vT ?_|(refine vQ ?_ fun x hx=>?_;·omega)|((first|refine vO ?_ ?_|refine vP ?_ ?_);·omega)|fail));all_goals try conv=>whnf
  ·exfalso;omega
  ·refine ⟨trivial,_,[(1,0)],[],rfl,.inl (by (repeat' exact rfl)),⟨by rfl,by rfl,by rfl,trivial,by (repeat' first|exact trivial|exact rfl|refine And.intro ?_ ?_|refine ⟨_,rfl,?_⟩|exact of_decide_eq_true rfl)⟩,by (repeat' first|exact trivial|refine And.intro ?_ ?_)⟩
theorem zuM (d:Array Tup) (hm : ∀ x∈d.toList,Sml x) (hs:d.size≤1000) (hd : ¬Steps d):Fn Tryz.prog T zE [.own 0,.d fEq] [zg2 d] (.own 1) [none,some (.row 1 ((ddA d d.size).map dII))]:=by
 generalize hR:(ddA d d.size).map dII=R
 have hln:d.toList.length=d.size:=Array.length_toList
 refine zP zn zaF (by show 2≤66;decide) _ (fun e env mem n h=>h) ?_
 (repeat' ((conv=>whnf);first|refine vA ?_|(refine vF ?_ ?_<;>intro hc<;>try simp only [vL] at hc)|refine vJ fun hg=>?_|refine vT ?_));all_goals try conv=>whnf
 ·exact absurd (fun j hj0 hj1=>by omega) hd
 refine zy (fun (i:Int)=>[(0,.own 0),(1,.d fEq),(5,.d (.int .i64 (i))),(zf,.own 0)]) (fun (i:Int)=>[(0,some (zg2 d))]) 1 (fun (i:Int) => ∃ k:Nat,i=k∧0 < k∧k≤d.size ∧ ∀ j,0 < j→j < k→d[j]! ≠ d[j - 1]!) (fun (i:Int)=>(d.size - i).toNat) (1) [(0,0)] [] (⟨1,rfl,by omega,by omega,fun j _ _=>by omega⟩) (by (refine ⟨rfl,rfl,rfl,?_,?_⟩;repeat' first|exact trivial|exact rfl|refine And.intro ?_ ?_|refine ⟨_,rfl,?_⟩|decide)) ?_
 rintro _ ⟨k,rfl,hk0,hk1,hk⟩
 by_cases hkl:k < d.size
 ·have hx1:d.toList[k]? = some d[k]! := zcf hkl
  have hx2:d.toList[((k:Int) - 1).toNat]? = some d[k - 1]! := by rw [show ((k:Int) - 1).toNat=k - 1 by omega];exact zcf (by omega)
  have cA:=zuR (T:=T) d[k]! d[k - 1]! (hm _ (List.mem_of_getElem? hx1))
  (repeat' ((conv=>whnf);first|refine vA ?_|(refine vF ?_ ?_<;>intro hc<;>try simp only [vL] at hc)|refine vJ fun hg=>?_|refine vT ?_|refine vN ‹_› ?_|((first|refine vO ?_ ?_|refine vP ?_ ?_);·first|omega|(simp only [vM] at *;omega))|(refine vU ?_ ?_;·kernel_rfl)|refine yD cA ⟨⟨rfl,rfl⟩,⟨rfl,rfl⟩,rfl⟩ rfl ?_));all_goals try conv=>whnf
  ·have hkk:d[k]! = d[k - 1]! := ‹_›
   refine zy (fun ((w,q,xs):Int×Int×List D)=>[(0,.own 0),(1,.d fEq),(5,.d (.int .i64 (w))),(6,.view 0 k ((d.toList.map dII).length - k)),(7,.d (.int .i64 (q))),(zf,.own 0)]) (fun ((w,q,xs):Int×Int×List D)=>[(0,some (.row 1 xs))]) 1 (fun ((w,q,xs):Int×Int×List D) => ∃ (a b:Nat) (e:Array Tup),w=a∧q=b∧xs=e.toList.map dII∧0 < b∧k+b≤d.size∧a < k+b∧e.size=d.size∧e.toList.take a=ddA d (k+b) ∧ ∀ j,k+b - 1≤j→j < d.size→e[j]! = d[j]!) (fun ((w,q,xs):Int×Int×List D)=>(d.size - k - q).toNat) (((k:Int),(1:Int),d.toList.map dII)) [(0,0)] [] (⟨k,1,d,rfl,rfl,rfl,by omega,by omega,by omega,rfl,zuu hk0 hkl hk hkk,fun _ _ _=>rfl⟩) (by (refine ⟨rfl,rfl,rfl,?_,?_⟩;repeat' first|exact trivial|exact rfl|refine And.intro ?_ ?_|refine ⟨_,rfl,?_⟩|decide)) ?_
   rintro ⟨_,_,_⟩ ⟨a,b,e,rfl,rfl,rfl,hb0,hb1,hab,he,ha,hj⟩
   have hle:e.toList.length=e.size:=Array.length_toList
   by_cases hbl:k+b < d.size
   ·have hy1:e.toList[k+((b:Nat):Int).toNat]? = some e[k+b]! := by rw [Int.toNat_natCast];exact zcf (by omega)
    have hy2:e.toList[k+(((b:Nat):Int) - 1).toNat]? = some e[k+b - 1]! := by rw [show k+(((b:Nat):Int) - 1).toNat=k+b - 1 by omega];exact zcf (by omega)
    have e1:=hj (k+b) (by omega) (by omega)
    have e2:=hj (k+b - 1) (by omega) (by omega)
    have cC:=zuR (T:=T) e[k+b]! e[k+b - 1]! (by rw [e1];exact hm _ (List.mem_of_getElem? (zcf hbl)))
    (repeat' ((conv=>whnf);first|refine vA ?_|refine vE ?_|(refine vF ?_ ?_<;>intro hc<;>try simp only [vL] at hc)|refine vT ?_|refine vN ‹_› ?_|((first|refine vO ?_ ?_|refine vP ?_ ?_);·first|omega|(simp only [vM] at *;omega))|(refine vU ?_ ?_;·kernel_rfl)|refine yD cC ⟨⟨rfl,rfl⟩,⟨rfl,rfl⟩,rfl⟩ rfl ?_));all_goals try conv=>whnf
    ·refine ⟨(_,_,_),[(0,0)],[],?_,?_,by (refine ⟨rfl,rfl,rfl,?_,?_⟩;repeat' first|exact trivial|exact rfl|refine And.intro ?_ ?_|refine ⟨_,rfl,?_⟩|decide)⟩
     ·exact ⟨a,b+1,e,rfl,by omega,rfl,by omega,by omega,by omega,he,
       by rw [ha,← Nat.add_assoc,zwM (by omega) (by rw [← e1,← e2];assumption)],
       fun j h0 h1=>hj j (by omega) h1⟩
     ·((simp only [vM] at *;omega))
    ·refine ⟨(_,_,_),[(0,0)],[],?_,?_,by (refine ⟨rfl,rfl,rfl,?_,?_⟩;repeat' first|exact trivial|exact rfl|refine And.intro ?_ ?_|refine ⟨_,rfl,?_⟩|decide)⟩
     ·exact ⟨a+1,b+1,e.setIfInBounds a e[k+b]!,by omega,by omega,by simp [List.map_set],by omega,by omega,by omega,by simp [he],
       by rw [zvN (by omega),ha,← Nat.add_assoc,zyT (by rw [← e1,← e2];assumption),e1],
       fun j h0 h1=>by rw [zxb (by omega)];exact hj j (by omega) h1⟩
     ·((simp only [vM] at *;omega))
    ·exfalso;omega
   ·(repeat' ((conv=>whnf);first|refine vA ?_|(refine vF ?_ ?_<;>intro hc<;>try simp only [vL] at hc)|refine vT ?_|(refine vQ ?_ fun x hx=>?_;·omega)|((first|refine vO ?_ ?_|refine vP ?_ ?_);·first|omega|(simp only [vM] at *;omega))|fail));all_goals try conv=>whnf
    ·exfalso;omega
    ·have hE:=zwK (enc:=dII) (e:=e) (z:=D.arr 1 []) (a:=a) (n:=(e.toList.map dII).length - a) (by omega)
     rw [ha,show k+b=d.size by omega,hR] at hE
     subst hE
     refine zp5.mk (by simp only [List.length_append,List.length_take,List.length_replicate,List.length_drop,List.length_map,hle];omega) ?_
     (repeat' ((conv=>whnf);refine vT ?_));all_goals try conv=>whnf
     refine ⟨trivial,_,[(1,1)],[],rfl,.inl (by (repeat' exact rfl)),⟨by rfl,by rfl,by rfl,trivial,by (repeat' first|exact trivial|exact rfl|refine And.intro ?_ ?_|refine ⟨_,rfl,?_⟩|exact of_decide_eq_true rfl)⟩,by (repeat' first|exact trivial|refine And.intro ?_ ?_)⟩
  ·refine ⟨_,[(0,0)],[],?_,?_,by (refine ⟨rfl,rfl,rfl,?_,?_⟩;repeat' first|exact trivial|exact rfl|refine And.intro ?_ ?_|refine ⟨_,rfl,?_⟩|decide)⟩
   ·exact ⟨k+1,by omega,by omega,by omega,fun j h0 h1=>by
     by_cases hjk:j=k
     ·subst hjk;assumption
     ·exact hk j h0 (by omega)⟩
   ·(omega)
  ·exfalso;omega
 ·(repeat' ((conv=>whnf);first|refine vA ?_|(refine vF ?_ ?_<;>intro hc<;>try simp only [vL] at hc)|refine vJ fun hg=>?_|refine vT ?_|(refine vQ ?_ fun x hx=>?_;·omega)|((first|refine vO ?_ ?_|refine vP ?_ ?_);·omega)|fail));all_goals try conv=>whnf
  ·exfalso;omega
  ·exact absurd (fun j h0 h1=>hk j h0 (by omega)) hd
theorem zBe (d:Array Tup) (hm : ∀ x∈d.toList,Sml x) (hs:d.size≤1000):Fn Tryz.prog T zE [.own 0,.d fEq] [zg2 d] (.own 1) [none,some (.row 1 ((ddA d d.size).map dII))]:=by
 by_cases hd:Steps d
 ·have:=zv9 (T:=T) d hm hs hd
  rw [zny (Nat.le_refl _) hd,List.take_of_length_le (by rw [Array.length_toList];exact Nat.le_refl _)]
  exact this
 ·exact zuM d hm hs hd
theorem zy4 (ts:List Tup) (h:ts≠[]) (hl:ts.length≤1000):Fn Tryz.prog T zan [.d (.arr 1 (ts.map dII))] [] (.own 0) [some (.row 1 (ts.map dII))]:=by
 refine zP zn zcO (by show 1≤8;decide) _ (fun e env mem n h=>h) ?_
 (repeat' ((conv=>whnf);first|refine vA ?_|refine vB fun b hb=>?_|refine vE ?_|(refine vF ?_ ?_<;>intro hc)|refine vT ?_|(refine vP ?_ ?_;·(simp only [vM] at *;omega))|fail));all_goals try conv=>whnf
 ·refine ⟨trivial,_,[(0,1)],[],rfl,.inl (by (repeat' exact rfl)),⟨by rfl,by rfl,by rfl,trivial,by (repeat' first|exact trivial|exact rfl|refine And.intro ?_ ?_|refine ⟨_,rfl,?_⟩|exact of_decide_eq_true rfl)⟩,by (repeat' exact trivial)⟩
 ·exact absurd (List.map_eq_nil_iff.1 (hb (by simpa using hc))) h
theorem zD7 (S:List Tup) (ts:List Tup) (hS:zcR ts S) (hl:S.length≤1000) (hm : ∀ x∈S,Sml x) (t:Tup) :
  ∃ b:Bool,Fn Tryz.prog T zab [.d (.arr 1 (S.map dII)),.d (dII t),.d (.fn zW [])] [] (.d (.tup [.int .i64 (rkN ts t:Int),.bool b])) []:=by
 have key : ∀ i:Nat,i≤S.length→(∀ (k:Nat) x,k < i→S[k]? = some x→zbe x t < 0)→(∀ (k:Nat) x,i≤k→S[k]? = some x → ¬zbe x t < 0)→i=rkN ts t:=fun i h1 h2 h3=>hS.rk h1 h2 h3
 refine ⟨decide (rkN ts t < S.length∧zbe (S.getD (rkN ts t) []) t=0),?_⟩
 refine zb zn zaW (by show 3≤49;decide) ?_
 (repeat' ((conv=>whnf);first|refine vA ?_|refine vJ fun hg=>?_|refine vT ?_));all_goals try conv=>whnf
 refine zal (fun ((i,j):Nat×Nat)=>[(0,.d (.arr 1 (S.map dII))),(1,.d (dII t)),(2,.d (.fn zW [])),(8,.d (.int .i64 ((S.map dII).length:Int))),(9,.d (.int .i64 ((i:Int)))),(10,.d (.int .i64 ((j:Int))))]) (fun ((i,j):Nat×Nat)=>i≤j∧j≤S.length∧(∀ (k:Nat) x,k < i→S[k]? = some x→zbe x t < 0)∧(∀ (k:Nat) x,j≤k→S[k]? = some x → ¬zbe x t < 0)) (fun ((i,j):Nat×Nat)=>j - i) ((0,(S.map dII).length)) (⟨by omega,by simp,fun k x hk=>by omega,fun k x hk hx=>by have:=(List.getElem?_eq_some_iff.1 hx).1;simp at hk;omega⟩) (by (repeat' first|exact trivial|exact rfl|refine And.intro ?_ ?_)) ?_
 rintro ⟨i,j⟩ ⟨hij,hj,h1,h2⟩
 by_cases hlt:i < j
 ·have hh:(i+j) / 2 < S.length:=by omega
  have e2:(BitVec.ofInt 64 ((i:Int)+(j:Int)) >>> BitVec.toNat (1:BitVec 64)).toNat=(i+j) / 2:=by
   rw [BitVec.toNat_ushiftRight,show BitVec.toNat (1:BitVec 64)=1 from rfl,show ((i:Int)+(j:Int))=((i+j:Nat):Int) by omega,zzM (by omega),Nat.shiftRight_eq_div_pow,Nat.pow_one]
  have hx:S[(BitVec.ofInt 64 ((i:Int)+(j:Int)) >>> BitVec.toNat (1:BitVec 64)).toNat]? = some (S.getD ((i+j) / 2) []):=by rw [e2];exact zf2 hh
  have hx':=zf2 (d:=[]) hh
  have cA:=ziJ (T:=T) (S.getD ((i+j) / 2) []) t (hm _ (List.mem_of_getElem? hx))
  (repeat' ((conv=>whnf);first|refine vA ?_|(refine vF ?_ ?_<;>intro hc<;>try simp only [vL] at hc)|refine vT ?_|refine vN ‹_› ?_|(refine vQ ?_ fun x hx=>?_;·omega)|(refine vO ?_ ?_;·omega)|refine yD cA ⟨⟨rfl,rfl⟩,⟨rfl,rfl⟩,rfl⟩ rfl ?_));all_goals try conv=>whnf
  ·refine ⟨((BitVec.ofInt 64 ((i:Int)+(j:Int)) >>> BitVec.toNat (1:BitVec 64)).toNat+1,j),[],[],?_,?_,by (refine ⟨rfl,rfl,rfl,?_,?_⟩;repeat' first|exact trivial|exact rfl|refine And.intro ?_ ?_)⟩
   ·rw [e2]
    refine ⟨by omega,hj,fun k x hk hxk=>?_,h2⟩
    by_cases e:k=(i+j) / 2
    ·subst e;rw [hx'] at hxk;cases hxk;assumption
    ·by_cases e':k < (i+j) / 2
     ·exact hS.lt_of hx' hxk (by omega) ‹_›
     ·exfalso;omega
   ·((simp only [vM] at *;omega))
  ·refine ⟨(i,(BitVec.ofInt 64 ((i:Int)+(j:Int)) >>> BitVec.toNat (1:BitVec 64)).toNat),[],[],?_,?_,by (refine ⟨rfl,rfl,rfl,?_,?_⟩;repeat' first|exact trivial|exact rfl|refine And.intro ?_ ?_)⟩
   ·rw [e2]
    refine ⟨by omega,by omega,h1,fun k x hk hxk hlk=>?_⟩
    have:=hS.lt_of hxk hx' hk hlk
    omega
   ·((simp only [vM] at *;omega))
  iterate 2 (exfalso;omega)
 ·have e0:j=i:=by omega
  subst e0
  have ek:=key j hj h1 h2
  by_cases hjl:j < S.length
  ·have hx:=zf2 (d:=[]) hjl
   have cA:=ziJ (T:=T) (S.getD j []) t (hm _ (List.mem_of_getElem? hx))
   (repeat' ((conv=>whnf);first|refine vA ?_|(refine vF ?_ ?_<;>intro hc<;>try simp only [vL] at hc)|refine vT ?_|refine vN ‹_› ?_|(refine vQ ?_ fun x hx=>?_;·omega)|(refine vO ?_ ?_;·omega)|refine yD cA ⟨⟨rfl,rfl⟩,⟨rfl,rfl⟩,rfl⟩ rfl ?_));all_goals try conv=>whnf
   ·exfalso;omega
   ·show some (D.tup [.int .i64 (j:Int),.bool (decide (zbe (S.getD j []) t=0))])=_
    rw [← ek];simp [hjl]
   ·exfalso;omega
  ·(repeat' ((conv=>whnf);first|refine vA ?_|(refine vF ?_ ?_<;>intro hc<;>try simp only [vL] at hc)|refine vT ?_|(refine vQ ?_ fun x hx=>?_;·omega)|(refine vO ?_ ?_;·omega)|fail));all_goals try conv=>whnf
   iterate 2 (exfalso;omega)
   show some (D.tup [.int .i64 (j:Int),.bool false])=_
   rw [← ek];simp [hjl]
theorem zzf (ts:List Tup) (h0:ts≠[]) (h12:ts.length≤12) (hm : ∀ x∈ts,Sml x):Fn Tryz.prog T zfK [.d (.arr 1 (ts.map dII))] [] (.d (.tup [dN (ts.map (rkN ts)),.int .i64 (cnN ts:Int)])) []:=by
 have c1:=zy4 (T:=T) ts h0 (by omega)
 have c2:=zuO (T:=T) ts.toArray hm (by simpa using h12)
 have hS:=zyr (ts:=ts) rfl
 have hp:=ztq ts.toArray
 have hms : ∀ x∈(Sort.sort ltT ts.toArray).toList,Sml x:=fun x hx=>hm x (hp.mem_iff.1 hx)
 have hsz:(Sort.sort ltT ts.toArray).size=ts.length:=by have:=hp.length_eq;simpa using this
 generalize Sort.sort ltT ts.toArray=A at c2 hS hp hms hsz
 have hmd : ∀ x∈ddA A A.size,Sml x:=fun x hx=>hm x ((hS.mem x).1 hx)
 have hcn:=hS.cnt
 have hle:=hS.le
 have cb:=fun t=>zD7 (T:=T) (ddA A A.size) ts hS (by omega) hmd t
 have c3:=zBe (T:=T) A hms (by omega)
 generalize ddA A A.size=S at hS hmd hcn hle cb c3
 refine zb zn zpD (by show 1≤37;decide) ?_
 (repeat' ((conv=>whnf);refine vT ?_));all_goals try conv=>whnf
 refine zK.res (c1) (by (repeat refine ⟨⟨rfl,rfl⟩,?_⟩);rfl) ?_
 (repeat' ((conv=>whnf);refine vT ?_));all_goals try conv=>whnf
 refine zK.objs [0] (c2) (by (repeat' first|exact rfl|refine And.intro ?_ ?_|refine ⟨_,rfl,?_⟩)) (by (repeat' first|exact rfl|refine And.intro ?_ ?_)) (by rfl) (by rfl) (by simp) ?_
 (repeat' ((conv=>whnf);refine vT ?_));all_goals try conv=>whnf
 refine zK.objs [0] (c3) (by (repeat' first|exact rfl|refine And.intro ?_ ?_|refine ⟨_,rfl,?_⟩)) (by (repeat' first|exact rfl|refine And.intro ?_ ?_)) (by rfl) (by rfl) (by simp) ?_
 (repeat' ((conv=>whnf);first|refine vA ?_|refine vJ fun hg=>?_|refine vT ?_|(refine vP ?_ ?_;·(simp only [vM] at *;omega))|fail));all_goals try conv=>whnf
 refine zy (fun ((k,zs):Nat×List D)=>[(4,.own 0),(5,.own 1),(17,.d (.arr 1 (ts.map dII))),(18,.d (.int .i64 ((ts.map dII).length:Int))),(19,.d (.int .i64 ((k:Int))))]) (fun ((k,zs):Nat×List D)=>[(0,some (.row 1 (S.map dII))),(1,some (.row 1 zs))]) 2 (fun ((k,zs):Nat×List D)=>k≤ts.length∧zs=(List.range ts.length).map fun i=>D.int .i64 (if i < k then (rkN ts (ts.getD i []):Int) else 0)) (fun ((k,zs):Nat×List D)=>ts.length - k) ((0,List.replicate (((ts.map dII).length:Int)).toNat (D.int .i64 0))) [(0,1),(1,2)] [] (⟨by omega,by simp only [Nat.not_lt_zero,if_false];rw [List.length_map,Int.toNat_natCast];exact zay _ _⟩) (by (refine ⟨rfl,rfl,rfl,?_,?_⟩;repeat' first|exact trivial|exact rfl|refine And.intro ?_ ?_|refine ⟨_,rfl,?_⟩|decide)) ?_
 rintro ⟨k,zs⟩ ⟨hk,hz⟩
 have hzl:zs.length=ts.length:=by rw [hz];simp
 by_cases hkl:k < ts.length
 ·have hx:=zf2 (d:=[]) hkl
  obtain ⟨b,cbk⟩:=cb (ts.getD k [])
  (repeat' ((conv=>whnf);first|refine vA ?_|(refine vF ?_ ?_<;>intro hc<;>try simp only [vL] at hc)|refine vJ fun hg=>?_|refine vT ?_|refine vN ‹_› ?_|((first|refine vO ?_ ?_|refine vP ?_ ?_);·omega)|refine yD cbk (by (repeat refine ⟨⟨rfl,rfl⟩,?_⟩);rfl) rfl ?_));all_goals try conv=>whnf
  ·refine ⟨(k+1,_),[(0,0),(1,1)],[],?_,?_,by (refine ⟨rfl,rfl,rfl,?_,?_⟩;repeat' first|exact trivial|exact rfl|refine And.intro ?_ ?_|refine ⟨_,rfl,?_⟩|decide)⟩
   ·refine ⟨by omega,?_⟩
    rw [hz]
    refine (zdV _).trans (zL fun u hu=>?_)
    show (if u=k then _ else _)=_
    by_cases e:u=k
    ·subst e;rw [if_pos rfl,if_pos (by omega)]
    ·rw [if_neg e]
     by_cases e2:u < k
     ·rw [if_pos e2,if_pos (by omega)]
     ·rw [if_neg e2,if_neg (by omega)]
   ·((simp only [vM] at *;omega))
  ·exfalso;omega
 ·(repeat' ((conv=>whnf);first|refine vA ?_|(refine vF ?_ ?_<;>intro hc<;>try simp only [vL] at hc)|refine vJ fun hg=>?_|refine vT ?_|(refine vQ ?_ fun x hx=>?_;·omega)|fail));all_goals try conv=>whnf
  ·exfalso;omega
  ·have e0:k=ts.length:=by omega
   subst e0
   have hzz:zs=(ts.map (rkN ts)).map fun (x:Nat)=>D.int .i64 (x:Int):=by
    rw [hz]
    refine zlT (d := .nil) (by simp) fun i hi=>?_
    rw [List.length_map,List.length_range] at hi
    simp [List.getD,hi]
   refine congrArg some (show D.tup [.arr 1 zs,.int .i64 ((S.map dII).length:Int)]=_ from ?_)
   rw [hzz,List.length_map,hcn]
   simp [Function.comp_def]
end Go.Ab
namespace Go.Ab
open Go Go.Proofs
set_option maxRecDepth 10000
set_option maxHeartbeats 4000000
variable {T:Nat→Obj→Prop}
def ltI (x y:Int):Bool:=decide (x < y)
abbrev zca (d:Array (Int)):Ob := .row 1 (d.toList.map (D.int .i64))
theorem zwa (x y:Int):Fn Tryz.prog T zjc [.d (.int .i64 x),.d (.int .i64 y)] [] (.d (.bool (ltI x y))) []:=by
 have hn : ∀ z:Int,Fn Tryz.prog T zfI [.d (.int .i64 z)] [] (.d (.bool false)) []:=fun z=>by
  refine zb zn ziK (by show 1≤6;decide) ?_
  (repeat' ((conv=>whnf);first|refine vT ?_|refine vZ ?_));all_goals try conv=>whnf
  simp
 refine zb zn zq1 (by show 2≤17;decide) ?_
 (repeat' ((conv=>whnf);first|refine vA ?_|refine vH ?_|refine vT ?_|refine vZ ?_|refine yD (hn _) (by (repeat refine ⟨⟨rfl,rfl⟩,?_⟩);rfl) rfl ?_));all_goals try conv=>whnf
 rfl
theorem zxU (d:Array (Int)) (a b:Nat) (hb:b≤d.size) (hs:d.size≤1073741824) (ha:a≤b) :
  Fn Tryz.prog T za4 [.own 0,.d (.int .i64 (a:Int)),.d (.int .i64 (b:Int))] [zca d] (.tup []) [some (zca (Sort.insertionSort ltI d a b))]:=by
 refine zP zn zfp (by show 3≤49;decide) _ (fun e env mem n h=>h) ?_
 (repeat' ((conv=>whnf);first|refine vT ?_|(refine vO ?_ ?_;·omega)|fail));all_goals try conv=>whnf
 refine zy (fun ((ii,xs):Int×List D)=>[(0,.own 0),(1,.d (.int .i64 ((a:Int)))),(2,.d (.int .i64 ((b:Int)))),(6,.d (.int .i64 (ii))),(zf,.own 0)]) (fun ((ii,xs):Int×List D)=>[(0,some (.row 1 xs))]) 1 (fun ((ii,xs):Int×List D) => ∃ (i:Nat) (e:Array (Int)),ii=i∧xs=e.toList.map (D.int .i64)∧a < i∧i≤b+1∧e.size=d.size∧Sort.insOuter ltI a b i e=Sort.insertionSort ltI d a b) (fun ((ii,xs):Int×List D)=>(b - ii).toNat) (((a:Int)+1,d.toList.map (D.int .i64))) [(0,0)] [] (⟨a+1,d,by omega,rfl,by omega,by omega,rfl,rfl⟩) (by (refine ⟨rfl,rfl,rfl,?_,?_⟩;repeat' first|exact trivial|exact rfl|refine And.intro ?_ ?_|refine ⟨_,rfl,?_⟩|decide)) ?_
 rintro ⟨_,_⟩ ⟨i,e,rfl,rfl,hi,hi2,he,hI⟩
 (repeat' ((conv=>whnf);first|refine vA ?_|(refine vF ?_ ?_<;>intro hc<;>try simp only [vL] at hc)|refine vT ?_));all_goals try conv=>whnf
 ·refine zy (fun ((jj,xs):Int×List D)=>[(0,.own 0),(1,.d (.int .i64 ((a:Int)))),(2,.d (.int .i64 ((b:Int)))),(6,.d (.int .i64 ((i:Int)))),(7,.d (.int .i64 (jj))),(zf,.own 0)]) (fun ((jj,xs):Int×List D)=>[(0,some (.row 1 xs))]) 1 (fun ((jj,xs):Int×List D) => ∃ (j:Nat) (g:Array (Int)),jj=j∧xs=g.toList.map (D.int .i64)∧j≤i∧g.size=d.size∧Sort.insInner ltI a j g=Sort.insInner ltI a i e) (fun ((jj,xs):Int×List D)=>jj.toNat) (((i:Int),e.toList.map (D.int .i64))) [(0,0)] [] (⟨i,e,rfl,rfl,by omega,he,rfl⟩) (by (refine ⟨rfl,rfl,rfl,?_,?_⟩;repeat' first|exact trivial|exact rfl|refine And.intro ?_ ?_|refine ⟨_,rfl,?_⟩|decide)) ?_
  rintro ⟨_,_⟩ ⟨j,g,rfl,rfl,hj,hg,hJ⟩
  have hgl:g.toList.length=d.size:=by rw [Array.length_toList];exact hg
  have stop : ¬(a < j∧ltI g[j]! g[j - 1]! = true)→Sort.insOuter ltI a b (i+1) g=Sort.insertionSort ltI d a b:=fun h=>by
   rw [← hI,Sort.insOuter.eq_def ltI a b i,if_pos (by omega),← hJ,zlR h]
  (repeat' ((conv=>whnf);first|refine vA ?_|(refine vF ?_ ?_<;>intro hc<;>try simp only [vL] at hc)|refine vT ?_|refine vN ‹_› ?_|(refine vQ ?_ fun x hx=>?_;·omega)|((first|refine vO ?_ ?_|refine vP ?_ ?_);·first|omega|(simp only [vM] at *;omega))|(refine vU ?_ ?_;·kernel_rfl)|refine yD (zwa _ _) ⟨⟨rfl,rfl⟩,⟨rfl,rfl⟩,rfl⟩ rfl ?_));all_goals try conv=>whnf
  ·have e1:((j:Int) - 1).toNat=j - 1:=by omega
   have hx1:g.toList[j]? = some _:=‹g.toList[(j:Int).toNat]? = some _›
   have hx2:g.toList[j - 1]? = some x:=by rw [← e1];exact hx
   refine ⟨(_,_),[(0,0)],[],?_,?_,by (refine ⟨rfl,rfl,rfl,?_,?_⟩;repeat' first|exact trivial|exact rfl|refine And.intro ?_ ?_|refine ⟨_,rfl,?_⟩|decide)⟩
   ·refine ⟨j - 1,Sort.swp g j (j - 1),by omega,?_,by omega,by rw [zvQ,hg],?_⟩
    ·rw [e1];exact zxk hx1 hx2
    ·exact (zlQ (d:=g) (j:=j) (by omega) (by rw [(zbo hx1).1,(zbo hx2).1];exact decide_eq_true hc)).symm.trans hJ
   ·((simp only [vM] at *;omega))
  ·have e1:((j:Int) - 1).toNat=j - 1:=by omega
   have hx1:g.toList[j]? = some _:=‹g.toList[(j:Int).toNat]? = some _›
   have hx2:g.toList[j - 1]? = some x:=by rw [← e1];exact hx
   refine ⟨(_,_),[(0,0)],[],?_,?_,by (refine ⟨rfl,rfl,rfl,?_,?_⟩;repeat' first|exact trivial|exact rfl|refine And.intro ?_ ?_|refine ⟨_,rfl,?_⟩|decide)⟩
   ·exact ⟨i+1,g,by omega,rfl,by omega,by omega,hg,stop fun h=>by
     rw [(zbo hx1).1,(zbo hx2).1] at h
     have:=of_decide_eq_true h.2;omega⟩
   ·((simp only [vM] at *;omega))
  ·refine ⟨(_,_),[(0,0)],[],?_,?_,by (refine ⟨rfl,rfl,rfl,?_,?_⟩;repeat' first|exact trivial|exact rfl|refine And.intro ?_ ?_|refine ⟨_,rfl,?_⟩|decide)⟩
   ·exact ⟨i+1,g,by omega,rfl,by omega,by omega,hg,stop fun h=>by omega⟩
   ·((simp only [vM] at *;omega))
 ·have e0:Sort.insertionSort ltI d a b=e:=by
   rw [← hI,Sort.insOuter,if_neg (by omega)]
  rw [e0]
  refine ⟨trivial,_,[(0,0)],[],rfl,.inl (by (repeat' first|exact rfl|refine ⟨_,rfl,?_⟩)),⟨by rfl,by rfl,by rfl,trivial,by (repeat' first|exact trivial|exact rfl|refine And.intro ?_ ?_|refine ⟨_,rfl,?_⟩|exact of_decide_eq_true rfl)⟩,by (repeat' first|exact trivial|exact rfl|refine And.intro ?_ ?_)⟩
theorem zwh (d:Array Int) {a b:Nat} {ai bi:Int} (ea:ai=a) (eb:bi=b) (hb:b≤d.size) (hs:d.size≤1073741824) (ha:a≤b) :
  Fn Tryz.prog T za4 [.own 0,.d (.int .i64 ai),.d (.int .i64 bi)] [zca d] (.tup []) [some (zca (Sort.insertionSort ltI d a b))]:=by
 subst ea;subst eb;exact zxU d a b hb hs ha
theorem zxZ (d:Array Int) {b l:Nat} {bi li:Int} (eb:bi=b) (el:li=l) (h12:b≤12) (hb:b≤d.size) (hs:d.size≤536870912) :
  Fn Tryz.prog T zdJ [.own 0,.d (.int .i64 0),.d (.int .i64 bi),.d (.int .i64 li)] [zca d] (.tup []) [some (zca (Sort.pdq ltI d 0 b l true true))]:=by
 subst eb;subst el
 have hR:Sort.pdq ltI d 0 b l true true=Sort.insertionSort ltI d 0 b:=by rw [Sort.pdq,if_pos (by omega)]
 rw [hR]
 refine zP zn zgS (by show 4≤134;decide) _ (fun e env mem n h=>h) ?_
 (repeat' ((conv=>whnf);refine vT ?_));all_goals try conv=>whnf
 refine zy (fun (u:Unit)=>[(0,.own 0),(1,.d (.int .i64 (0))),(2,.d (.int .i64 ((b:Int)))),(3,.d (.int .i64 ((l:Int)))),(8,.d (.bool (true))),(9,.d (.bool (true))),(zf,.own 0)]) (fun (u:Unit)=>[(0,some (zca d))]) 1 (fun (u:Unit)=>True) (fun (u:Unit)=>0) (()) [(0,0)] [] (trivial) (by (refine ⟨rfl,rfl,rfl,?_,?_⟩;repeat' first|exact trivial|exact rfl|exact .inr (.inl ⟨rfl,rfl⟩)|refine And.intro ?_ ?_|refine ⟨_,rfl,?_⟩|decide)) ?_
 rintro u -
 (repeat' ((conv=>whnf);first|refine zit.but 35 rfl ?_|(refine vF ?_ ?_<;>intro hc<;>try simp only [vL] at hc)|refine vT ?_|(refine vO ?_ ?_;·omega)|fail));all_goals try conv=>whnf
 ·refine zK.objs [0] (zwh d (a:=0) (b:=b) rfl rfl (by omega) (by omega) (by omega)) (by (repeat' first|exact rfl|refine And.intro ?_ ?_|refine ⟨_,rfl,?_⟩)) (by (repeat' first|exact rfl|refine And.intro ?_ ?_)) (by rfl) (by rfl) (by simp) ?_
  (repeat' ((conv=>whnf);refine vT ?_));all_goals try conv=>whnf
  refine ⟨trivial,_,[(0,0)],[],rfl,.inl (by (repeat' first|exact rfl|refine ⟨_,rfl,?_⟩)),⟨by rfl,by rfl,by rfl,trivial,by (repeat' first|exact trivial|exact rfl|refine And.intro ?_ ?_|refine ⟨_,rfl,?_⟩|exact of_decide_eq_true rfl)⟩,by (repeat' first|exact trivial|exact rfl|refine And.intro ?_ ?_)⟩
 all_goals (exfalso;omega)
set_option maxHeartbeats 1000000 in
theorem zoD (d:Array Int) (hs:d.size≤12):Fn Tryz.prog T zff [.own 0] [zca d] (.tup []) [some (zca (Sort.sort ltI d))]:=by
 have hn:((BitVec.ofInt 64 (d.size:Int)).toNat)=d.size:=by simp;omega
 refine zP zn zi6 (by show 1≤11;decide) _ (fun e env mem n h=>h) ?_
 (repeat' ((conv=>whnf);first|refine vJ fun hg=>?_|refine vT ?_|refine yD (zuN _) ⟨⟨rfl,rfl⟩,rfl⟩ rfl ?_));all_goals try conv=>whnf
 refine zK.objs [0] (zxZ d (b:=d.size) (l:=Sort.bitsLen d.size) (bi:=((d.toList.map (D.int .i64)).length:Int)) (li:=((Sort.bitsLen (BitVec.ofInt 64 ((d.toList.map (D.int .i64)).length:Int)).toNat:Nat):Int)) (by simp) (by rw [List.length_map,Array.length_toList,hn]) hs (Nat.le_refl _) (by omega)) (by (repeat' first|exact rfl|refine And.intro ?_ ?_|refine ⟨_,rfl,?_⟩)) (by (repeat' first|exact rfl|refine And.intro ?_ ?_)) (by rfl) (by rfl) (by simp) ?_
 (repeat' ((conv=>whnf);refine vT ?_));all_goals try conv=>whnf
 refine ⟨trivial,_,[(0,0)],[],rfl,.inl (by (repeat' first|exact rfl|refine ⟨_,rfl,?_⟩)),⟨by rfl,by rfl,by rfl,trivial,by (repeat' first|exact trivial|exact rfl|refine And.intro ?_ ?_|refine ⟨_,rfl,?_⟩|exact of_decide_eq_true rfl)⟩,by (repeat' first|exact trivial|exact rfl|refine And.intro ?_ ?_)⟩
set_option maxHeartbeats 1000000 in
theorem zmH (d:Array Int) (hs:d.size≤536870912) (hd : ¬Steps d):Fn Tryz.prog T zbi [.own 0] [zca d] (.own 1) [none,some (.row 1 ((ddA d d.size).map (D.int .i64)))]:=by
 generalize hR:(ddA d d.size).map (D.int .i64)=R
 have hln:d.toList.length=d.size:=Array.length_toList
 refine zP zn zej (by show 1≤61;decide) _ (fun e env mem n h=>h) ?_
 (repeat' ((conv=>whnf);first|refine vA ?_|(refine vF ?_ ?_<;>intro hc<;>try simp only [vL] at hc)|refine vJ fun hg=>?_|refine vT ?_));all_goals try conv=>whnf
 ·exact absurd (fun j hj0 hj1=>by omega) hd
 refine zy (fun (i:Int)=>[(0,.own 0),(3,.d (.int .i64 (i))),(zf,.own 0)]) (fun (i:Int)=>[(0,some (zca d))]) 1 (fun (i:Int) => ∃ k:Nat,i=k∧0 < k∧k≤d.size ∧ ∀ j,0 < j→j < k→d[j]! ≠ d[j - 1]!) (fun (i:Int)=>(d.size - i).toNat) (1) [(0,0)] [] (⟨1,rfl,by omega,by omega,fun j _ _=>by omega⟩) (by (refine ⟨rfl,rfl,rfl,?_,?_⟩;repeat' first|exact trivial|exact rfl|refine And.intro ?_ ?_|refine ⟨_,rfl,?_⟩|decide)) ?_
 rintro _ ⟨k,rfl,hk0,hk1,hk⟩
 (repeat' ((conv=>whnf);first|refine vA ?_|(refine vF ?_ ?_<;>intro hc<;>try simp only [vL] at hc)|refine vJ fun hg=>?_|refine vT ?_|(refine vQ ?_ fun x hx=>?_;·omega)|((first|refine vO ?_ ?_|refine vP ?_ ?_);·first|omega|(simp only [vM] at *;omega))|(refine vU ?_ ?_;·kernel_rfl)|fail));all_goals try conv=>whnf
 ·have g1:=zbo (zhj k ‹d.toList[(k:Int).toNat]? = some _› rfl)
  have g2:=zbo (zhj (k - 1) ‹d.toList[((k:Int) - 1).toNat]? = some _› (by omega))
  have hkk:d[k]! = d[k - 1]! := g1.1.trans (‹_=_›.trans g2.1.symm)
  refine zy (fun ((w,q,xs):Int×Int×List D)=>[(0,.own 0),(3,.d (.int .i64 (w))),(4,.view 0 k ((d.toList.map (D.int .i64)).length - k)),(5,.d (.int .i64 (q))),(zf,.own 0)]) (fun ((w,q,xs):Int×Int×List D)=>[(0,some (.row 1 xs))]) 1 (fun ((w,q,xs):Int×Int×List D) => ∃ (a b:Nat) (e:Array Int),w=a∧q=b∧xs=e.toList.map (D.int .i64)∧0 < b∧k+b≤d.size∧a < k+b∧e.size=d.size∧e.toList.take a=ddA d (k+b) ∧ ∀ j,k+b - 1≤j→j < d.size→e[j]! = d[j]!) (fun ((w,q,xs):Int×Int×List D)=>(d.size - k - q).toNat) (((k:Int),(1:Int),d.toList.map (D.int .i64))) [(0,0)] [] (⟨k,1,d,rfl,rfl,rfl,by omega,by omega,by omega,rfl,zuu hk0 g1.2 hk hkk,fun _ _ _=>rfl⟩) (by (refine ⟨rfl,rfl,rfl,?_,?_⟩;repeat' first|exact trivial|exact rfl|refine And.intro ?_ ?_|refine ⟨_,rfl,?_⟩|decide)) ?_
  rintro ⟨_,_,_⟩ ⟨a,b,e,rfl,rfl,rfl,hb0,hb1,hab,he,ha,hj⟩
  have hle:e.toList.length=e.size:=Array.length_toList
  (repeat' ((conv=>whnf);first|refine vA ?_|((first|refine vD ?_ ?_|refine vF ?_ ?_)<;>intro hc<;>try simp only [vL] at hc)|refine vT ?_|refine vN ‹_› ?_|(refine vQ ?_ fun x hx=>?_;·omega)|((first|refine vO ?_ ?_|refine vP ?_ ?_);·first|omega|(simp only [vM] at *;omega))|(refine vU ?_ ?_;·kernel_rfl)|fail));all_goals try conv=>whnf
  ·have h1:=zbo ‹e.toList[k+((b:Nat):Int).toNat]? = some _›
   have h2:=zbo (zhj (i:=((k+b - 1:Nat):Int)) (k+b - 1) (by rw [← ‹e.toList[k+(((b:Nat):Int) - 1).toNat]? = some _›];congr 1;omega) rfl)
   simp only [Int.toNat_natCast] at h1
   have e1:=hj (k+b) (by omega) (by omega)
   have e2:=hj (k+b - 1) (by omega) (by omega)
   refine ⟨(_,_,_),[(0,0)],[],?_,?_,by (refine ⟨rfl,rfl,rfl,?_,?_⟩;repeat' first|exact trivial|exact rfl|refine And.intro ?_ ?_|refine ⟨_,rfl,?_⟩|decide)⟩
   ·exact ⟨a+1,b+1,e.setIfInBounds a e[k+b]!,by omega,by omega,by rw [h1.1];simp [List.map_set],by omega,by omega,by omega,by simp [he],
     by rw [zvN (by omega),ha,← Nat.add_assoc,zyT (by rw [← e1,← e2,h1.1,h2.1];assumption),e1],
     fun j h0 h1=>by rw [zxb (by omega)];exact hj j (by omega) h1⟩
   ·((simp only [vM] at *;omega))
  ·have h1:=zbo ‹e.toList[k+((b:Nat):Int).toNat]? = some _›
   have h2:=zbo (zhj (i:=((k+b - 1:Nat):Int)) (k+b - 1) (by rw [← ‹e.toList[k+(((b:Nat):Int) - 1).toNat]? = some _›];congr 1;omega) rfl)
   simp only [Int.toNat_natCast] at h1
   have e1:=hj (k+b) (by omega) (by omega)
   have e2:=hj (k+b - 1) (by omega) (by omega)
   refine ⟨(_,_,_),[(0,0)],[],?_,?_,by (refine ⟨rfl,rfl,rfl,?_,?_⟩;repeat' first|exact trivial|exact rfl|refine And.intro ?_ ?_|refine ⟨_,rfl,?_⟩|decide)⟩
   ·exact ⟨a,b+1,e,rfl,by omega,rfl,by omega,by omega,by omega,he,
     by rw [ha,← Nat.add_assoc,zwM (by omega) (by rw [← e1,← e2,h1.1,h2.1];assumption)],
     fun j h0 h1=>hj j (by omega) h1⟩
   ·((simp only [vM] at *;omega))
  ·have hE:=zwK (enc:=(D.int .i64)) (e:=e) (z:=(D.int .i64 0)) (a:=a) (n:=(e.toList.map (D.int .i64)).length - a) (by omega)
   rw [ha,show k+b=d.size by omega,hR] at hE
   subst hE
   refine zp5.mk (by simp only [List.length_append,List.length_take,List.length_replicate,List.length_drop,List.length_map,hle];omega) ?_
   (repeat' ((conv=>whnf);refine vT ?_));all_goals try conv=>whnf
   refine ⟨trivial,_,[(1,1)],[],rfl,.inl (by (repeat' exact rfl)),⟨by rfl,by rfl,by rfl,trivial,by (repeat' first|exact trivial|exact rfl|refine And.intro ?_ ?_|refine ⟨_,rfl,?_⟩|exact of_decide_eq_true rfl)⟩,by (repeat' first|exact trivial|refine And.intro ?_ ?_)⟩
 ·refine ⟨_,[(0,0)],[],?_,?_,by (refine ⟨rfl,rfl,rfl,?_,?_⟩;repeat' first|exact trivial|exact rfl|refine And.intro ?_ ?_|refine ⟨_,rfl,?_⟩|decide)⟩
  ·exact ⟨k+1,by omega,by omega,by omega,fun j h0 h1=>by
    by_cases hjk:j=k
    ·subst hjk
     have g1:=zbo (zhj j ‹d.toList[(j:Int).toNat]? = some _› rfl)
     have g2:=zbo (zhj (j - 1) ‹d.toList[((j:Int) - 1).toNat]? = some _› (by omega))
     rw [g1.1,g2.1];assumption
    ·exact hk j h0 (by omega)⟩
  ·(omega)
 ·exact absurd (fun j h0 h1=>hk j h0 (by omega)) hd
end Go.Ab
namespace Go.Ab
open Go Go.Proofs
set_option maxRecDepth 10000
set_option maxHeartbeats 4000000
variable {T:Nat→Obj→Prop}
theorem zE0:Sort.SWO ltI:=⟨fun x=>by simp [ltI],fun x y z h1 h2=>by simp [ltI] at *;omega,fun x y z h1 h2=>by simp [ltI] at *;omega⟩
theorem zru (l:List Int):(Sort.sort ltI l.toArray).toList=zbW l:=by
 obtain ⟨⟨h1,-,h2⟩,h3⟩:=Sort.sort_sorts ltI zE0 l.toArray
 have e1:(Sort.sort ltI l.toArray).extract 0 l.toArray.size=Sort.sort ltI l.toArray:=by rw [← h1];simp
 have e2:l.toArray.extract 0 l.toArray.size=l.toArray:=by simp
 rw [e1,e2] at h2
 refine zEm ?_ h2
 rw [List.pairwise_iff_getElem]
 intro i j hi hj hij
 rw [Array.length_toList] at hi hj
 have:=h3 i j (Nat.zero_le _) hij (by rw [← h1];exact hj)
 have a1:=(zbo (List.getElem?_eq_getElem (l:=(Sort.sort ltI l.toArray).toList) (by rw [Array.length_toList];exact hi))).1
 have a2:=(zbo (List.getElem?_eq_getElem (l:=(Sort.sort ltI l.toArray).toList) (by rw [Array.length_toList];exact hj))).1
 rw [a1,a2] at this
 have:=of_decide_eq_false this
 omega
theorem zuL (d:Array Int) (hs:d.size≤1000):Fn Tryz.prog T zbi [.own 0] [zca d] (.own 1) [none,some (.row 1 ((ddA d d.size).map (D.int .i64)))]:=by
 by_cases hd:Steps d
 ·have hln:d.toList.length=d.size:=Array.length_toList
  have e0:ddA d d.size=d.toList:=by rw [zny (Nat.le_refl _) hd,List.take_of_length_le (by omega)]
  rw [e0]
  refine zP zn zej (by show 1≤61;decide) _ (fun e env mem n h=>h) ?_
  (repeat' ((conv=>whnf);first|refine vA ?_|(refine vF ?_ ?_<;>intro hc<;>try simp only [vL] at hc)|refine vJ fun hg=>?_|refine vT ?_));all_goals try conv=>whnf
  ·refine ⟨trivial,_,[(1,0)],[],rfl,.inl (by (repeat' exact rfl)),⟨by rfl,by rfl,by rfl,trivial,by (repeat' first|exact trivial|exact rfl|refine And.intro ?_ ?_|refine ⟨_,rfl,?_⟩|exact of_decide_eq_true rfl)⟩,by (repeat' first|exact trivial|refine And.intro ?_ ?_)⟩
  refine zy (fun (i:Int)=>[(0,.own 0),(3,.d (.int .i64 (i))),(zf,.own 0)]) (fun (i:Int)=>[(0,some (zca d))]) 1 (fun (i:Int) => ∃ k:Nat,i=k∧0 < k∧k≤d.size) (fun (i:Int)=>(d.size - i).toNat) (1) [(0,0)] [] (⟨1,rfl,by omega,by omega⟩) (by (refine ⟨rfl,rfl,rfl,?_,?_⟩;repeat' first|exact trivial|exact rfl|refine And.intro ?_ ?_|refine ⟨_,rfl,?_⟩|decide)) ?_
  rintro _ ⟨k,rfl,hk0,hk1⟩
  (repeat' ((conv=>whnf);first|refine vA ?_|(refine vF ?_ ?_<;>intro hc<;>try simp only [vL] at hc)|refine vJ fun hg=>?_|refine vT ?_|(refine vQ ?_ fun x hx=>?_;·omega)|((first|refine vO ?_ ?_|refine vP ?_ ?_);·first|omega|(simp only [vM] at *;omega))|(refine vU ?_ ?_;·kernel_rfl)|fail));all_goals try conv=>whnf
  ·have g1:=zbo (zhj k ‹d.toList[(k:Int).toNat]? = some _› rfl)
   have g2:=zbo (zhj (k - 1) ‹d.toList[((k:Int) - 1).toNat]? = some _› (by omega))
   exact absurd (g1.1.trans (‹_=_›.trans g2.1.symm)) (hd k hk0 g1.2)
  ·refine ⟨_,[(0,0)],[],?_,?_,by (refine ⟨rfl,rfl,rfl,?_,?_⟩;repeat' first|exact trivial|exact rfl|refine And.intro ?_ ?_|refine ⟨_,rfl,?_⟩|decide)⟩
   ·exact ⟨k+1,by omega,by omega,by omega⟩
   ·(omega)
  ·refine ⟨trivial,_,[(1,0)],[],rfl,.inl (by (repeat' exact rfl)),⟨by rfl,by rfl,by rfl,trivial,by (repeat' first|exact trivial|exact rfl|refine And.intro ?_ ?_|refine ⟨_,rfl,?_⟩|exact of_decide_eq_true rfl)⟩,by (repeat' first|exact trivial|refine And.intro ?_ ?_)⟩
 ·exact zmH d (by omega) hd
theorem zyU (l:List Int):ddA (zbW l).toArray (zbW l).toArray.size=zfS l:=by
 have hs:=zfc l
 have hg : ∀ i,i < (zbW l).length→(zbW l)[i]? = some (zbW l).toArray[i]! := fun i hi=>by
  have:=zcf (d:=(zbW l).toArray) (i:=i) (by simpa using hi)
  simpa using this
 have hsz:(zbW l).toArray.size=(zbW l).length:=by simp
 have h1:(ddA (zbW l).toArray (zbW l).toArray.size).Pairwise fun x y=>ltI x y=true:=zk0 (lt:=ltI) (fun i j hij hj=>by
   rw [hsz] at hj
   have a1:=hg i (by omega);have a2:=hg j hj
   obtain ⟨p1,q1⟩:=List.getElem?_eq_some_iff.1 a1
   obtain ⟨p2,q2⟩:=List.getElem?_eq_some_iff.1 a2
   have:=List.pairwise_iff_getElem.1 hs i j p1 p2 hij
   rw [q1,q2] at this
   unfold ltI
   rw [decide_eq_false_iff_not];omega) (fun x y h1 h2=>by simp [ltI] at h1 h2;omega) (Nat.le_refl _)
 have h1':(ddA (zbW l).toArray (zbW l).toArray.size).Pairwise (· < ·):=h1.imp fun h=>by simpa [ltI] using h
 have h2:(zfS l).Nodup:=(zcE _).nodup_iff.2 (zc8 l)
 refine zem (h1'.imp fun h=>Int.le_of_lt h) (zfc _) (zgz (h1'.imp fun h e=>by subst e;omega) h2 fun x=>?_)
 rw [zfX,zlo]
 rw [← (zcE l).mem_iff]
 constructor
 ·rintro ⟨i,hi,rfl⟩;rw [hsz] at hi;exact List.mem_of_getElem? (hg i hi)
 ·intro hx
  obtain ⟨i,hi⟩:=List.getElem?_of_mem hx
  have hl:=(List.getElem?_eq_some_iff.1 hi).1
  refine ⟨i,by rw [hsz];exact hl,?_⟩
  have:=hg i hl;rw [hi] at this;exact (Option.some.inj this).symm
theorem zwg (hT:zdf T) (s:BitVec 64):Fn Tryz.prog T zhp [.d (.u64 s)] [] (.d (dN (zB s))) []:=by
 refine zb zn zmU (by show 1≤16;decide) ?_
 (repeat' ((conv=>whnf);first|refine vA ?_|refine vT ?_));all_goals try conv=>whnf
 refine zy (fun ((r,zs):BitVec 64×List D)=>[(0,.d (.u64 (r))),(3,.own 0)]) (fun ((r,zs):BitVec 64×List D)=>[(0,some (.row 1 zs))]) 1 (fun ((r,zs):BitVec 64×List D) => ∃ l:List Nat,zs=l.map (fun (x:Nat)=>D.int .i64 (x:Int))∧zB s=l++zB r) (fun ((r,zs):BitVec 64×List D)=>(zB r).length) ((s,[])) []   [0] (⟨[],rfl,rfl⟩) (by (refine ⟨rfl,rfl,rfl,?_,?_⟩;repeat' first|exact trivial|exact rfl|exact ⟨_,rfl⟩|refine And.intro ?_ ?_|decide)) ?_
 rintro ⟨r,zs⟩ ⟨l,rfl,hI⟩
 by_cases hr:r=0#64
 ·subst hr
  (repeat' ((conv=>whnf);first|refine vA ?_|refine vH ?_|refine vT ?_));all_goals try conv=>whnf
  rw [hI,zfs,List.append_nil]
  show some (D.arr 1 _)=some (D.arr 1 _)
  rw [List.map_map];rfl
 ·have hb:=zg8 r hr
  have hl:=congrArg List.length hI
  have hlen:=zqe s
  rw [List.length_append] at hl
  (repeat' ((conv=>whnf);first|refine vA ?_|(refine vD ?_ ?_<;>intro hc)|refine vT ?_|(refine vP ?_ ?_;·(simp only [vM] at *;omega))|refine yD (hT r) (by (repeat refine ⟨⟨rfl,rfl⟩,?_⟩);rfl) rfl ?_));all_goals try conv=>whnf
  ·refine ⟨(r&&&(r - 1#64),_),[(0,2)],[],?_,?_,by (refine ⟨rfl,rfl,rfl,?_,?_⟩;repeat' first|exact trivial|exact rfl|refine And.intro ?_ ?_|refine ⟨_,rfl,?_⟩|decide)⟩
   ·exact ⟨l++[Lib.ctz 64 r.toNat],by simp,by rw [hI,hb];simp⟩
   ·show (zB (r&&&(r - 1#64))).length < (zB r).length
    rw [hb];simp
  ·exact absurd ‹r=0› hr
def zdc (q:Nat→Nat) (s:BitVec 64):List Int:=(zB s).map fun v=>(q v:Int)
theorem zwE {n:Nat} {s:BitVec 64} (hs : ∀ v,s.getLsbD v=true→v < n):(zB s).length≤n:=zwI hs
theorem zzg (hT:zdf T) (q:Nat→Nat) {n:Nat} (hn:n≤12) {s:BitVec 64} (hs : ∀ v,s.getLsbD v=true→v < n) :
  Fn Tryz.prog T zfm [.d (dI (ptL n q)),.d (.u64 s)] [] (.own 0) [some (.row 1 ((zbW (zdc q s)).map (D.int .i64)))]:=by
 have hbl:=zwE hs
 have hvl:(zdc q s).length=(zB s).length:=by simp [zdc]
 have c1:=zoD (T:=T) (zdc q s).toArray (by simp [hvl];omega)
 rw [show zca (Sort.sort ltI (zdc q s).toArray) = .row 1 ((zbW (zdc q s)).map (D.int .i64)) by rw [zca,zru]] at c1
 have hln:(ptL n q).length=n:=zbU
 refine zP zn zoj (by show 2≤26;decide) _ (fun e env mem n h=>h) ?_
 (repeat' ((conv=>whnf);first|refine vA ?_|refine vJ fun hg=>?_|refine vT ?_|refine yN (zwg hT s) ⟨⟨rfl,rfl⟩,rfl⟩ ?_));all_goals try conv=>whnf
 refine zy (fun ((k,zs):Nat×List D)=>[(0,.d (dI (ptL n q))),(5,.own 0),(9,.d (dN (zB s))),(10,.d (.int .i64 ((zgU (zB s):Int)))),(11,.d (.int .i64 ((k:Int))))]) (fun ((k,zs):Nat×List D)=>[(0,some (.row 1 zs))]) 1 (fun ((k,zs):Nat×List D)=>k≤(zB s).length∧zs=((zdc q s).take k).map (D.int .i64)) (fun ((k,zs):Nat×List D)=>(zB s).length - k) ((0,[])) []   [0] (⟨by omega,by simp⟩) (by (refine ⟨rfl,rfl,rfl,?_,?_⟩;repeat' first|exact trivial|exact rfl|exact ⟨_,rfl⟩|refine And.intro ?_ ?_|decide)) ?_
 rintro ⟨k,zs⟩ ⟨hk,hz⟩
 have hzl:zs.length≤12:=by rw [hz];simp;omega
 have hlD:=zsj (zB s)
 by_cases hkl:k < (zB s).length
 ·have e1:=znK hkl
  have hw:=hs _ (zln.1 (zaq hkl))
  have e2:=zbp (q:=q) hw
  (repeat' ((conv=>whnf);first|refine vA ?_|(refine vF ?_ ?_<;>intro hc<;>try simp only [vL] at hc)|refine vT ?_|refine vN ‹_› ?_|((first|refine vO ?_ ?_|refine vP ?_ ?_);·first|omega|(simp only [vM] at *;omega))|fail));all_goals try conv=>whnf
  ·refine ⟨(k+1,_),[(0,2)],[],?_,?_,by (refine ⟨rfl,rfl,rfl,?_,?_⟩;repeat' first|exact trivial|exact rfl|refine And.intro ?_ ?_|refine ⟨_,rfl,?_⟩|decide)⟩
   ·refine ⟨by omega,?_⟩
    have e3:(zdc q s)[k]? = some ((q ((zB s).getD k 0):Nat):Int):=by
     rw [zdc,List.getElem?_map,zf2 (d:=0) hkl];rfl
    rw [List.take_add_one,e3,hz];simp
   ·((simp only [vM] at *;omega))
  ·exfalso;omega
 ·(repeat' ((conv=>whnf);first|refine vA ?_|(refine vF ?_ ?_<;>intro hc<;>try simp only [vL] at hc)|refine vT ?_|(refine vQ ?_ fun x hx=>?_;·omega)|((first|refine vO ?_ ?_|refine vS ?_ fun x hx=>?_|refine vP ?_ ?_);·omega)|fail));all_goals try conv=>whnf
  ·exfalso;omega
  ·have e0:zs=(zdc q s).map (D.int .i64):=by rw [hz,List.take_of_length_le (by omega)]
   clear hz
   subst e0
   refine zK.objs [0] (c1) (by (repeat' first|exact rfl|refine And.intro ?_ ?_|refine ⟨_,rfl,?_⟩)) (by (repeat' first|exact rfl|refine And.intro ?_ ?_)) (by rfl) (by rfl) (by simp) ?_
   (repeat' ((conv=>whnf);refine vT ?_));all_goals try conv=>whnf
   refine ⟨trivial,_,[(0,0)],[],rfl,.inl (by (repeat' exact rfl)),⟨by rfl,by rfl,by rfl,trivial,by (repeat' first|exact trivial|exact rfl|refine And.intro ?_ ?_|refine ⟨_,rfl,?_⟩|exact of_decide_eq_true rfl)⟩,by (repeat' exact trivial)⟩
theorem zB3 {n:Nat} {q:Nat→Nat} {s:BitVec 64} (hn:n≤64) (hs : ∀ v,s.getLsbD v=true→v < n) {r:Nat→Nat→Bool} {w:Nat} (hr : ∀ v,v < n→r w v=s.getLsbD v):zdR n r q w=zdc q s:=by
 unfold zdR zdc zB
 rw [zgp (n:=n) hs 64 hn]
 congr 1
 exact List.filter_congr fun v hv=>hr v (List.mem_range.1 hv)
end Go.Ab
namespace Go.Ab
open Go Go.Proofs
set_option maxRecDepth 10000
set_option maxHeartbeats 4000000
variable {T:Nat→Obj→Prop}
abbrev dTs (l:List Tup):D := .arr 1 (l.map dII)
theorem zBS {n:Nat} (t:Nat→Tup):(((List.range n).map t).map (rkN ((List.range n).map t))).map (fun (x:Nat)=>(x:Int))=ptL n fun w=>rkN ((List.range n).map t) (t w):=by
 unfold ptL;simp [Function.comp_def]
theorem zsX {n:Nat} (t:Nat→Tup) (h1:1≤n) (h12:n≤12) (hs : ∀ w,w < n→Sml (t w)) :
  Fn Tryz.prog T zfK [.d (dTs ((List.range n).map t))] [] (.d (.tup [dI (ptL n fun w=>rkN ((List.range n).map t) (t w)),.int .i64 (cnN ((List.range n).map t):Int)])) []:=by
 have h:=zzf (T:=T) ((List.range n).map t) (fun h=>by have:=congrArg List.length h;simp at this;omega) (by simpa using h12) (fun x hx=>by
  obtain ⟨w,hw,rfl⟩:=List.mem_map.1 hx
  exact hs w (List.mem_range.1 hw))
 rw [show dN (((List.range n).map t).map (rkN ((List.range n).map t)))=dI (ptL n fun w=>rkN ((List.range n).map t) (t w)) by rw [← zBS]] at h
 exact h
theorem zx0 {n:Nat} (h1:1≤n) (h12:n≤12) (g:Nat) (y:D) (next:(Nat→Nat)→Nat→Tup) (first:Nat→Tup) (hF : ∀ q v w,v < n→w < n→next q v=next q w→q v=q w)
  (hs : ∀ q w,w < n→Sml (next q w)) (hf : ∀ w,w < n→Sml (first w)) (hx : ∀ (q:Nat→Nat) (w:Nat),w < n→Fn Tryz.prog T g [.d (dI (ptL n q)),.d (.int .i64 (w:Int)),.d y] [] (.d (dII (next q w))) []) :
  Fn Tryz.prog T zhT [.d (dTs ((List.range n).map first)),.d (.fn g [y])] []
   (.d (.tup [dI (ptL n (zbK n next (n+1) (fun w=>rkN ((List.range n).map first) (first w)) (cnN ((List.range n).map first))).1),.int .i64 ((zbK n next (n+1) (fun w=>rkN ((List.range n).map first) (first w)) (cnN ((List.range n).map first))).2:Int)])) []:=by
 have c1:=zsX (T:=T) first h1 h12 hf
 have c2:=fun q=>zsX (T:=T) (next q) h1 h12 (hs q)
 generalize hq0:(fun w=>rkN ((List.range n).map first) (first w))=q0 at c1
 have hd0:cnN ((List.range n).map first)=dcN n q0:=by
  have:=ze3 (n:=n) (next:=fun _=>first) (fun _=>0)
  unfold zb2 rfT zeZ rfT at this
  rw [hq0] at this
  exact this.symm
 rw [hd0] at c1 ⊢
 generalize hR:zbK n next (n+1) q0 (dcN n q0)=R
 refine zb zn zoi (by show 2≤45;decide) ?_
 (repeat' ((conv=>whnf);first|refine vT ?_|refine yN c1 ⟨⟨rfl,rfl⟩,rfl⟩ ?_));all_goals try conv=>whnf
 refine zal (fun ((q,c):(Nat→Nat)×Nat)=>[(1,.d (.fn g [y])),(6,.d (dI (ptL n q))),(7,.d (.int .i64 ((c:Int))))]) (fun ((q,c):(Nat→Nat)×Nat)=>c=dcN n q∧zbK n next (n+1) q (dcN n q)=R) (fun ((q,c):(Nat→Nat)×Nat)=>n+1 - c) ((q0,dcN n q0)) (⟨rfl,hR⟩) (by (repeat' first|exact trivial|exact rfl|refine And.intro ?_ ?_)) ?_
 rintro ⟨q,c⟩ ⟨hc0,hI⟩
 have hln:(ptL n q).length=n:=zbU
 (repeat' ((conv=>whnf);first|refine vA ?_|refine vJ fun hg=>?_|refine vK fun hg=>?_|refine vT ?_|(refine vP ?_ ?_;·(simp only [vM] at *;omega))|fail));all_goals try conv=>whnf
 ·refine zy (fun ((k,zs):Nat×List D)=>[(1,.d (.fn g [y])),(6,.d (dI (ptL n q))),(7,.d (.int .i64 ((c:Int)))),(8,.own 0),(21,.d (.int .i64 (((List.replicate ((((ptL n q).map (D.int .i64)).length:Int)).toNat (D.arr 1 []))).length:Int))),(22,.d (.int .i64 ((k:Int))))]) (fun ((k,zs):Nat×List D)=>[(0,some (.row 1 zs))]) 1 (fun ((k,zs):Nat×List D)=>k≤n∧zs=(List.range n).map fun w=>if w < k then dII (next q w) else D.arr 1 []) (fun ((k,zs):Nat×List D)=>n - k) ((0,List.replicate ((((ptL n q).map (D.int .i64)).length:Int)).toNat (D.arr 1 []))) [(0,0)] [] (⟨by omega,by simp only [Nat.not_lt_zero,if_false];rw [List.length_map,hln,Int.toNat_natCast];exact zay _ _⟩) (by (refine ⟨rfl,rfl,rfl,?_,?_⟩;repeat' first|exact trivial|exact rfl|refine And.intro ?_ ?_|refine ⟨_,rfl,?_⟩|decide)) ?_
  rintro ⟨k,zs⟩ ⟨hk,hz⟩
  by_cases hkl:k < n
  ·subst hz
   have er:(List.range n)[k]? = some k:=List.getElem?_range hkl
   (repeat' ((conv=>whnf);first|refine vA ?_|(refine vF ?_ ?_<;>intro hc<;>try simp only [vL] at hc)|refine vT ?_));all_goals try conv=>whnf
   ·refine zK.dataN (hx q k hkl) (by (repeat refine ⟨⟨rfl,rfl⟩,?_⟩);rfl) ?_
    (repeat' ((conv=>whnf);first|refine vT ?_|((first|refine vO ?_ ?_|refine vP ?_ ?_);·first|omega|(simp only [vM] at *;omega))|fail));all_goals try conv=>whnf
    refine ⟨(k+1,_),[(0,0)],[],?_,?_,by (refine ⟨rfl,rfl,rfl,?_,?_⟩;repeat' first|exact trivial|exact rfl|refine And.intro ?_ ?_|refine ⟨_,rfl,?_⟩|decide)⟩
    ·refine ⟨by omega,(zdV _).trans (zL fun u hu=>?_)⟩
     show (if u=k then _ else _)=_
     by_cases e:u=k
     ·subst e;rw [if_pos rfl,if_pos (by omega)]
     ·rw [if_neg e]
      by_cases e2:u < k
      ·rw [if_pos e2,if_pos (by omega)]
      ·rw [if_neg e2,if_neg (by omega)]
    ·((simp only [vM] at *;omega))
   ·exfalso
    simp only [vM] at *;omega
  ·have hzz:zs=((List.range n).map (next q)).map dII:=by
    rw [hz,List.map_map];exact zL fun u hu=>by rw [if_pos (by omega)];rfl
   clear hz
   subst hzz
   have c3:=c2 q
   (repeat' ((conv=>whnf);first|refine vA ?_|(refine vF ?_ ?_<;>intro hc<;>try simp only [vL] at hc)|refine vT ?_|refine yN c3 (by (repeat refine ⟨⟨rfl,rfl⟩,?_⟩);rfl) ?_));all_goals try conv=>whnf
   ·exfalso;simp only [vM] at *;omega
   ·have e1:zb2 n next q=dcN n q:=by have h:(cnN ((List.range n).map (next q)):Int)=(c:Int):=‹_›;unfold zb2 rfT;omega
    rw [zbK,if_pos e1] at hI
    rw [← hI,hc0];rfl
   ·have e1:zb2 n next q≠dcN n q:=fun e=>by
     have h : ¬(cnN ((List.range n).map (next q)):Int)=(c:Int):=‹_›
     unfold zb2 rfT at e;omega
    have e2:=zuq hF q
    have e3:=ze3 (n:=n) (next:=next) q
    have e4:=zyQ (n:=n) (next:=next) q
    refine ⟨(zeZ n next q,zb2 n next q),[],[],?_,?_,by (refine ⟨rfl,rfl,rfl,?_,?_⟩;repeat' first|exact trivial|exact rfl|refine And.intro ?_ ?_)⟩
    ·refine ⟨e3.symm,?_⟩
     rw [zbK,if_neg e1,← e3] at hI
     rw [← hI]
     exact zw9 hF _ _ _ (by omega) (by omega)
    ·show n+1 - zb2 n next q < n+1 - c
     omega
end Go.Ab
namespace Go.Ab
open Go Go.Proofs
set_option maxRecDepth 10000
set_option maxHeartbeats 4000000
variable {T:Nat→Obj→Prop}
theorem zB5 {n:Nat} (h12:n≤12) {R:zD} (hR:R.length≤8) (q:Nat→Nat) (w:Nat):Sml (zjs n R q w)∧Sml (zaf n R q w):=by
 have hsee : ∀ r:Nat→Nat→Bool,(zdR n r q w).length≤12:=fun r=>by
  unfold zdR
  rw [List.length_map]
  have:=List.length_filter_le (fun v=>r w v) (List.range n)
  rw [List.length_range] at this;omega
 refine ⟨⟨by simp [zjs];omega,fun x hx=>?_⟩,⟨by simp [zaf];omega,fun x hx=>?_⟩⟩
 ·rcases List.mem_cons.1 hx with rfl|hx
  ·simp
  ·obtain ⟨r,-,rfl⟩:=List.mem_map.1 hx
   have:=hsee r
   rw [(zcE _).length_eq];omega
 ·rcases List.mem_cons.1 hx with rfl|hx
  ·simp
  ·obtain ⟨r,-,rfl⟩:=List.mem_map.1 hx
   have:=hsee r
   have h2:=zb9 (zc8 (zdR n r q w)) (l':=zdR n r q w) fun y hy=>zaH.1 hy
   unfold zfS
   rw [(zcE _).length_eq];omega
theorem zvz {m:KM} (hk0:za m=0) {r:List (BitVec 64)} (hr:r∈m.rel) (w:Nat) : ∀ v,(r.getD w 0#64).getLsbD v=true→v < m.W.toNat:=fun v hv=>(zCy hk0 hr (v:=w) (u:=v) hv).2
theorem zxW (hT:zdf T) {m:KM} (hk0:za m=0) (h12:m.W≤12) (q:Nat→Nat) (w:Nat) (hw:w < m.W.toNat) :
  Fn Tryz.prog T zcI [.d (dI (ptL m.W.toNat q)),.d (.int .i64 (w:Int)),.d (bKM m)] [] (.d (dII (zaf m.W.toNat (zi m) q w))) []:=by
 have hg0:=zx hk0
 have n4:=hg0.n4
 have e0:=zbp (q:=q) hw
 refine zb zn zl2 (by show 3≤34;decide) ?_
 (repeat' ((conv=>whnf);first|refine vA ?_|refine vJ fun hg=>?_|refine vT ?_|refine vN ‹_› ?_));all_goals try conv=>whnf
 refine zy (fun ((k,zs):Nat×List D)=>[(0,.d (dI (ptL m.W.toNat q))),(1,.d (.int .i64 ((w:Int)))),(6,.own 0),(16,.d (dUU m.rel)),(17,.d (.int .i64 ((m.rel.map dU).length:Int))),(18,.d (.int .i64 ((k:Int))))]) (fun ((k,zs):Nat×List D)=>[(0,some (.row 1 zs))]) 1 (fun ((k,zs):Nat×List D)=>k≤m.rel.length∧zs=dI [(q w:Int)]::(m.rel.take k).map fun r=>dI (zfS (zdc q (r.getD w 0#64)))) (fun ((k,zs):Nat×List D)=>m.rel.length - k) ((0,[dI [(q w:Int)]])) [(0,1)] [] (⟨by omega,by simp⟩) (by (refine ⟨rfl,rfl,rfl,?_,?_⟩;repeat' first|exact trivial|exact rfl|refine And.intro ?_ ?_|refine ⟨_,rfl,?_⟩|decide)) ?_
 rintro ⟨k,zs⟩ ⟨hk,hz⟩
 have hzl:zs.length≤5:=by rw [hz];simp;omega
 by_cases hkl:k < m.rel.length
 ·obtain ⟨r,hr⟩ : ∃ r,m.rel[k]? = some r:=⟨_,List.getElem?_eq_getElem hkl⟩
  have hrm:=List.mem_of_getElem? hr
  have hrl:=hg0.len r hrm
  have hx:=zf2 (l:=r) (d:=0#64) (show w < r.length by omega)
  have hvl:=zwE (zvz hk0 hrm w)
  have c2:=zuL (T:=T) (zbW (zdc q (r.getD w 0#64))).toArray (by rw [List.size_toArray,(zcE _).length_eq,zdc,List.length_map];omega)
  rw [zyU] at c2
  (repeat' ((conv=>whnf);first|refine vA ?_|(refine vF ?_ ?_<;>intro hc<;>try simp only [vL] at hc)|refine vT ?_|refine vN ‹_› ?_));all_goals try conv=>whnf
  ·refine zK.res (zzg hT q (n:=m.W.toNat) (by omega) (zvz hk0 hrm w)) (by (repeat refine ⟨⟨rfl,rfl⟩,?_⟩);rfl) ?_
   (repeat' ((conv=>whnf);refine vT ?_));all_goals try conv=>whnf
   refine zK.objs [1] (c2) (by (repeat' first|exact rfl|refine And.intro ?_ ?_|refine ⟨_,rfl,?_⟩)) (by (repeat' first|exact rfl|refine And.intro ?_ ?_)) (by rfl) (by rfl) (by simp) ?_
   (repeat' ((conv=>whnf);first|refine vT ?_|((first|refine vO ?_ ?_|refine vP ?_ ?_);·first|omega|(simp only [vM] at *;omega))|fail));all_goals try conv=>whnf
   refine ⟨(k+1,_),[(0,4)],[],?_,?_,by (refine ⟨rfl,rfl,rfl,?_,?_⟩;repeat' first|exact trivial|exact rfl|refine And.intro ?_ ?_|refine ⟨_,rfl,?_⟩|decide)⟩
   ·refine ⟨by omega,?_⟩
    rw [List.take_add_one,hr,hz];simp
   ·((simp only [vM] at *;omega))
  ·exfalso;omega
 ·have hzz:zs=dI [(q w:Int)]::m.rel.map fun r=>dI (zfS (zdc q (r.getD w 0#64))):=by rw [hz,List.take_of_length_le (by omega)]
  clear hz
  (repeat' ((conv=>whnf);first|refine vA ?_|(refine vF ?_ ?_<;>intro hc<;>try simp only [vL] at hc)|refine vT ?_|(refine vQ ?_ fun x hx=>?_;·omega)|fail));all_goals try conv=>whnf
  ·exfalso;omega
  ·refine congrArg some (show D.arr 1 zs=dII (zaf m.W.toNat (zi m) q w) from ?_)
   rw [hzz]
   unfold zaf zi
   have a1 : ∀ r∈m.rel,zdR m.W.toNat (fun v w=>rb r v w) q w=zdc q (r.getD w 0#64):=fun r hr=>zB3 (by omega) (zvz hk0 hr w) fun v _=>rfl
   simp only [List.map_map,List.map_cons]
   refine congrArg (fun l=>D.arr 1 (dI [(q w:Int)]::l)) ?_
   rw [List.map_map]
   exact List.map_congr_left fun r hr=>by show dI _=dI (zfS (zdR _ (fun v w=>rb r v w) q w));rw [a1 r hr]
theorem zsW (hT:zdf T) {m:KM} (hk0:za m=0) (h12:m.W≤12) (root:Int) :
  Fn Tryz.prog T zhS [.d (dKM m),.d (.int .i64 root)] [] (.d (.tup [dI (ptL m.W.toNat (zeV m root).1),.int .i64 ((zeV m root).2:Int)])) []:=by
 have hg0:=zx hk0
 have w1:=hg0.w1
 have n4:=hg0.n4
 have cr:=zx0 (T:=T) (n:=m.W.toNat) (by omega) (by omega) zcI (bKM m) (zaf m.W.toNat (zi m)) (mkT m root) (fun q v w hv hw h=>zgy q v w hv hw h) (fun q w hw=>(zB5 (by omega) (by simp [zi];omega) q w).2) (fun w hw=>⟨by simp [mkT],fun r hr=>by unfold mkT at hr;simp at hr;rcases hr with rfl|rfl<;>simp⟩) (fun q w hw=>zxW hT hk0 h12 q w hw)
 refine zb zn zoh (by show 2≤33;decide) ?_
 (repeat' ((conv=>whnf);first|refine vA ?_|refine vT ?_));all_goals try conv=>whnf
 refine zy (fun ((k,zs):Nat×List D)=>[(1,.d (.int .i64 (root))),(2,.ptr 0 0),(6,.own 1),(10,.d (.int .i64 (m.W))),(11,.d (.int .i64 ((k:Int))))]) (fun ((k,zs):Nat×List D)=>[(0,some (zco m)),(1,some (.row 1 zs))]) 2 (fun ((k,zs):Nat×List D)=>k≤m.W.toNat∧zs=((List.range k).map (mkT m root)).map dII) (fun ((k,zs):Nat×List D)=>m.W.toNat - k) ((0,[])) [(0,0)]   [1] (⟨by omega,rfl⟩) (by (refine ⟨rfl,rfl,rfl,?_,?_⟩;repeat' first|exact trivial|exact rfl|exact ⟨_,rfl⟩|refine And.intro ?_ ?_|refine ⟨_,rfl,?_⟩|decide)) ?_
 rintro ⟨k,zs⟩ ⟨hk,hz⟩
 have hzl:zs.length≤12:=by rw [hz];simp;omega
 by_cases hkl:k < m.W.toNat
 ·have cf:=zhw (T:=T) m (k:Int)
  rw [zr2 hk0 hkl] at cf
  (repeat' ((conv=>whnf);first|refine vA ?_|(refine vF ?_ ?_<;>intro hc<;>try simp only [vL] at hc)|refine vT ?_|((first|refine vO ?_ ?_|refine vP ?_ ?_);·first|omega|(simp only [vM] at *;omega))|refine yD cf ⟨⟨rfl,rfl⟩,⟨rfl,rfl⟩,rfl⟩ rfl ?_));all_goals try conv=>whnf
  ·refine ⟨(k+1,_),[(0,0),(1,6)],[],?_,?_,by (refine ⟨rfl,rfl,rfl,?_,?_⟩;repeat' first|exact trivial|exact rfl|refine And.intro ?_ ?_|refine ⟨_,rfl,?_⟩|decide)⟩
   ·refine ⟨by omega,?_⟩
    rw [hz,List.range_succ,List.map_append,List.map_append]
    refine congrArg _ ?_
    show [D.arr 1 [D.arr 1 [D.int .i64 0],D.arr 1 [D.int .i64 (zF m k)]]]=[dII (mkT m root k)]
    unfold mkT;rw [if_pos ‹_›];rfl
   ·((simp only [vM] at *;omega))
  ·refine ⟨(k+1,_),[(0,0),(1,6)],[],?_,?_,by (refine ⟨rfl,rfl,rfl,?_,?_⟩;repeat' first|exact trivial|exact rfl|refine And.intro ?_ ?_|refine ⟨_,rfl,?_⟩|decide)⟩
   ·refine ⟨by omega,?_⟩
    rw [hz,List.range_succ,List.map_append,List.map_append]
    refine congrArg _ ?_
    show [D.arr 1 [D.arr 1 [D.int .i64 1],D.arr 1 [D.int .i64 (zF m k)]]]=[dII (mkT m root k)]
    unfold mkT;rw [if_neg ‹_›];rfl
   ·((simp only [vM] at *;omega))
  ·exfalso;omega
 ·have hzz:zs=((List.range m.W.toNat).map (mkT m root)).map dII:=by rw [hz,show k=m.W.toNat by omega]
  clear hz
  subst hzz
  (repeat' ((conv=>whnf);first|refine vA ?_|(refine vF ?_ ?_<;>intro hc<;>try simp only [vL] at hc)|refine vT ?_|refine yN cr ⟨⟨rfl,rfl⟩,⟨rfl,rfl⟩,rfl⟩ ?_));all_goals try conv=>whnf
  iterate 2 (exfalso;omega)
  rfl
end Go.Ab
namespace Go.Ab
open Go Go.Proofs
set_option maxRecDepth 10000
set_option maxHeartbeats 4000000
variable {T:Nat→Obj→Prop}
theorem zsS {l:List Nat} {w:Nat} (h:w∈l):zfB (fun y=>(w:Int)==y) (l.map fun (x:Nat)=>(x:Int))=(l.idxOf w:Int):=by
 have h1:=zle h
 refine zhv (x:=(w:Int)) (by rw [znK h1.1,h1.2]) (by simp) fun i y hi hy=>?_
 rw [List.getElem?_map,Option.map_eq_some_iff] at hy
 obtain ⟨x,hx,rfl⟩:=hy
 have hne:x≠w:=fun e=>by
  subst e
  have h2:=List.idxOf_lt_length_of_mem h
  obtain ⟨p1,q1⟩:=List.getElem?_eq_some_iff.1 hx
  have : ∀ (l:List Nat) (i:Nat) (hi:i < l.length),l.idxOf l[i]≤i:=fun l=>by
   induction l with
   | nil=>intro i hi;simp at hi
   | cons a l ih =>
    intro i hi
    cases i with
    | zero=>simp
    | succ i =>
     rw [List.getElem_cons_succ,List.idxOf_cons]
     cases hb:a==l[i]'(by simpa using hi) with
     | true=>simp
     | false=>have:=ih i (by simpa using hi);simp;exact this
  have:=this l i p1
  rw [q1] at this;omega
 simp;omega
theorem zuK (hT:zdf T) (m:KM) (h12:za m=0→m.W≤12) (w:Int):Fn Tryz.prog T zgk [.d (dKM m),.d (.int .i64 w)] [] (.d (.tup [dKM (zgL m w).1,dI (zgL m w).2.1,.int .i64 (zgL m w).2.2])) []:=by
 have cc:=zaI (T:=T) m
 by_cases hk0:za m=0
 ·have h12:=h12 hk0
  have hg0:=zx hk0
  have w1:=hg0.w1
  rw [hk0] at cc
  by_cases hw:w < 0∨m.W≤w
  ·refine zb zn zea (by show 2≤95;decide) ?_
   (repeat' ((conv=>whnf);first|refine vA ?_|refine vH ?_|(refine vF ?_ ?_<;>intro hc<;>try simp only [vL] at hc)|refine vT ?_|(refine vP ?_ ?_;·omega)|refine yD cc ⟨⟨rfl,rfl⟩,rfl⟩ rfl ?_));all_goals try conv=>whnf
   iterate 2 (rw [zgL,if_neg (by omega),if_pos hw];rfl)
   exfalso;omega
  ·obtain ⟨w,rfl⟩ : ∃ v:Nat,w=(v:Int):=⟨w.toNat,by omega⟩
   have hwl:w < m.W.toNat:=by omega
   have hbit : ∀ v,(1#64 <<< w).getLsbD v=true→v < m.W.toNat:=fun v hv=>by have:=(znJ (by omega)).1 hv;omega
   have hl:=zuW hk0 hwl
   have hroot:=zfM (R:=zi m) hwl
   have hlen:=zj9 (n:=m.W.toNat) (R:=zi m) (w:=w)
   have hlt : ∀ x∈zI m.W.toNat (zi m) w,x < m.W.toNat:=fun x hx=>(zf1.1 hx).lt
   have hnd:=zjn m.W.toNat (zi m) w
   have hcan:zgL m (w:Int)=if zjF (zS m (zI m.W.toNat (zi m) w))=false then (zbD,[],16) else (zS m (zd0 m w),(zd0 m w).map fun (x:Nat)=>(x:Int),0):=by
    rw [zgL,if_neg (by omega),if_neg hw,Int.toNat_natCast]
   have hcc:=zAY hk0 hwl
   have cg:=zlO hT hk0 hbit
   have cr:=zmM hT hk0 (s:=zhH m (1#64 <<< w)) (fun e=>by
    rw [e,zfs] at hl;rw [← hl] at hroot;cases hroot) (fun v hv=>((zid hk0).1 hv).lt)
   rw [hl] at cr
   generalize zhH m (1#64 <<< w)=gs at cg cr
   clear hl
   generalize hL:zI m.W.toNat (zi m) w=l at hroot hlen hlt hnd hcan hcc cr
   have hll:1≤l.length:=List.length_pos_of_mem hroot
   have hp0:=zqa hk0 hll (by omega)
   have hpW:(zS m l).W.toNat=l.length:=Int.toNat_natCast _
   have hpI:(zS m l).W=(l.length:Int):=rfl
   have c1:=zsW hT hp0 (by rw [hpI];omega) (-1)
   have ci:=ziI (T:=T) (l.map fun (x:Nat)=>(x:Int)) (w:Int)
   rw [zsS hroot] at ci
   have c2:=zsW hT hp0 (by rw [hpI];omega) (l.idxOf w:Int)
   have hn:=zEg (p:=zS m l) (-1)
   rw [hpW] at c1 c2 hn
   refine zb zn zea (by show 2≤95;decide) ?_
   cases hmin:zjF (zS m l) with
   | false =>
    have hne:(zeV (zS m l) (-1)).2≠l.length:=fun e=>by
     unfold zjF at hmin;rw [hpW,e] at hmin;simp at hmin
    rw [hcan,hmin,if_pos rfl]
    (repeat' ((conv=>whnf);first|refine vA ?_|refine vH ?_|(refine vF ?_ ?_<;>intro hc<;>try simp only [vL] at hc)|refine vT ?_|(refine vP ?_ ?_;·omega)|(refine vU ?_ ?_;·kernel_rfl)|refine yD cc ⟨⟨rfl,rfl⟩,rfl⟩ rfl ?_|refine yN cg ⟨⟨rfl,rfl⟩,⟨rfl,rfl⟩,rfl⟩ ?_|refine yN cr ⟨⟨rfl,rfl⟩,⟨rfl,rfl⟩,rfl⟩ ?_|refine yN c1 ⟨⟨rfl,rfl⟩,⟨rfl,rfl⟩,rfl⟩ ?_));all_goals try conv=>whnf
    ·exfalso;omega
    ·rfl
    ·have h : ¬((zeV (zS m l) (-1)).2:Int) < (l.length:Int):=by rw [← hpI];omega
     exfalso;omega
   | true =>
    have he:(zeV (zS m l) (-1)).2=l.length:=by
     unfold zjF at hmin;rw [hpW] at hmin;exact of_decide_eq_true hmin
    rw [hcan,hmin,if_neg (by decide)]
    obtain ⟨hq,ha,hw2⟩:=hcc hmin
    have c3:=zxV (T:=T) (zS m l) (ptL l.length (zeV (zS m l) (l.idxOf w:Int)).1)
    rw [zpR,if_neg (by omega),if_pos (by rw [hpW];exact zsq hq),hpW,ha] at c3
    generalize (zeV (zS m l) (l.idxOf w:Int)).1=q at c2 c3 hq hw2
    have hln:(ptL l.length q).length=l.length:=zbU
    (repeat' ((conv=>whnf);first|refine vA ?_|refine vH ?_|(refine vF ?_ ?_<;>intro hc<;>try simp only [vL] at hc)|refine vJ fun hg=>?_|refine vT ?_|(refine vP ?_ ?_;·first|omega|(simp only [vM] at *;omega))|(refine vU ?_ ?_;·kernel_rfl)|refine yD cc ⟨⟨rfl,rfl⟩,rfl⟩ rfl ?_|refine yN cg ⟨⟨rfl,rfl⟩,⟨rfl,rfl⟩,rfl⟩ ?_|refine yN cr ⟨⟨rfl,rfl⟩,⟨rfl,rfl⟩,rfl⟩ ?_|refine yN c1 ⟨⟨rfl,rfl⟩,⟨rfl,rfl⟩,rfl⟩ ?_|refine yD ci ⟨⟨rfl,rfl⟩,⟨rfl,rfl⟩,rfl⟩ rfl ?_|refine yN c2 ⟨⟨rfl,rfl⟩,⟨rfl,rfl⟩,rfl⟩ ?_|refine yN c3 ⟨⟨rfl,rfl⟩,⟨rfl,rfl⟩,rfl⟩ ?_));all_goals try conv=>whnf
    ·exfalso;omega
    ·exfalso;rw [hpI] at *;omega
    refine zy (fun ((k,zs):Nat×List D)=>[(4,.ptr 0 0),(11,.d (dN l)),(17,.ptr 1 0),(19,.own 2),(78,.d (dI (ptL l.length q))),(79,.d (.int .i64 (((ptL l.length q).map (D.int .i64)).length:Int))),(80,.d (.int .i64 ((k:Int))))]) (fun ((k,zs):Nat×List D)=>[(0,some (.box [.d (.int .i64 0),.nils 1,.nils 1])),(1,some (zco (zS m (zd0 m w)))),(2,some (.row 1 zs))]) 3 (fun ((k,zs):Nat×List D)=>k≤l.length∧zs=(List.range l.length).map fun i=>D.int .i64 (if zcB l.length q i < k then (l.getD (zcB l.length q i) 0:Int) else 0)) (fun ((k,zs):Nat×List D)=>l.length - k) ((0,List.replicate ((((ptL l.length q).map (D.int .i64)).length:Int)).toNat (D.int .i64 0))) [(0,1),(1,3),(2,4)] [] (⟨by omega,by simp only [Nat.not_lt_zero,if_false];rw [List.length_map,zbU,Int.toNat_natCast];exact zay _ _⟩) (by (refine ⟨rfl,rfl,rfl,?_,?_⟩;repeat' first|exact trivial|exact rfl|refine And.intro ?_ ?_|refine ⟨_,rfl,?_⟩|decide)) ?_
    rintro ⟨k,zs⟩ ⟨hk,hz⟩
    subst hz
    by_cases hkl:k < l.length
    ·have e1:=zbp (q:=q) hkl
     have e2:=znK hkl
     have er:(List.range l.length)[q k]? = some (q k):=List.getElem?_range (hq.lt k hkl)
     have hqk:=hq.lt k hkl
     (repeat' ((conv=>whnf);first|refine vA ?_|(refine vF ?_ ?_<;>intro hc<;>try simp only [vL] at hc)|refine vT ?_|refine vN ‹_› ?_|((first|refine vO ?_ ?_|refine vP ?_ ?_);·first|omega|(simp only [vM] at *;omega))|fail));all_goals try conv=>whnf
     ·refine ⟨(k+1,_),[(0,0),(1,1),(2,2)],[],?_,?_,by (refine ⟨rfl,rfl,rfl,?_,?_⟩;repeat' first|exact trivial|exact rfl|refine And.intro ?_ ?_|refine ⟨_,rfl,?_⟩|decide)⟩
      ·refine ⟨by omega,(zdV _).trans (zL fun u hu=>?_)⟩
       show (if u=q k then _ else _)=_
       by_cases e:u=q k
       ·subst e
        rw [if_pos rfl,zh6 hq hkl,if_pos (by omega)]
       ·rw [if_neg e]
        have hne:zcB l.length q u≠k:=fun e'=>e (by rw [← e'];exact (zey hq hu).2.symm)
        by_cases e2:zcB l.length q u < k
        ·rw [if_pos e2,if_pos (by omega)]
        ·rw [if_neg e2,if_neg (by omega)]
      ·((simp only [vM] at *;omega))
     all_goals (exfalso;omega)
    ·(repeat' ((conv=>whnf);first|refine vA ?_|(refine vF ?_ ?_<;>intro hc<;>try simp only [vL] at hc)|refine vT ?_|(refine vQ ?_ fun x hx=>?_;·omega)|((first|refine vO ?_ ?_|refine vP ?_ ?_);·omega)|fail));all_goals try conv=>whnf
     all_goals try (exfalso;omega)
     have e0:k=l.length:=by omega
     refine congrArg (fun x=>some (D.tup [dKM (zS m (zd0 m w)),D.arr 1 x,D.int .i64 0])) ?_
     rw [hw2,List.map_map,List.map_map]
     exact zL fun u hu=>by rw [if_pos (by rw [e0];exact (zey hq hu).1)];rfl
 ·refine zb zn zea (by show 2≤95;decide) ?_
  (repeat' ((conv=>whnf);first|refine vA ?_|((first|refine vD ?_ ?_|refine vF ?_ ?_)<;>intro hc<;>try simp only [vL] at hc)|refine vT ?_|(refine vP ?_ ?_;·omega)|refine yD cc ⟨⟨rfl,rfl⟩,rfl⟩ rfl ?_));all_goals try conv=>whnf
  ·rw [zgL,if_pos hk0];rfl
  all_goals exact absurd ‹za m=0› hk0
end Go.Ab
namespace Go.Ab
open Go Go.Proofs
set_option maxRecDepth 10000
set_option maxHeartbeats 4000000
variable {T:Nat→Obj→Prop}
theorem zE2 {x y:BitVec 64} {u w:Nat} : x >>> u&&&1#64=y >>> w&&&1#64↔x.getLsbD u=y.getLsbD w:=by
 cases hx:x.getLsbD u<;>cases hy:y.getLsbD w
 ·rw [(zfE _ _).2 hx,(zfE _ _).2 hy];simp
 ·rw [(zfE _ _).2 hx,(zcS _ _).2 hy];decide
 ·rw [(zcS _ _).2 hx,(zfE _ _).2 hy];decide
 ·rw [(zcS _ _).2 hx,(zcS _ _).2 hy];simp
structure zp7 (to:List Int) (n k:Nat) (s:BitVec 64):Prop where
 le:k≤to.length
 rng : ∀ x∈to.take k,0≤x∧x < n
 nd:(to.take k).Nodup
 bit : ∀ x:Nat,x < 64→(s.getLsbD x=true↔(x:Int)∈to.take k)
theorem zp7.next {to:List Int} {n k:Nat} (h64:n≤64) {s:BitVec 64} (h:zp7 to n k s) {x:Nat} (hx:to[k]? = some (x:Int)) (hx1:x < n) (hx2:s.getLsbD x=false):zp7 to n (k+1) (s|||1#64 <<< x):=by
 have hkl:=(List.getElem?_eq_some_iff.1 hx).1
 have hn:(x:Int) ∉ to.take k:=fun hm=>by rw [(h.bit x (by omega)).2 hm] at hx2;cases hx2
 have ht:to.take (k+1)=to.take k++[(x:Int)]:=by rw [List.take_add_one,hx];rfl
 refine ⟨by omega,fun y hy=>?_,?_,fun y hy=>?_⟩
 ·rw [ht] at hy
  rcases List.mem_append.1 hy with hy|hy
  ·exact h.rng y hy
  ·simp only [List.mem_singleton] at hy;omega
 ·rw [ht]
  refine List.nodup_append.2 ⟨h.nd,by simp,fun a ha b hb e=>?_⟩
  simp only [List.mem_singleton] at hb
  subst hb;subst e;exact hn ha
 ·rw [ht,zlu (by omega),h.bit y hy,List.mem_append,List.mem_singleton]
  exact ⟨fun h=>h.elim .inl fun e => .inr (by omega),fun h=>h.elim .inl fun e => .inr (by omega)⟩
theorem zp7.bad {to:List Int} {n k:Nat} {s:BitVec 64} (h:zp7 to n k s) (h64:n≤64) {x:Int} (hx:to[k]? = some x) (hb:x < 0∨(n:Int)≤x∨s.getLsbD x.toNat=true):zdN to n=false:=by
 rw [← Bool.not_eq_true]
 intro hp
 obtain ⟨h1,h2,h3⟩:=zeX.1 hp
 have hr:=h2 x (List.mem_of_getElem? hx)
 rcases hb with hb|hb|hb
 ·omega
 ·omega
 ·have hm:=(h.bit x.toNat (by omega)).1 hb
  rw [show ((x.toNat:Nat):Int)=x by omega] at hm
  obtain ⟨j,hj⟩:=List.getElem?_of_mem hm
  rw [List.getElem?_take] at hj
  split at hj
  ·rename_i hlt
   obtain ⟨a,a'⟩:=List.getElem?_eq_some_iff.1 hj
   obtain ⟨c,c'⟩:=List.getElem?_eq_some_iff.1 hx
   have:=(List.getElem_inj h3).1 (a'.trans c'.symm)
   omega
  ·cases hj
end Go.Ab
namespace Go.Ab
open Go Go.Proofs
set_option maxRecDepth 10000
set_option maxHeartbeats 4000000
def zlg:List D→Option (List Int)
 | []=>some []
 | .int .i64 n::r=>match zlg r with
  | some l=>some (n::l)
  | none=>none
 | _=>none
theorem zpu : ∀ {ds:List D} {l:List Int},zlg ds=some l→ds=l.map (D.int .i64)
 | [],l,h=>by cases h;rfl
 | .int .i64 n::r,l,h=>by
  unfold zlg at h
  split at h
  ·rename_i l' h';cases h;rw [zpu h'];rfl
  ·cases h
def zi0:List D→Option (List (BitVec 64))
 | []=>some []
 | .u64 n::r=>match zi0 r with
  | some l=>some (n::l)
  | none=>none
 | _=>none
theorem zno : ∀ {ds:List D} {l:List (BitVec 64)},zi0 ds=some l→ds=l.map D.u64
 | [],l,h=>by cases h;rfl
 | .u64 n::r,l,h=>by
  unfold zi0 at h
  split at h
  ·rename_i l' h';cases h;rw [zno h'];rfl
  ·cases h
def zki:List D→Option (List (List Int))
 | []=>some []
 | .arr 1 x::r=>match zlg x with
  | some a=>match zki r with
   | some l=>some (a::l)
   | none=>none
  | none=>none
 | _=>none
theorem zm1 : ∀ {ds:List D} {l:List (List Int)},zki ds=some l→ds=l.map dI
 | [],l,h=>by cases h;rfl
 | .arr 1 x::r,l,h=>by
  replace h:(match zlg x with
   | some a=>match zki r with
    | some l=>some (a::l)
    | none=>none
   | none=>none)=some l:=h
  cases h1:zlg x with
  | none=>rw [h1] at h;cases h
  | some a =>
   cases h2:zki r with
   | none=>rw [h1,h2] at h;cases h
   | some l'=>rw [h1,h2] at h;cases h;rw [zm1 h2,zpu h1];rfl
def zrk:List D→Option (List (List (BitVec 64)))
 | []=>some []
 | .arr 1 x::r=>match zi0 x with
  | some a=>match zrk r with
   | some l=>some (a::l)
   | none=>none
  | none=>none
 | _=>none
theorem zvA : ∀ {ds:List D} {l:List (List (BitVec 64))},zrk ds=some l→ds=l.map dU
 | [],l,h=>by cases h;rfl
 | .arr 1 x::r,l,h=>by
  replace h:(match zi0 x with
   | some a=>match zrk r with
    | some l=>some (a::l)
    | none=>none
   | none=>none)=some l:=h
  cases h1:zi0 x with
  | none=>rw [h1] at h;cases h
  | some a =>
   cases h2:zrk r with
   | none=>rw [h1,h2] at h;cases h
   | some l'=>rw [h1,h2] at h;cases h;rw [zvA h2,zno h1];rfl
def zsn:D→Option KM
 | .agg [.int .i64 W,.arr 1 v,.arr 1 r]=>match zi0 v,zrk r with
  | some v,some r=>some ⟨W,v,r⟩
  | _,_=>none
 | _=>none
theorem znH {d:D} {m:KM} (h:zsn d=some m):d=dKM m:=by
 unfold zsn at h
 split at h
 ·split at h
  ·rename_i h1 h2;cases h;rw [zno h1,zvA h2]
  ·cases h
 ·cases h
def zyo (t:Tup):Bool:=Nat.ble t.length 1000&&t.all fun r=>Nat.ble r.length 1000
theorem zDw {t:Tup} (h:zyo t=true):Sml t:=by
 unfold zyo at h
 rw [Bool.and_eq_true,Nat.ble_eq] at h
 exact ⟨h.1,fun r hr=>by have:=List.all_eq_true.1 h.2 r hr;rwa [Nat.ble_eq] at this⟩
variable {T:Nat→Obj→Prop}
end Go.Ab
namespace Go.Ab
open Go Go.Proofs
set_option maxRecDepth 10000
set_option maxHeartbeats 4000000
variable {T:Nat→Obj→Prop}
def zhg (a b:List Int) (v w:Nat):Bool:=decide (at0 a v=at0 a w∧at0 b v=at0 b w)
end Go.Ab
namespace Go.Ab
open Go Go.Proofs
set_option maxRecDepth 10000
set_option maxHeartbeats 4000000
variable {T:Nat→Obj→Prop}
def pOk (p:List Int) (i:Nat):Bool:=decide (0≤at0 p i∧at0 p i≤i∧at0 p (at0 p i).toNat=at0 p i)
def zcj (p:List Int):Int:=if 64 < p.length then 8 else if (List.range p.length).all (pOk p)=true then 0 else 3
theorem zw3 {p:List Int} {k:Nat} (hk:k < p.length) (h:pOk p k=false) : ¬(List.range p.length).all (pOk p)=true:=fun e=>by
 rw [List.all_eq_true] at e
 rw [e k (List.mem_range.2 hk)] at h;cases h
theorem zvp {p:List Int} (h : ∀ i,i < p.length→pOk p i=true):(List.range p.length).all (pOk p)=true:=List.all_eq_true.2 fun i hi=>h i (List.mem_range.1 hi)
theorem zws {p:List Int} (h:zcj p=0):p.length≤64∧za2 p.length (fun w=>(at0 p w).toNat)∧p=ptL p.length fun w=>(at0 p w).toNat:=by
 unfold zcj at h
 split at h
 ·cases h
 ·rename_i h1
  split at h
  ·rename_i h2
   have h3 : ∀ i,i < p.length→0≤at0 p i∧at0 p i≤i∧at0 p (at0 p i).toNat=at0 p i:=fun i hi=>by
    have:=List.all_eq_true.1 h2 i (List.mem_range.2 hi)
    simpa [pOk] using this
   refine ⟨by omega,⟨fun w hw=>by have:=h3 w hw;show (at0 p w).toNat≤w;omega,fun w hw=>by have:=h3 w hw;show (at0 p (at0 p w).toNat).toNat=_;rw [this.2.2]⟩,?_⟩
   refine List.ext_getElem? fun i=>?_
   by_cases hi:i < p.length
   ·rw [zbp hi,zen hi]
    have:=h3 i hi
    congr 1;omega
   ·rw [List.getElem?_eq_none (by omega),List.getElem?_eq_none (by rw [zbU];omega)]
  ·cases h
theorem zou {n:Nat} {q:Nat→Nat} (hq:za2 n q) (hn:n≤64):zcj (ptL n q)=0:=by
 have hl:(ptL n q).length=n:=zbU
 have ha : ∀ i,i < n→at0 (ptL n q) i=((q i:Nat):Int):=fun i hi=>zdC (zbp hi)
 unfold zcj
 rw [if_neg (by omega),if_pos (zvp fun i hi=>?_)]
 rw [hl] at hi
 have h1:=hq.le i hi
 unfold pOk
 rw [decide_eq_true_eq,ha i hi,Int.toNat_natCast,ha (q i) (by omega),hq.idem i hi]
 exact ⟨by omega,by omega,rfl⟩
theorem zh3 (p:List Int):Fn Tryz.prog T zfn [.d (dI p)] [] (.d (.int .i64 (zcj p))) []:=by
 refine zb zn zom (by show 1≤31;decide) ?_
 (repeat' ((conv=>whnf);first|refine vA ?_|(refine vF ?_ ?_<;>intro hc<;>try simp only [vL] at hc)|refine vJ fun hg=>?_|refine vT ?_|refine vX ?_));all_goals try conv=>whnf
 ·rw [zcj,if_pos (by omega)]
 ·have e0:zcj p=if (List.range p.length).all (pOk p)=true then 0 else 3:=by rw [zcj,if_neg (by omega)]
  refine zal (fun (k:Nat)=>[(0,.d (dI p)),(8,.d (dI p)),(9,.d (.int .i64 ((p.map (D.int .i64)).length:Int))),(10,.d (.int .i64 ((k:Int))))]) (fun (k:Nat)=>k≤p.length ∧ ∀ i,i < k→pOk p i=true) (fun (k:Nat)=>p.length - k) (0) (⟨by simp,fun i hi=>by omega⟩) (by (repeat' first|exact trivial|exact rfl|refine And.intro ?_ ?_)) ?_
  rintro k ⟨hk,hI⟩
  by_cases hkl:k < p.length
  ·have e1:p[k]? = some (at0 p k):=zen hkl
   by_cases hb:0≤at0 p k∧at0 p k≤k
   ·have e2:p[(at0 p k).toNat]? = some (at0 p (at0 p k).toNat):=zen (by omega)
    (repeat' ((conv=>whnf);first|refine vA ?_|((first|refine vD ?_ ?_|refine vF ?_ ?_)<;>intro hc<;>try simp only [vL] at hc)|refine vT ?_|refine vN ‹_› ?_|((first|refine vO ?_ ?_|refine vR ?_ ‹_› ?_);·omega)|refine vX ?_));all_goals try conv=>whnf
    all_goals try omega
    ·rw [e0,if_neg (zw3 hkl (by unfold pOk;rw [decide_eq_false_iff_not];rintro ⟨-,-,h3⟩;exact absurd h3 ‹_›))]
    ·exact ⟨k+1,[],[],⟨by (omega),fun i hi=>by
      by_cases e:i=k
      ·subst e;unfold pOk;rw [decide_eq_true_eq];exact ⟨hb.1,hb.2,by assumption⟩
      ·exact hI i (by omega)⟩,by (omega),by (refine ⟨rfl,rfl,rfl,?_,?_⟩;repeat' first|exact trivial|exact rfl|refine And.intro ?_ ?_)⟩
   ·(repeat' ((conv=>whnf);first|refine vA ?_|((first|refine vD ?_ ?_|refine vF ?_ ?_)<;>intro hc<;>try simp only [vL] at hc)|refine vT ?_|refine vN ‹_› ?_|((first|refine vO ?_ ?_|refine vS ?_ fun x hx=>?_);·omega)|refine vX ?_));all_goals try conv=>whnf
    all_goals try omega
    all_goals exact (by rw [e0,if_neg (zw3 hkl (by unfold pOk;rw [decide_eq_false_iff_not];rintro ⟨h1,h2,-⟩;exact hb ⟨h1,h2⟩))])
  ·(repeat' ((conv=>whnf);first|refine vA ?_|((first|refine vD ?_ ?_|refine vF ?_ ?_)<;>intro hc<;>try simp only [vL] at hc)|refine vT ?_|(refine vQ ?_ fun x hx=>?_;·omega)|((first|refine vO ?_ ?_|refine vS ?_ fun x hx=>?_);·omega)|refine vX ?_));all_goals try conv=>whnf
   all_goals try omega
   rw [e0,if_pos (zvp fun i hi=>hI i (by omega))]
theorem zze {n:Nat} {q:Nat→Nat} (hq:za2 n q) (hn:n≤64):Fn Tryz.prog T zfn [.d (dI (ptL n q))] [] (.d (.int .i64 0)) []:=by
 have:=zh3 (T:=T) (ptL n q)
 rwa [zou hq hn] at this
abbrev pkD (x y:Int):D := .agg [.int .i64 x,.int .i64 y]
def zdL (a b:List Int) (k:Nat) (x y:Int):Option Nat:=(List.range k).find? fun j=>decide (at0 a j=x∧at0 b j=y)
def zl4 (a b:List Int) (k:Nat) (es:List (D×D)):Prop := ∀ x y,zt es (pkD x y)=some ((zdL a b k x y).map fun (j:Nat)=>D.int .i64 (j:Int))
theorem zgq (k:D) (l:List (D×D)) : ∀ es:List (D×D),zt es k=some none→zt (es++l) k=zt l k
 | [],_=>rfl
 | (a,v)::r,h=>by
  simp only [zt] at h
  show zt ((a,v)::(r++l)) k=_
  simp only [zt]
  split at h
  ·cases h
  ·exact zgq k l r h
  ·cases h
theorem zoA (k:D) (l:List (D×D)) : ∀ (es:List (D×D)) (x:D),zt es k=some (some x)→zt (es++l) k=some (some x)
 | [],_,h=>by cases h
 | (a,v)::r,x,h=>by
  simp only [zt] at h
  show zt ((a,v)::(r++l)) k=_
  simp only [zt]
  split at h
  ·exact h
  ·exact zoA k l r x h
  ·cases h
theorem zzP (x y x' y':Int):D.eqk (pkD x y) (pkD x' y')=some (decide (x=x')&&(decide (y=y')&&true)):=rfl
theorem zmG (a b:List Int) (k:Nat) (x y:Int):zdL a b (k+1) x y=match zdL a b k x y with
  | some j=>some j
  | none=>if at0 a k=x∧at0 b k=y then some k else none:=by
 unfold zdL
 rw [List.range_succ,List.find?_append]
 cases h:(List.range k).find? fun j=>decide (at0 a j=x∧at0 b j=y) with
 | some j=>rfl
 | none =>
  show (none:Option Nat).or _=_
  rw [Option.none_or]
  simp only [List.find?]
  by_cases e:at0 a k=x∧at0 b k=y
  ·rw [if_pos e,decide_eq_true e]
  ·rw [if_neg e,decide_eq_false e]
theorem zv8 {a b:List Int} {k j:Nat} {es:List (D×D)} (h:zl4 a b k es) (hf:zdL a b k (at0 a k) (at0 b k)=some j):zl4 a b (k+1) es:=by
 intro x y
 rw [h x y,zmG]
 cases e:zdL a b k x y with
 | some i=>rfl
 | none =>
  show _=some (Option.map _ (if at0 a k=x∧at0 b k=y then some k else none))
  rw [if_neg]
  rintro ⟨rfl,rfl⟩;rw [hf] at e;cases e
theorem zxM {a b:List Int} {k:Nat} {es:List (D×D)} (h:zl4 a b k es) (hf:zdL a b k (at0 a k) (at0 b k)=none):zl4 a b (k+1) (es++[(pkD (at0 a k) (at0 b k),.int .i64 (k:Int))]):=by
 intro x y
 rw [zmG]
 cases e:zdL a b k x y with
 | some i=>exact zoA _ _ _ _ (by rw [h x y,e];rfl)
 | none =>
  rw [zgq _ _ _ (by rw [h x y,e];rfl)]
  show _=some (Option.map _ (if at0 a k=x∧at0 b k=y then some k else none))
  simp only [zt,zzP]
  by_cases e1:at0 a k=x∧at0 b k=y
  ·obtain ⟨rfl,rfl⟩:=e1
   simp
  ·rw [if_neg e1]
   by_cases e2:x=at0 a k
   ·have e3 : ¬ y=at0 b k:=fun e3=>e1 ⟨e2.symm,e3.symm⟩
    simp [e2,e3]
   ·simp [e2]
theorem zs4 (a b:List Int) (k:Nat):zac (zhg a b) k=(zdL a b k (at0 a k) (at0 b k)).getD k:=rfl
theorem zxc {e:Nat→Nat→Bool} {n k j:Nat} (h:zac e k=j):(((List.range n).map fun i=>D.int .i64 (if i < k then (zac e i:Int) else 0)).set k (D.int .i64 (j:Int)))=(List.range n).map fun i=>D.int .i64 (if i < k+1 then (zac e i:Int) else 0):=by
 refine (zdV _).trans (zL fun u hu=>?_)
 by_cases e1:u=k
 ·subst e1;rw [if_pos rfl,if_pos (by omega),h]
 ·rw [if_neg e1]
  by_cases e2:u < k
  ·rw [if_pos e2,if_pos (by omega)]
  ·rw [if_neg e2,if_neg (by omega)]
theorem zy9 (a b:List Int) (hl:b.length=a.length) (hn:a.length≤64):Fn Tryz.prog T zhq [.d (dI a),.d (dI b)] [] (.d (dI (ptL a.length (zac (zhg a b))))) []:=by
 refine zb zn zmX (by show 2≤48;decide) ?_
 (repeat' ((conv=>whnf);first|refine vA ?_|refine vJ fun hg=>?_|refine vT ?_|(refine vP ?_ ?_;·(simp only [vM] at *;omega))|fail));all_goals try conv=>whnf
 refine zy (fun ((k,es,zs):Nat×List (D×D)×List D)=>[(0,.d (dI a)),(1,.d (dI b)),(5,.map 0),(6,.own 1),(16,.d (.int .i64 ((a.map (D.int .i64)).length:Int))),(17,.d (.int .i64 ((k:Int))))]) (fun ((k,es,zs):Nat×List (D×D)×List D)=>[(0,some (.map es)),(1,some (.row 1 zs))]) 2 (fun ((k,es,zs):Nat×List (D×D)×List D)=>k≤a.length∧zl4 a b k es∧zs=(List.range a.length).map fun i=>D.int .i64 (if i < k then (zac (zhg a b) i:Int) else 0)) (fun ((k,es,zs):Nat×List (D×D)×List D)=>a.length - k) ((0,[],List.replicate (((a.map (D.int .i64)).length:Int)).toNat (D.int .i64 0))) [(0,0),(1,1)] [] (⟨by simp,fun x y=>by simp [zt,zdL],by simp only [Nat.not_lt_zero,if_false];rw [List.length_map,Int.toNat_natCast];exact zay _ _⟩) (by (refine ⟨rfl,rfl,rfl,?_,?_⟩;repeat' first|exact trivial|exact rfl|refine And.intro ?_ ?_|refine ⟨_,rfl,?_⟩|decide)) ?_
 rintro ⟨k,es,zs⟩ ⟨hk,hM,rfl⟩
 by_cases hkl:k < a.length
 ·obtain ⟨x,e1⟩ : ∃ x,a[k]? = some x:=⟨_,List.getElem?_eq_getElem hkl⟩
  obtain ⟨y,e2⟩ : ∃ y,b[k]? = some y:=⟨_,List.getElem?_eq_getElem (by omega)⟩
  have f1:at0 a k=x:=zdC e1
  have f2:at0 b k=y:=zdC e2
  cases hf:zdL a b k x y with
  | some j =>
   have hfd:zt es (pkD x y)=some (some (.int .i64 (j:Int))):=by rw [hM x y,hf];rfl
   (repeat' ((conv=>whnf);first|refine vA ?_|refine vE ?_|refine vG ?_|(refine vF ?_ ?_<;>intro hc<;>try simp only [vL] at hc)|refine vT ?_|refine vN ‹_› ?_|((first|refine vO ?_ ?_|refine vP ?_ ?_);·first|omega|(simp only [vM] at *;omega))|(refine vU ?_ ?_;·kernel_rfl)|refine zaX.mk _ ‹_› ?_));all_goals try conv=>whnf
   ·have hlo:zac (zhg a b) k=j:=by rw [zs4,f1,f2,hf];rfl
    refine ⟨(k+1,es,_),[(0,0),(1,1)],[],?_,?_,by (refine ⟨rfl,rfl,rfl,?_,?_⟩;repeat' first|exact trivial|exact rfl|refine And.intro ?_ ?_|refine ⟨_,rfl,?_⟩|decide)⟩
    ·exact ⟨by (omega),zv8 hM (by rw [f1,f2];exact hf),zxc hlo⟩
    ·((simp only [vM] at *;omega))
   all_goals omega
  | none =>
   have hfd:zt es (pkD x y)=some none:=by rw [hM x y,hf];rfl
   have hfn:zt (es++[(pkD x y,.int .i64 (k:Int))]) (pkD x y)=some (some (.int .i64 (k:Int))):=by rw [zgq _ _ _ hfd];simp [zt,zzP]
   (repeat' ((conv=>whnf);first|refine vA ?_|(refine vF ?_ ?_<;>intro hc<;>try simp only [vL] at hc)|refine vT ?_|refine vN ‹_› ?_|((first|refine vO ?_ ?_|refine vP ?_ ?_);·first|omega|(simp only [vM] at *;omega))|(refine vU ?_ ?_;·kernel_rfl)|refine zaX.mk _ ‹_› ?_));all_goals try conv=>whnf
   ·have hlo:zac (zhg a b) k=k:=by rw [zs4,f1,f2,hf];rfl
    refine ⟨(k+1,_,_),[(0,0),(1,1)],[],?_,?_,by (refine ⟨rfl,rfl,rfl,?_,?_⟩;repeat' first|exact trivial|exact rfl|refine And.intro ?_ ?_|refine ⟨_,rfl,?_⟩|decide)⟩
    ·exact ⟨by (omega),by subst f1 f2;exact zxM hM hf,zxc hlo⟩
    ·((simp only [vM] at *;omega))
   all_goals omega
 ·(repeat' ((conv=>whnf);first|refine vA ?_|(refine vF ?_ ?_<;>intro hc<;>try simp only [vL] at hc)|refine vT ?_|(refine vQ ?_ fun x hx=>?_;·omega)|(refine vU ?_ ?_;·kernel_rfl)|fail));all_goals try conv=>whnf
  ·omega
  ·have e0:k=a.length:=by omega
   subst e0
   refine congrArg (fun l=>some (D.arr 1 l)) ?_
   unfold ptL
   rw [List.map_map]
   exact zL fun u hu=>by rw [if_pos hu];rfl
theorem zuP {n:Nat} {q:Nat→Nat} (hq:za2 n q) (hn:n≤64) (keys:List Int) (hl:keys.length=n):Fn Tryz.prog T zdv [.d (dI (ptL n q)),.d (dI keys)] [] (.d (.tup [dI (ptL n (zac (zhg (ptL n q) keys))),.int .i64 0])) []:=by
 have hp:=zbU (n:=n) (q:=q)
 have cd:=zy9 (T:=T) (ptL n q) keys (by omega) (by omega)
 rw [hp] at cd
 refine zb zn zon (by show 2≤20;decide) ?_
 (repeat' ((conv=>whnf);first|refine vA ?_|refine vH ?_|(refine vD ?_ ?_<;>intro hc<;>try simp only [vL] at hc)|refine vJ fun hg=>?_|refine vT ?_|refine yD (zze hq hn) ⟨⟨rfl,rfl⟩,rfl⟩ rfl ?_|refine yN cd ⟨⟨rfl,rfl⟩,⟨rfl,rfl⟩,rfl⟩ ?_));all_goals try conv=>whnf
 ·omega
 ·rfl
end Go.Ab
namespace Go.Ab
open Go Go.Proofs
set_option maxRecDepth 10000
set_option maxHeartbeats 4000000
variable {T:Nat→Obj→Prop}
def zhM (R:List (List (BitVec 64))):List (Nat→BitVec 64):=R.map fun r w=>r.getD w 0#64
end Go.Ab
namespace Go.Ab
def zav (d:Nat):UInt8:=if d < 10 then UInt8.ofNat (48+d) else UInt8.ofNat (87+d)
def zrz (c:UInt8):Nat:=if c.toNat < 58 then c.toNat - 48 else c.toNat - 87
theorem zf7 : ∀ d,d < 16→zrz (zav d)=d∧zav d≠32:=by decide
def zes:Nat→Nat→List UInt8
 | 0,v=>[zav (v % 16)]
 | k+1,v=>if v < 16 then [zav v] else zes k (v / 16)++[zav (v % 16)]
def zrA (l:List UInt8):Nat:=l.foldl (fun a c=>a * 16+zrz c) 0
theorem zlF : ∀ k v,v < 16 ^ (k+1)→zrA (zes k v)=v
 | 0,v,h=>by
  have h:v < 16:=by simpa using h
  show 0 * 16+zrz (zav (v % 16))=v
  rw [Nat.mod_eq_of_lt h,(zf7 v h).1];omega
 | k+1,v,h=>by
  unfold zes
  split
  ·rename_i hv
   show 0 * 16+zrz (zav v)=v
   rw [(zf7 v hv).1];omega
  ·unfold zrA
   rw [List.foldl_append]
   show zrA (zes k (v / 16)) * 16+zrz (zav (v % 16))=v
   rw [zlF k (v / 16) (by rw [Nat.pow_succ] at h;omega),(zf7 _ (Nat.mod_lt _ (by omega))).1]
   omega
theorem zkc : ∀ k v,(∀ c,c∈zes k v→c≠32)∧(zes k v).length≤k+1
 | 0,v=>⟨fun c hc=>by simp only [zes,List.mem_singleton] at hc;subst hc;exact (zf7 _ (Nat.mod_lt _ (by omega))).2,by simp [zes]⟩
 | k+1,v=>by
  unfold zes
  split
  ·rename_i hv
   exact ⟨fun c hc=>by simp only [List.mem_singleton] at hc;subst hc;exact (zf7 _ hv).2,by simp⟩
  ·obtain ⟨h1,h2⟩:=zkc k (v / 16)
   refine ⟨fun c hc=>?_,by simp;omega⟩
   rcases List.mem_append.1 hc with hc|hc
   ·exact h1 c hc
   ·simp only [List.mem_singleton] at hc;subst hc;exact (zf7 _ (Nat.mod_lt _ (by omega))).2
def zgQ (x:BitVec 64):List UInt8:=zes 15 x.toNat
theorem zBr {x y:BitVec 64} (h:zgQ x=zgQ y):x=y:=by
 have hx:zrA (zgQ x)=x.toNat:=zlF 15 _ (by have:=x.isLt;simpa using this)
 have hy:zrA (zgQ y)=y.toNat:=zlF 15 _ (by have:=y.isLt;simpa using this)
 exact BitVec.eq_of_toNat_eq (by rw [← hx,← hy,h])
theorem zw4 : ∀ {a b r r':List UInt8},(∀ c,c∈a→c≠32)→(∀ c,c∈b→c≠32)→a++32::r=b++32::r'→a=b∧r=r'
 | [],[],_,_,_,_,h=>⟨rfl,by simpa using h⟩
 | [],y::b,_,_,_,hb,h=>by
  simp only [List.nil_append,List.cons_append,List.cons.injEq] at h
  exact absurd h.1.symm (hb y (by simp))
 | x::a,[],_,_,ha,_,h=>by
  simp only [List.nil_append,List.cons_append,List.cons.injEq] at h
  exact absurd h.1 (ha x (by simp))
 | x::a,y::b,_,_,ha,hb,h=>by
  simp only [List.cons_append,List.cons.injEq] at h
  obtain ⟨rfl,h⟩:=h
  obtain ⟨rfl,h'⟩:=zw4 (fun c hc=>ha c (by simp [hc])) (fun c hc=>hb c (by simp [hc])) h
  exact ⟨rfl,h'⟩
def zgv (xs:List (BitVec 64)):List UInt8:=xs.flatMap fun x=>zgQ x++[32]
theorem zhA (x:BitVec 64) (xs:List (BitVec 64)):zgv (x::xs)=zgQ x++32::zgv xs:=by simp [zgv]
theorem zzz (x:BitVec 64) (xs:List (BitVec 64)):zgv (xs++[x])=zgv xs++(zgQ x++[32]):=by simp [zgv]
theorem zu4 : ∀ {xs ys:List (BitVec 64)},zgv xs=zgv ys→xs=ys
 | [],[],_=>rfl
 | [],y::ys,h=>by rw [zhA] at h;simp [zgv] at h
 | x::xs,[],h=>by rw [zhA] at h;simp [zgv] at h
 | x::xs,y::ys,h=>by
  rw [zhA,zhA] at h
  obtain ⟨h1,h2⟩:=zw4 (zkc _ _).1 (zkc _ _).1 h
  rw [zBr h1,zu4 h2]
theorem zu5 : ∀ xs:List (BitVec 64),(zgv xs).length≤17 * xs.length
 | []=>by simp [zgv]
 | x::xs=>by
  rw [zhA,List.length_append,List.length_cons,List.length_cons]
  have h1:(zgQ x).length≤16:=(zkc 15 x.toNat).2
  have:=zu5 xs
  omega
end Go.Ab
namespace Go.Ab
open Go Go.Proofs
set_option maxRecDepth 10000
set_option maxHeartbeats 4000000
variable {T:Nat→Obj→Prop}
abbrev KS:=List UInt8
def zdO:Nat→List KS→List (D×D)
 | _,[]=>[]
 | i,x::r=>(.str x,.int .i64 (i:Int))::zdO (i+1) r
def znt (dl:List KS) (x:KS):List KS:=if x∈dl then dl else dl++[x]
theorem zpL : ∀ (dl:List KS) (i:Nat),(zdO i dl).length=dl.length
 | [],_=>rfl
 | x::r,i=>by simp [zdO,zpL r (i+1)]
theorem zoP (x:KS) : ∀ (dl:List KS) (i:Nat),zdO i (dl++[x])=zdO i dl++[(.str x,.int .i64 ((i+dl.length:Nat):Int))]
 | [],i=>by simp [zdO]
 | y::r,i=>by
  rw [List.cons_append,zdO,zdO,zoP x r (i+1),List.cons_append,List.length_cons,show i+1+r.length=i+(r.length+1) by omega]
theorem zta (x:KS) : ∀ (dl:List KS) (i:Nat),zt (zdO i dl) (.str x)=some (if x∈dl then some (.int .i64 ((i+dl.idxOf x:Nat):Int)) else none)
 | [],i=>by simp [zdO,zt]
 | y::r,i=>by
  have ih:=zta x r (i+1)
  show (match some (decide (x=y)) with
   | some true=>some (some (D.int .i64 (i:Int)))
   | some false=>zt (zdO (i+1) r) (.str x)
   | none=>none)=_
  by_cases e:x=y
  ·subst e;simp
  ·rw [decide_eq_false e]
   show zt (zdO (i+1) r) (.str x)=_
   rw [ih,List.idxOf_cons]
   have:(y==x)=false:=by simp [Ne.symm e]
   rw [this]
   by_cases hm:x∈r
   ·rw [if_pos hm,if_pos (List.mem_cons_of_mem _ hm)]
    show some (some (D.int .i64 _))=some (some (D.int .i64 _))
    congr 4
    simp only [cond_false]
    omega
   ·rw [if_neg hm,if_neg (by simp [e,hm])]
def zeR (bl:Nat→KS) (k:Nat):List KS:=(List.range k).foldl (fun l w=>znt l (bl w)) []
theorem zhB (bl:Nat→KS) (k:Nat):zeR bl (k+1)=znt (zeR bl k) (bl k):=by
 unfold zeR;rw [List.range_succ,List.foldl_append];rfl
theorem zl9 (l:List KS) (x:KS):(∃ t,znt l x=l++t)∧x∈znt l x∧(znt l x).length≤l.length+1:=by
 unfold znt
 split
 ·rename_i h;exact ⟨⟨[],by simp⟩,h,by omega⟩
 ·exact ⟨⟨[x],rfl⟩,by simp,by simp⟩
theorem zu8 (bl:Nat→KS) : ∀ k,(zeR bl k).length≤k
 | 0=>by simp [zeR]
 | k+1=>by
  rw [zhB]
  have:=(zl9 (zeR bl k) (bl k)).2.2
  have:=zu8 bl k
  omega
theorem zu9 (bl:Nat→KS) {k:Nat} : ∀ m,k≤m → ∃ t,zeR bl m=zeR bl k++t
 | 0,h=>⟨[],by have:k=0:=Nat.le_zero.1 h;subst this;simp⟩
 | m+1,h=>by
  by_cases e:k=m+1
  ·exact ⟨[],by rw [e];simp⟩
  ·obtain ⟨t,ht⟩:=zu9 bl (k:=k) m (by omega)
   obtain ⟨⟨t',ht'⟩,-⟩:=zl9 (zeR bl m) (bl m)
   exact ⟨t++t',by rw [zhB,ht',ht];simp⟩
def zet (bl:Nat→KS) (w:Nat):Nat:=(zeR bl (w+1)).idxOf (bl w)
theorem zwV (bl:Nat→KS) {w m:Nat} (h:w < m):zet bl w=(zeR bl m).idxOf (bl w)∧bl w∈zeR bl m:=by
 obtain ⟨t,ht⟩:=zu9 bl (k:=w+1) m (by omega)
 have hm:bl w∈zeR bl (w+1):=by rw [zhB];exact (zl9 _ _).2.1
 rw [ht]
 exact ⟨by rw [List.idxOf_append,if_pos hm];rfl,List.mem_append_left _ hm⟩
theorem zBv (bl:Nat→KS) {v w n:Nat} (hv:v < n) (hw:w < n):zet bl v=zet bl w↔bl v=bl w:=by
 obtain ⟨h1,m1⟩:=zwV bl hv
 obtain ⟨h2,m2⟩:=zwV bl hw
 rw [h1,h2]
 constructor
 ·intro h
  have g1:=List.getElem_idxOf (List.idxOf_lt_length_of_mem m1)
  have g2:=List.getElem_idxOf (List.idxOf_lt_length_of_mem m2)
  rw [← g1,← g2]
  congr 1
 ·intro h;rw [h]
def zfh (R:List (List (BitVec 64))) (q:Nat→Nat) (n w:Nat):KS:=zgv (R.map fun r=>zaY q (r.getD w 0#64) n)
theorem zAW {R:List (List (BitVec 64))} {q:Nat→Nat} {n v w:Nat} : zfh R q n v=zfh R q n w ↔ ∀ r∈R,zaY q (r.getD v 0#64) n=zaY q (r.getD w 0#64) n:=by
 unfold zfh
 constructor
 ·intro h
  have:=zu4 h
  exact List.map_inj_left.1 this
 ·intro h
  rw [List.map_congr_left h]
theorem zyk {R:List (List (BitVec 64))} {q:Nat→Nat} {n w:Nat} (hw:w < n):zac (zhg (ptL n q) (ptL n (zet (zfh R q n)))) w=zbM n (zhM R) q w:=by
 refine ziP fun v hv=>?_
 have h1:at0 (ptL n q) v=((q v:Nat):Int):=zdC (zbp (by omega))
 have h2:at0 (ptL n q) w=((q w:Nat):Int):=zdC (zbp hw)
 have h3:at0 (ptL n (zet (zfh R q n))) v=((zet (zfh R q n) v:Nat):Int):=zdC (zbp (by omega))
 have h4:at0 (ptL n (zet (zfh R q n))) w=((zet (zfh R q n) w:Nat):Int):=zdC (zbp hw)
 unfold zhg
 rw [h1,h2,h3,h4]
 have e2:=zBv (zfh R q n) (v:=v) (w:=w) (n:=n) (by omega) hw
 rw [zAW] at e2
 rw [Bool.eq_iff_iff,decide_eq_true_eq]
 rw [show (((q v:Nat):Int)=((q w:Nat):Int))↔q v=q w by omega]
 rw [show (((zet (zfh R q n) v:Nat):Int)=((zet (zfh R q n) w:Nat):Int))↔zet (zfh R q n) v=zet (zfh R q n) w by omega,e2]
 unfold zgD zhM
 simp [List.all_eq_true]
def zrJ (q:Nat→Nat) (l:List Nat):BitVec 64:=l.foldl (fun o w=>o|||1#64 <<< q w) 0#64
theorem zyJ {q:Nat→Nat} {l:List Nat} {i w:Nat} (h:l[i]? = some w):zrJ q (l.take (i+1))=zrJ q (l.take i)|||1#64 <<< q w:=by
 rw [List.take_add_one,h];simp [zrJ]
theorem zuf {s:BitVec 64} {n:Nat} (hn:n≤64) (h : ∀ i,s.getLsbD i=true→i < n):zB s=(List.range n).filter fun i=>s.getLsbD i:=by
 unfold zB
 have e:List.range 64=List.range n++(List.range (64 - n)).map (n + ·):=by
  rw [← List.range_add];congr 1;omega
 rw [e,List.filter_append,show ((List.range (64 - n)).map (n + ·)).filter (fun i=>s.getLsbD i)=[] from ?_,List.append_nil]
 rw [List.filter_eq_nil_iff]
 intro a ha
 obtain ⟨b,-,rfl⟩:=List.mem_map.1 ha
 intro h1
 have:=h _ h1
 omega
theorem zyI {q:Nat→Nat} {s:BitVec 64} {n:Nat} (hn:n≤64) (h : ∀ i,s.getLsbD i=true→i < n):zrJ q (zB s)=zaY q s n:=by
 rw [zuf hn h]
 unfold zrJ zaY
 rw [List.foldl_filter]
end Go.Ab
namespace Go.Ab
theorem zfF {q:Nat→Nat} {s:BitVec 64} {j:Nat} : ∀ {k:Nat},(∀ w,w < k→q w < 64)→((zaY q s k).getLsbD j=true ↔ ∃ w,w < k∧s.getLsbD w=true∧q w=j)
 | 0,_=>by simp [zaY]
 | k+1,h=>by
  have ih:=zfF (q:=q) (s:=s) (j:=j) (k:=k) fun w hw=>h w (by omega)
  rw [zhl]
  split
  ·rename_i hs
   rw [zlu (h k (by omega)),ih]
   constructor
   ·rintro (⟨w,h1,h2,h3⟩|rfl)
    ·exact ⟨w,by omega,h2,h3⟩
    ·exact ⟨k,by omega,hs,rfl⟩
   ·rintro ⟨w,h1,h2,h3⟩
    by_cases e:w=k
    ·subst e;exact .inr h3.symm
    ·exact .inl ⟨w,by omega,h2,h3⟩
  ·rename_i hs
   rw [ih]
   constructor
   ·rintro ⟨w,h1,h2,h3⟩;exact ⟨w,by omega,h2,h3⟩
   ·rintro ⟨w,h1,h2,h3⟩
    by_cases e:w=k
    ·subst e;exact absurd h2 hs
    ·exact ⟨w,by omega,h2,h3⟩
def zbJ (m:KM) (q:Nat→Nat):KM :=
 ⟨(zC m.W.toNat q:Nat),m.val.map fun s=>zaZ (fun k=>s.getLsbD ((zbg m.W.toNat q).getD k 0)) (zC m.W.toNat q),
  m.rel.map fun r=>(List.range (zC m.W.toNat q)).map fun i=>zaZ (fun j=>zdQ m.W.toNat q (fun v w=>rb r v w) i j) (zC m.W.toNat q)⟩
def zxo (m:KM) (q:Nat→Nat):Prop := ∀ w,w < m.W.toNat→zF m w=zF m (q w)
theorem zBb {m:KM} {q:Nat→Nat} (h:zxo m q) {w:Nat} (hw:w < m.W.toNat) {s:BitVec 64} (hs:s∈m.val):s.getLsbD w=s.getLsbD (q w):=by
 obtain ⟨i,hi⟩:=List.mem_iff_getElem?.1 hs
 have hil:=(List.getElem?_eq_some_iff.1 hi).1
 have e:zaT m.val w m.val.length=zaT m.val (q w) m.val.length:=Int.ofNat_inj.1 (h w hw)
 have h1:=zhu m.val w (i:=i) m.val.length
 have h2:=zhu m.val (q w) (i:=i) m.val.length
 rw [e] at h1
 rw [show m.val.getD i 0#64=s by simp [List.getD,hi]] at h1 h2
 rw [Bool.eq_iff_iff]
 exact ⟨fun h=>(h2.1 (h1.2 ⟨hil,h⟩)).2,fun h=>(h1.1 (h2.2 ⟨hil,h⟩)).2⟩
section
variable {m:KM} {q:Nat→Nat} (hq:za2 m.W.toNat q) (hn:m.W.toNat≤64)
include hq hn
theorem zwZ {w:Nat} (hw:w < m.W.toNat):zX q w < 64:=by
 have h1:=zg0 hq hw
 have h2:=zdE m.W.toNat q
 omega
theorem zDo (hf:zxo m q) {s:BitVec 64} (hs:s∈m.val):zaY (zX q) s m.W.toNat=zaZ (fun k=>s.getLsbD ((zbg m.W.toNat q).getD k 0)) (zC m.W.toNat q):=by
 have hc:=zdE m.W.toNat q
 refine BitVec.eq_of_getLsbD_eq fun j _=>?_
 rw [Bool.eq_iff_iff,zfF (fun w hw=>zwZ hq hn hw),zcb (by omega)]
 constructor
 ·rintro ⟨w,h1,h2,rfl⟩
  refine ⟨zg0 hq h1,?_⟩
  rw [List.getD,zgZ hq h1]
  show s.getLsbD (q w)=true
  rw [← zBb hf h1 hs];exact h2
 ·rintro ⟨h1,h2⟩
  obtain ⟨u,u1,u2,u3,u4⟩:=zlr hq h1
  rw [List.getD,u1] at h2
  exact ⟨u,u2,h2,u4⟩
def zeE (q:Nat→Nat) (n:Nat) (r:List (BitVec 64)):Nat→Nat→BitVec 64
 | 0,_=>0#64
 | k+1,i=>if zX q k=i then zeE q n r k i|||zaY (zX q) (r.getD k 0#64) n else zeE q n r k i
omit hq hn in
theorem zt7 {n:Nat} {r:List (BitVec 64)} (h64 : ∀ w,w < n→zX q w < 64) {i j:Nat} : ∀ {k:Nat},(zeE q n r k i).getLsbD j=true ↔ ∃ v w,v < k∧w < n∧zX q v=i∧zX q w=j∧rb r v w=true
 | 0=>by simp [zeE]
 | k+1=>by
  have ih:=zt7 (r:=r) h64 (i:=i) (j:=j) (k:=k)
  unfold zeE
  split
  ·rename_i he
   rw [BitVec.getLsbD_or,Bool.or_eq_true,ih,zfF h64]
   constructor
   ·rintro (⟨v,w,h1,h2,h3,h4,h5⟩|⟨w,h1,h2,h3⟩)
    ·exact ⟨v,w,by omega,h2,h3,h4,h5⟩
    ·exact ⟨k,w,by omega,h1,he,h3,h2⟩
   ·rintro ⟨v,w,h1,h2,h3,h4,h5⟩
    by_cases e:v=k
    ·subst e;exact .inr ⟨w,h2,h5,h4⟩
    ·exact .inl ⟨v,w,by omega,h2,h3,h4,h5⟩
  ·rename_i he
   rw [ih]
   constructor
   ·rintro ⟨v,w,h1,h2,h3,h4,h5⟩;exact ⟨v,w,by omega,h2,h3,h4,h5⟩
   ·rintro ⟨v,w,h1,h2,h3,h4,h5⟩
    by_cases e:v=k
    ·subst e;exact absurd h3 he
    ·exact ⟨v,w,by omega,h2,h3,h4,h5⟩
theorem zDn (r:List (BitVec 64)) (i:Nat):zeE q m.W.toNat r m.W.toNat i=zaZ (fun j=>zdQ m.W.toNat q (fun v w=>rb r v w) i j) (zC m.W.toNat q):=by
 have hc:=zdE m.W.toNat q
 refine BitVec.eq_of_getLsbD_eq fun j _=>?_
 rw [Bool.eq_iff_iff,zt7 (fun w hw=>zwZ hq hn hw),zcb (by omega),ziT]
 constructor
 ·rintro ⟨v,w,h1,h2,h3,h4,h5⟩
  exact ⟨by rw [← h4];exact zg0 hq h2,v,w,h1,h2,h3,h4,h5⟩
 ·rintro ⟨-,v,w,h1,h2,h3,h4,h5⟩
  exact ⟨v,w,h1,h2,h3,h4,h5⟩
end
theorem zA1 {n:Nat} {q:Nat→Nat} (hq:za2 n q) (hn:0 < n):0 < zC n q:=by
 unfold zC
 have h0:q 0=0:=by have:=hq.le 0 hn;omega
 exact List.length_pos_of_mem (List.mem_filter.2 ⟨List.mem_range.2 hn,by simp [h0]⟩)
theorem zBR {m:KM} {q:Nat→Nat} (hm:zdX m) (hq:za2 m.W.toNat q):zdX (zbJ m q):=by
 have w1:=hm.w1
 have w2:=hm.w2
 have hc:=zdE m.W.toNat q
 have hp:=zA1 hq (by omega)
 have hset : ∀ f,bad (zC m.W.toNat q:Nat) (zaZ f (zC m.W.toNat q))=false:=fun f=>by
  rw [zfV (by omega)]
  intro i hi
  have:=((zcb (by omega)).1 hi).1
  omega
 refine ⟨by show (1:Int)≤(zC m.W.toNat q:Nat);omega,by show ((zC m.W.toNat q:Nat):Int)≤64;omega,by have:=hm.n4;simpa [zbJ] using this,by have:=hm.v8;simpa [zbJ] using this,fun r hr=>?_,fun s hs=>?_,fun r hr s hs=>?_⟩
 ·obtain ⟨r',-,rfl⟩:=List.mem_map.1 hr;simp [zbJ]
 ·obtain ⟨s',-,rfl⟩:=List.mem_map.1 hs;exact hset _
 ·obtain ⟨r',-,rfl⟩:=List.mem_map.1 hr
  obtain ⟨i,-,rfl⟩:=List.mem_map.1 hs
  exact hset _
theorem zzU {m:KM} {q:Nat→Nat} (hc:za m=0) (hq:za2 m.W.toNat q):za (zbJ m q)=0:=zqS (zBR (zx hc) hq)
theorem zDm {m:KM} {q:Nat→Nat} (hn:m.W.toNat≤64) {i:Nat} {r r':Nat→Nat→Bool} (h:(zi (zbJ m q))[i]? = some r) (h':((zi m).map (zdQ m.W.toNat q))[i]? = some r') {v w:Nat} (hv:v < zC m.W.toNat q) (hw:w < zC m.W.toNat q):r v w=r' v w:=by
 have hc:=zdE m.W.toNat q
 unfold zi zbJ at h
 unfold zi at h'
 rw [List.map_map,List.getElem?_map,Option.map_eq_some_iff] at h
 rw [List.map_map,List.getElem?_map,Option.map_eq_some_iff] at h'
 obtain ⟨a,ha,rfl⟩:=h
 obtain ⟨b,hb,rfl⟩:=h'
 rw [ha] at hb;cases hb
 show (((List.range (zC m.W.toNat q)).map fun i=>zaZ (fun j=>zdQ m.W.toNat q (fun v w=>rb a v w) i j) (zC m.W.toNat q)).getD v 0#64).getLsbD w=zdQ m.W.toNat q (fun v w=>rb a v w) v w
 rw [show ((List.range (zC m.W.toNat q)).map fun i=>zaZ (fun j=>zdQ m.W.toNat q (fun v w=>rb a v w) i j) (zC m.W.toNat q)).getD v 0#64=zaZ (fun j=>zdQ m.W.toNat q (fun v w=>rb a v w) v j) (zC m.W.toNat q) by simp [List.getD,hv]]
 rw [Bool.eq_iff_iff,zcb (by omega)]
 exact ⟨fun h=>h.2,fun h=>⟨hw,h⟩⟩
theorem zsN (vl:List (BitVec 64)) {f:BitVec 64→BitVec 64} {i u:Nat} (h : ∀ s∈vl,(f s).getLsbD i=s.getLsbD u) : ∀ k,zaT (vl.map f) i k=zaT vl u k
 | 0=>rfl
 | k+1=>by
  rw [zaT,zaT,zsN vl h k]
  have e:((vl.map f).getD k 0#64).getLsbD i=(vl.getD k 0#64).getLsbD u:=by
   simp only [List.getD,List.getElem?_map]
   cases hk:vl[k]? with
   | none=>simp
   | some s=>exact h s (List.mem_of_getElem? hk)
  rw [e]
theorem zDl {m:KM} {q:Nat→Nat} (hn:m.W.toNat≤64) {i:Nat} (hi:i < zC m.W.toNat q):zF (zbJ m q) i=ziS m.W.toNat q (zF m) i:=by
 have hc:=zdE m.W.toNat q
 unfold zF ziS zbJ
 rw [List.length_map,zsN m.val (u:=(zbg m.W.toNat q).getD i 0) fun s hs=>?_]
 rw [Bool.eq_iff_iff,zcb (by omega)]
 exact ⟨fun h=>h.2,fun h=>⟨hi,h⟩⟩
def zax (m:KM):Nat→Nat→Nat:=zbZ m.W.toNat (zhM m.rel) (zac (zbB (zF m)))
def cq (m:KM):Nat→Nat:=zax m m.W.toNat
theorem zgC (m:KM) (k:Nat):za2 m.W.toNat (zax m k):=zoM (zeS (zcm (zF m)) m.W.toNat) k
theorem zgM (m:KM):za2 m.W.toNat (cq m):=zgC m _
theorem zpV (m:KM) : ∀ k w,w < m.W.toNat→zF m (zax m k w)=zF m w
 | 0,w,hw=>by
  have:=zpG (zcm (zF m)) w
  show zF m (zac (zbB (zF m)) w)=zF m w
  simpa [zbB] using this
 | k+1,w,hw=>by
  have h1:=zsz (rels:=zhM m.rel) (zgC m k) hw
  have h2:=(zgC m (k+1)).le w hw
  have h3:=zpV m k (zax m (k+1) w) (by omega)
  have h4:=zpV m k w hw
  rw [← h3,← h4]
  exact congrArg (zF m) h1
theorem zut (m:KM):zxo m (cq m):=fun w hw=>(zpV m _ w hw).symm
theorem zyR (m:KM) (hn:0 < m.W.toNat) {j:Nat} (hj:m.W.toNat≤j) {w:Nat} (hw:w < m.W.toNat):zax m j w=cq m w:=zzx (zeS (zcm (zF m)) m.W.toNat) hn hj hw
theorem zwJ {m:KM} {k:Nat} (hn:0 < m.W.toNat) (h:ptL m.W.toNat (zax m (k+1))=ptL m.W.toNat (zax m k)):ptL m.W.toNat (zax m k)=ptL m.W.toNat (cq m):=by
 have hst : ∀ w,w < m.W.toNat→zax m (k+1) w=zax m k w:=fun w hw=>zDk h hw
 refine zju fun w hw=>?_
 by_cases hk:k≤m.W.toNat
 ·exact (zlj (zeS (zcm (zF m)) m.W.toNat) hst _ hk w hw).symm
 ·exact zyR m hn (by omega) hw
theorem zCU {m:KM} {k:Nat} (hn : ∀ i,i < k→ptL m.W.toNat (zax m (i+1))≠ptL m.W.toNat (zax m i)):k≤m.W.toNat:=by
 have h1:=zli (rels:=zhM m.rel) (zeS (zcm (zF m)) m.W.toNat) (k:=k) (fun i hi=>by
  refine Classical.byContradiction fun hne=>hn i hi (zju fun w hw=>?_)
  exact Classical.byContradiction fun hw'=>hne ⟨w,hw,hw'⟩) k (Nat.le_refl _)
 have h2:=zdE m.W.toNat (zbZ m.W.toNat (zhM m.rel) (zac (zbB (zF m))) k)
 omega
end Go.Ab
namespace Go.Ab
theorem zvx {m:KM} {f:Nat→BitVec 64} : f∈zhM m.rel ↔ ∃ r∈m.rel,f=fun w=>r.getD w 0#64:=by
 unfold zhM
 rw [List.mem_map]
 exact ⟨fun ⟨r,a,b⟩=>⟨r,a,b.symm⟩,fun ⟨r,a,b⟩=>⟨r,a,b.symm⟩⟩
theorem zvy {m:KM} {f:Nat→Nat→Bool} : f∈zi m ↔ ∃ r∈m.rel,f=fun v w=>rb r v w:=by
 unfold zi
 rw [List.mem_map]
 exact ⟨fun ⟨r,a,b⟩=>⟨r,a,b.symm⟩,fun ⟨r,a,b⟩=>⟨r,a,b.symm⟩⟩
theorem zuh {n:Nat} {q:Nat→Nat} (hq:za2 n q) (hn:n≤64) {s t:BitVec 64} : zaY q s n=zaY q t n ↔ ∀ x:Nat,(∃ u,u < n∧s.getLsbD u=true∧q u=x) ↔ ∃ u,u < n∧t.getLsbD u=true∧q u=x:=by
 have h64 : ∀ w,w < n→q w < 64:=fun w hw=>by have:=hq.le w hw;omega
 constructor
 ·intro h x
  rw [← zfF h64,← zfF h64,h]
 ·intro h
  refine BitVec.eq_of_getLsbD_eq fun j _=>?_
  rw [Bool.eq_iff_iff,zfF h64,zfF h64]
  exact h j
theorem zvK {m:KM} {q:Nat→Nat} (hq:za2 m.W.toNat q) (hn:m.W.toNat≤64) {v w:Nat} : zgD m.W.toNat (zhM m.rel) q v w=true↔zaf m.W.toNat (zi m) q v=zaf m.W.toNat (zi m) q w:=by
 unfold zgD
 rw [zdU,Bool.and_eq_true,decide_eq_true_eq,List.all_eq_true]
 refine and_congr Iff.rfl ⟨fun h r hr x=>?_,fun h f hf=>?_⟩
 ·obtain ⟨r',hr',rfl⟩:=zvy.1 hr
  have:=h _ (zvx.2 ⟨r',hr',rfl⟩)
  rw [decide_eq_true_eq,zuh hq hn] at this
  exact this x
 ·obtain ⟨r',hr',rfl⟩:=zvx.1 hf
  rw [decide_eq_true_eq,zuh hq hn]
  exact h _ (zvy.2 ⟨r',hr',rfl⟩)
theorem zCT {m:KM} (h0:0 < m.W.toNat) (hn:m.W.toNat≤64):zkK m.W.toNat (zi m) (zF m) (cq m) where
 canon:=zgM m
 stab:=fun v w hv hw e=>by
  have hc:=zgM m
  have h1 : ∀ u,u < m.W.toNat→zbM m.W.toNat (zhM m.rel) (cq m) u=cq m u:=fun u hu=>zyR m h0 (Nat.le_succ _) hu
  refine (zvK hc hn).1 ((zkk (zjv _ _ _)).1 ?_)
  show zbM m.W.toNat (zhM m.rel) (cq m) v=zbM m.W.toNat (zhM m.rel) (cq m) w
  rw [h1 v hv,h1 w hw,e]
 fac:=fun v w hv hw e=>by
  rw [zut m v hv,zut m w hw,e]
theorem znO {m:KM} (hn:m.W.toNat≤64) {Z:Nat→Nat→Prop} (B:zcL m.W.toNat m.W.toNat (zi m) (zi m) (zF m) (zF m) Z) : ∀ (k v w:Nat),Z v w→zax m k v=zax m k w
 | 0,v,w,hz=>zr3.2 (B.fac hz)
 | k+1,v,w,hz=>by
  refine (zkk (zjv _ _ _)).2 ((zvK (zgC m k) hn).2 (zdU.2 ⟨znO hn B k v w hz,fun r hr x=>?_⟩))
  obtain ⟨i,hi⟩:=List.mem_iff_getElem?.1 hr
  constructor
  ·rintro ⟨u,a,b,rfl⟩
   obtain ⟨u',c,d,e⟩:=B.forth hi hi hz a b
   exact ⟨u',c,d,(znO hn B k u u' e).symm⟩
  ·rintro ⟨u,a,b,rfl⟩
   obtain ⟨u',c,d,e⟩:=B.back hi hi hz a b
   exact ⟨u',c,d,znO hn B k u' u e⟩
theorem zDV {m:KM} (h0:0 < m.W.toNat) (hn:m.W.toNat≤64) {w:Nat} (hw:w < m.W.toNat):cq m w=coa m.W.toNat (zi m) (zF m) w:=by
 have S:=zCT h0 hn
 have S':=zd1 m.W.toNat (zi m) (zF m)
 rw [← zkW S.canon hw,← zkW S'.canon hw]
 refine ziP fun v hv=>?_
 unfold zbB
 rw [Bool.eq_iff_iff,decide_eq_true_eq,decide_eq_true_eq]
 exact ⟨fun e=>zjP S.bis ⟨by omega,hw,e⟩,fun e=>znO hn S'.bis _ v w ⟨by omega,hw,e⟩⟩
end Go.Ab
namespace Go.Ab
open Go Go.Proofs
set_option maxRecDepth 10000
set_option maxHeartbeats 4000000
variable {T:Nat→Obj→Prop}
def zf9 (T:Nat→Obj→Prop):Prop := ∀ x:BitVec 64,Fn Tryz.prog T zd8 [.d (.u64 x),.d (.int .i64 16)] [] (.d (.str (zgQ x))) []
theorem zwm (hT:zdf T) (s:BitVec 64):It Tryz.prog T zdt [.ptr 0 0] [.box [.d (.u64 s)]] (zkY s):=by
 refine zzv zn zob rfl (by show 2≤14;decide) fun l=>?_
 (repeat' ((conv=>whnf);refine vT ?_));all_goals try conv=>whnf
 refine zy (fun (s':BitVec 64)=>[(0,.yld l),(1,.ptr 0 0)]) (fun (s':BitVec 64)=>[(0,some (.box [.d (.u64 s')])),(1,some (.todo (some (zkY s'))))]) 2 (fun (s':BitVec 64)=>True) (fun (s':BitVec 64)=>(zB s').length) (s) [(0,0),(1,1)] [] (trivial) (by (refine ⟨rfl,rfl,rfl,?_,?_⟩;repeat' first|exact trivial|exact rfl|refine And.intro ?_ ?_|refine ⟨_,rfl,?_⟩|decide)) ?_
 rintro s' -
 (repeat' ((conv=>whnf);first|refine vA ?_|(refine vD ?_ ?_<;>intro hc)|refine vT ?_|refine yD (hT _) (by (repeat refine ⟨⟨rfl,rfl⟩,?_⟩);rfl) rfl ?_));all_goals try conv=>whnf
 ·have hd:zkY s'=[D.int .i64 (Lib.ctz 64 s'.toNat:Int)]::zkY (s'&&&(s' - 1#64)):=by
   rw [zkY,zg8 s' hc];rfl
  refine ⟨rfl,[.int .i64 (Lib.ctz 64 s'.toNat)],zkY (s'&&&(s' - 1#64)),congrArg (fun l=>some (Ob.todo (some l))) hd,rfl,rfl,rfl,?_,?_⟩
  ·(repeat' ((conv=>whnf);first|refine vE ?_|refine vG ?_|refine vT ?_));all_goals try conv=>whnf
   refine ⟨s'&&&(s' - 1#64),[(0,0),(1,1)],[],trivial,?_,⟨rfl,rfl,rfl,by (repeat' first|exact trivial|exact rfl|refine And.intro ?_ ?_|refine ⟨_,rfl,?_⟩),by (repeat' first|exact trivial|exact rfl|refine And.intro ?_ ?_|refine ⟨_,rfl,?_⟩|decide)⟩⟩
   show (zB (s'&&&(s' - 1#64))).length < (zB s').length
   rw [zg8 s' hc];simp
  ·(repeat' ((conv=>whnf);first|refine vE ?_|refine vH ?_|refine vT ?_));all_goals try conv=>whnf
   right;rfl
 ·left
  have:s'=0#64:=hc
  subst this
  exact congrArg (fun l:List Nat=>some (Ob.todo (some (l.map fun (i:Nat)=>[D.int .i64 (i:Int)])))) zfs
theorem zwc (s:BitVec 64):Fn Tryz.prog T zi9 [.d (.u64 s)] [] (.fn zdt [.ptr 0 0]) [some (.box [.d (.u64 s)])]:=by
 refine zP zn zqX (by show 1≤4;decide) _ (fun e env mem n h=>h) ?_
 (repeat' ((conv=>whnf);refine vT ?_));all_goals try conv=>whnf
 exact ⟨trivial,_,[(0,0)],[],rfl,.inl (by (repeat' first|exact rfl|refine And.intro ?_ ?_|refine ⟨_,rfl,?_⟩)),⟨rfl,rfl,rfl,trivial,by (repeat' first|exact trivial|exact rfl|refine And.intro ?_ ?_|refine ⟨_,rfl,?_⟩|exact of_decide_eq_true rfl)⟩,trivial⟩
theorem zwd (hT:zdf T) {n:Nat} {q:Nat→Nat} (hn:n≤64) (s:BitVec 64) (hs : ∀ i,s.getLsbD i=true→i < n):Fn Tryz.prog T zja [.d (dI (ptL n q)),.d (.u64 s)] [] (.d (.u64 (zaY q s n))) []:=by
 refine zb zn zqY (by show 2≤18;decide) ?_
 (repeat' ((conv=>whnf);first|refine vA ?_|refine vT ?_));all_goals try conv=>whnf
 refine zK.res (zwc s) (by (repeat refine ⟨⟨rfl,rfl⟩,?_⟩);rfl) ?_
 (repeat' ((conv=>whnf);refine vT ?_));all_goals try conv=>whnf
 refine zz2 (zwm hT s) [2] [] (by first|((repeat refine ⟨⟨rfl,rfl⟩,?_⟩);rfl)|(repeat' first|exact rfl|refine And.intro ?_ ?_|refine ⟨_,rfl,?_⟩)) (by (repeat' first|exact rfl|refine And.intro ?_ ?_|refine ⟨_,rfl,?_⟩)) (by rfl) (by rfl) [(2,.ptr 0 0),(5,.ptr 1 0)] (fun (o:BitVec 64)=>[(0,some (.box [.d (dI (ptL n q))])),(1,some (.box [.d (.u64 o)]))]) 2 (fun i (o:BitVec 64)=>o=zrJ q ((zB s).take i)) (0#64) [(0,0),(1,1)] [] (rfl) (by (refine ⟨rfl,rfl,rfl,?_,?_⟩;repeat' first|exact trivial|exact rfl|refine And.intro ?_ ?_|refine ⟨_,rfl,?_⟩|decide)) ?_ ?_
 ·intro i x o hx ho
  obtain ⟨w,hw,rfl,hsw,hw64⟩:=zyS hx
  have hwr:=hs w hsw
  have e1:(ptL n q)[w]? = some ((q w:Nat):Int):=zbp hwr
  refine ⟨rfl,?_⟩
  (repeat' ((conv=>whnf);first|refine vT ?_|refine vN ‹_› ?_|(refine vP ?_ ?_;·omega)|(refine vU ?_ ?_;·kernel_rfl)|fail));all_goals try conv=>whnf
  ·exact ⟨o|||1#64 <<< q w,[(0,0),(1,1)],[],by rw [ho,zyJ hw],by (refine ⟨rfl,rfl,rfl,?_,?_⟩;repeat' first|exact trivial|exact rfl|refine And.intro ?_ ?_|refine ⟨_,rfl,?_⟩|decide)⟩
  all_goals omega
 ·intro o ho
  (repeat' ((conv=>whnf);first|refine vT ?_|refine vY ?_));all_goals try conv=>whnf
  rw [ho,List.length_map,List.take_length,zyI hn hs]
def ze0 (m:KM) (N i:Nat):List (List D):=((List.range (N+1)).drop i).map fun j=>[dI (ptL m.W.toNat (zax m j))]
theorem ztj {m:KM} {N i:Nat} (h:i≤N):ze0 m N i=[dI (ptL m.W.toNat (zax m i))]::ze0 m N (i+1):=by
 unfold ze0
 rw [List.drop_eq_getElem_cons (by simp;omega)];simp
theorem zBX {m:KM} {N i:Nat} (h:N < i):ze0 m N i=[]:=by
 unfold ze0
 rw [List.drop_eq_nil_of_le (by simp;omega)];rfl
def zhd (m:KM):List Int:=(List.range m.W.toNat).map (zF m)
theorem zwO {m:KM} {w:Nat} (h:w < m.W.toNat):(zhd m)[w]? = some (zF m w):=by simp [zhd,h]
theorem zAD (n:Nat):za2 n (fun _=>0):=⟨fun w _=>Nat.zero_le w,fun w _=>rfl⟩
theorem zxK (m:KM) {w:Nat} (hw:w < m.W.toNat):zac (zhg (ptL m.W.toNat fun _=>0) (zhd m)) w=zax m 0 w:=by
 refine ziP fun v hv=>?_
 have h1:at0 (ptL m.W.toNat fun _=>0) v=0:=zdC (zbp (q:=fun _=>0) (by omega))
 have h2:at0 (ptL m.W.toNat fun _=>0) w=0:=zdC (zbp (q:=fun _=>0) hw)
 have h3:at0 (zhd m) v=zF m v:=zdC (zwO (by omega))
 have h4:at0 (zhd m) w=zF m w:=zdC (zwO hw)
 unfold zhg zbB
 rw [h1,h2,h3,h4]
 simp
theorem zzh (m:KM) (h64:m.W.toNat≤64):Fn Tryz.prog T zdv [.d (.arr 1 (List.replicate m.W.toNat (D.int .i64 0))),.d (dI (zhd m))] [] (.d (.tup [dI (ptL m.W.toNat (zax m 0)),.int .i64 0])) []:=by
 have cs:=zuP (T:=T) (zAD m.W.toNat) h64 (zhd m) (by simp [zhd])
 rwa [show dI (ptL m.W.toNat fun _=>0)=D.arr 1 (List.replicate m.W.toNat (D.int .i64 0)) by show D.arr 1 ((ptL m.W.toNat fun _=>0).map (D.int .i64))=_;unfold ptL;rw [List.map_map];exact congrArg _ (zay _ _).symm,zju fun w hw=>zxK m hw] at cs
theorem zza (m:KM) (h64:m.W.toNat≤64) (i:Nat):Fn Tryz.prog T zdv [.d (dI (ptL m.W.toNat (zax m i))),.d (dI (ptL m.W.toNat (zet (zfh m.rel (zax m i) m.W.toNat))))] [] (.d (.tup [dI (ptL m.W.toNat (zax m (i+1))),.int .i64 0])) []:=by
 have cs:=zuP (T:=T) (zgC m i) h64 (ptL m.W.toNat (zet (zfh m.rel (zax m i) m.W.toNat))) zbU
 rwa [zju fun w hw=>zyk hw] at cs
theorem zlC {α:Type} {n w:Nat} {f:Nat→D} {g:Nat→D} {d:D} (hd:d=f w):(((List.range n).map fun u=>if u < w then f u else g u).set w d)=(List.range n).map fun u=>if u < w+1 then f u else g u:=by
 refine (zdV _).trans (zL fun u hu=>?_)
 by_cases e:u=w
 ·subst e;rw [if_pos rfl,if_pos (by omega),hd]
 ·rw [if_neg e]
  by_cases e2:u < w
  ·rw [if_pos e2,if_pos (by omega)]
  ·rw [if_neg e2,if_neg (by omega)]
theorem zzw (hT:zdf T) (hX:zf9 T) {m:KM} (hk0:za m=0) (N:Nat):ItF Tryz.prog T false zd7 [.ptr 0 0,.ptr 1 0] [zco m,.box [.d (dUU m.rel)]] (ze0 m N 0):=by
 have hg0:=zx hk0
 have w1:=hg0.w1
 have w2:=hg0.w2
 have n4:=hg0.n4
 have h64:m.W.toNat≤64:=by omega
 refine zqW zn zpy rfl (by show 3≤93;decide) fun l=>?_
 (repeat' ((conv=>whnf);first|refine vA ?_|refine vK fun hg=>?_|refine vT ?_|(refine vP ?_ ?_;·omega)|fail));all_goals try conv=>whnf
 refine zy (fun ((w,zs):Nat×List D)=>[(0,.yld l),(1,.ptr 0 0),(2,.ptr 1 0),(4,.own 3),(5,.own 4),(22,.d (.int .i64 ((List.replicate m.W.toNat (D.int .i64 0)).length:Int))),(23,.d (.int .i64 ((w:Int))))]) (fun ((w,zs):Nat×List D)=>[(0,some (zco m)),(1,some (.box [.d (dUU m.rel)])),(2,some (.todo (some (ze0 m N 0)))),(3,some (.row 1 (List.replicate m.W.toNat (D.int .i64 0)))),(4,some (.row 1 zs))]) 5 (fun ((w,zs):Nat×List D)=>w≤m.W.toNat∧zs=(List.range m.W.toNat).map fun u=>if u < w then D.int .i64 (zF m u) else D.int .i64 0) (fun ((w,zs):Nat×List D)=>m.W.toNat - w) ((0,List.replicate m.W.toNat (D.int .i64 0))) [(0,0),(1,1),(2,2),(3,3),(4,4)] [] (⟨by simp,by simp only [Nat.not_lt_zero,if_false];exact zay _ _⟩) (by (refine ⟨rfl,rfl,rfl,?_,?_⟩;repeat' first|exact trivial|exact rfl|refine And.intro ?_ ?_|refine ⟨_,rfl,?_⟩|decide)) ?_
 rintro ⟨w,zs⟩ ⟨hw,hz⟩
 have hzl:zs.length=m.W.toNat:=by rw [hz];simp
 by_cases hwl:w < m.W.toNat
 ·have cf:=zhw (T:=T) m (w:Int)
  rw [zr2 hk0 hwl] at cf
  (repeat' ((conv=>whnf);first|refine vA ?_|(refine vF ?_ ?_<;>intro hc<;>try simp only [vL] at hc)|refine vT ?_|((first|refine vO ?_ ?_|refine vP ?_ ?_);·omega)|refine yD cf ⟨⟨rfl,rfl⟩,⟨rfl,rfl⟩,rfl⟩ rfl ?_));all_goals try conv=>whnf
  ·refine ⟨(w+1,_),[(0,0),(1,1),(2,2),(3,3),(4,4)],[],?_,?_,by (refine ⟨rfl,rfl,rfl,?_,?_⟩;repeat' first|exact trivial|exact rfl|refine And.intro ?_ ?_|refine ⟨_,rfl,?_⟩|decide)⟩
   ·exact ⟨by (omega),by rw [hz];exact zlC (α:=Nat) rfl⟩
   ·((simp only [vM] at *;omega))
  all_goals omega
 ·have e0:w=m.W.toNat:=by omega
  obtain rfl:zs=(zhd m).map (D.int .i64):=by
   rw [hz,zhd,List.map_map]
   exact zL fun u hu=>by rw [if_pos (by omega)];rfl
  (repeat' ((conv=>whnf);first|refine vA ?_|(refine vF ?_ ?_<;>intro hc<;>try simp only [vL] at hc)|refine vT ?_|refine yN (zzh m h64) ⟨⟨rfl,rfl⟩,⟨rfl,rfl⟩,rfl⟩ ?_));all_goals try conv=>whnf
  ·omega
  ·refine zy (fun (i:Nat)=>[(0,.yld l),(1,.ptr 0 0),(2,.ptr 1 0),(4,.d (dI (ptL m.W.toNat (zax m i))))]) (fun (i:Nat)=>[(0,some (zco m)),(1,some (.box [.d (dUU m.rel)])),(2,some (.todo (some (ze0 m N i))))]) 3 (fun (i:Nat)=>i≤N) (fun (i:Nat)=>N+1 - i) (0) [(0,0),(1,1),(2,2)] [] (by simp) (by (refine ⟨rfl,rfl,rfl,?_,?_⟩;repeat' first|exact trivial|exact rfl|refine And.intro ?_ ?_|refine ⟨_,rfl,?_⟩|decide)) ?_
   rintro i hi
   have hd:=ztj (m:=m) hi
   (repeat' ((conv=>whnf);first|refine vA ?_|refine vT ?_));all_goals try conv=>whnf
   refine ⟨rfl,[dI (ptL m.W.toNat (zax m i))],ze0 m N (i+1),congrArg (fun l=>some (Ob.todo (some l))) hd,rfl,rfl,rfl,?_,?_⟩
   ·by_cases hiN:i < N
    ·have hne:(false || !(ze0 m N (i+1)).isEmpty)=true:=by rw [ztj (m:=m) (i:=i+1) (by omega)];rfl
     rw [hne]
     (repeat' ((conv=>whnf);first|refine vA ?_|refine vG ?_|refine vK fun hg=>?_|refine vT ?_|(refine vP ?_ ?_;·omega)|fail));all_goals try conv=>whnf
     obtain ⟨bk,hbk⟩ : ∃ bk:Nat→KS,bk=zfh m.rel (zax m i) m.W.toNat:=⟨_,rfl⟩
     refine zy (fun ((w,es,zs):Nat×List (D×D)×List D)=>[(0,.yld l),(1,.ptr 0 0),(2,.ptr 1 0),(4,.d (dI (ptL m.W.toNat (zax m i)))),(7,.map 3),(8,.own 4),(47,.d (.int .i64 ((List.replicate m.W.toNat (D.int .i64 0)).length:Int))),(48,.d (.int .i64 ((w:Int))))]) (fun ((w,es,zs):Nat×List (D×D)×List D)=>[(0,some (zco m)),(1,some (.box [.d (dUU m.rel)])),(2,some (.todo (some (ze0 m N (i+1))))),(3,some (.map es)),(4,some (.row 1 zs))]) 5 (fun ((w,es,zs):Nat×List (D×D)×List D)=>w≤m.W.toNat∧es=zdO 0 (zeR bk w)∧zs=(List.range m.W.toNat).map fun u=>if u < w then D.int .i64 (zet bk u:Int) else D.int .i64 0) (fun ((w,es,zs):Nat×List (D×D)×List D)=>m.W.toNat - w) ((0,[],List.replicate m.W.toNat (D.int .i64 0))) [(0,0),(1,1),(2,2),(3,3),(4,4)] [] (⟨by simp,rfl,by simp only [Nat.not_lt_zero,if_false];exact zay _ _⟩) (by (refine ⟨rfl,rfl,rfl,?_,?_⟩;repeat' first|exact trivial|exact rfl|refine And.intro ?_ ?_|refine ⟨_,rfl,?_⟩|decide)) ?_
     rintro ⟨w,es,zs⟩ ⟨hw,hes,hz⟩
     obtain ⟨dl,hdl⟩ : ∃ dl,dl=zeR bk w:=⟨_,rfl⟩
     rw [← hdl] at hes
     have hzl:zs.length=m.W.toNat:=by rw [hz];simp
     by_cases hwl:w < m.W.toNat
     ·(repeat' ((conv=>whnf);first|refine vA ?_|(refine vF ?_ ?_<;>intro hc<;>try simp only [vL] at hc)|refine vJ fun hg=>?_|refine vT ?_));all_goals try conv=>whnf
      ·refine zy (fun ((k,t):Nat×KS)=>[(0,.yld l),(1,.ptr 0 0),(2,.ptr 1 0),(4,.d (dI (ptL m.W.toNat (zax m i)))),(7,.map 3),(8,.own 4),(9,.d (.int .i64 ((w:Int)))),(10,.d (.str t)),(47,.d (.int .i64 ((List.replicate m.W.toNat (D.int .i64 0)).length:Int))),(48,.d (.int .i64 ((w:Int)))),(51,.d (dUU m.rel)),(52,.d (.int .i64 ((m.rel.map dU).length:Int))),(53,.d (.int .i64 ((k:Int))))]) (fun ((k,t):Nat×KS)=>[(0,some (zco m)),(1,some (.box [.d (dUU m.rel)])),(2,some (.todo (some (ze0 m N (i+1))))),(3,some (.map es)),(4,some (.row 1 zs))]) 5 (fun ((k,t):Nat×KS)=>k≤m.rel.length∧t=zgv ((m.rel.take k).map fun r=>zaY (zax m i) (r.getD w 0#64) m.W.toNat)) (fun ((k,t):Nat×KS)=>m.rel.length - k) ((0,[])) [(0,0),(1,1),(2,2),(3,3),(4,4)] [] (⟨by simp,rfl⟩) (by (refine ⟨rfl,rfl,rfl,?_,?_⟩;repeat' first|exact trivial|exact rfl|refine And.intro ?_ ?_|refine ⟨_,rfl,?_⟩|decide)) ?_
       rintro ⟨k,t⟩ ⟨hk,ht⟩
       by_cases hkl:k < m.rel.length
       ·obtain ⟨r,hr⟩ : ∃ r,m.rel[k]? = some r:=⟨_,List.getElem?_eq_getElem hkl⟩
        have hrl:=hg0.len r (List.mem_of_getElem? hr)
        obtain ⟨s,hs⟩ : ∃ s,r[w]? = some s:=⟨_,List.getElem?_eq_getElem (by omega)⟩
        have hsb:=(zfV (by omega)).1 (hg0.rel r (List.mem_of_getElem? hr) s (List.mem_of_getElem? hs))
        have hl1:=zu5 ((m.rel.take k).map fun r=>zaY (zax m i) (r.getD w 0#64) m.W.toNat)
        have hl2:(zgQ (zaY (zax m i) s m.W.toNat)).length≤16:=(zkc 15 _).2
        have hl3:((m.rel.take k).map fun r=>zaY (zax m i) (r.getD w 0#64) m.W.toNat).length≤4:=by rw [List.length_map,List.length_take];omega
        rw [← ht] at hl1
        have hl4:([32]:List UInt8).length=1:=rfl
        (repeat' ((conv=>whnf);first|refine vA ?_|(refine vF ?_ ?_<;>intro hc<;>try simp only [vL] at hc)|refine vT ?_|refine vN ‹_› ?_|((first|refine vO ?_ ?_|refine vP ?_ ?_);·first|omega|(simp only [vM] at *;omega))|refine yD (zwd hT h64 s hsb) ⟨⟨rfl,rfl⟩,⟨rfl,rfl⟩,rfl⟩ rfl ?_|refine yD (hX _) (by (repeat refine ⟨⟨rfl,rfl⟩,?_⟩);rfl) rfl ?_));all_goals try conv=>whnf
        ·refine ⟨(k+1,_),[(0,0),(1,1),(2,2),(3,3),(4,4)],[],?_,?_,by (refine ⟨rfl,rfl,rfl,?_,?_⟩;repeat' first|exact trivial|exact rfl|refine And.intro ?_ ?_|refine ⟨_,rfl,?_⟩|decide)⟩
         ·refine ⟨by (omega),?_⟩
          rw [List.take_add_one,hr,Option.toList_some,List.map_append,List.map_singleton,zzz,← ht,zwR hs]
         ·((simp only [vM] at *;omega))
        all_goals (try simp only [List.length_append,hl4])
        all_goals omega
       ·have ek:k=m.rel.length:=by omega
        subst ek
        rw [List.take_length] at ht
        have ht:t=bk w:=by rw [ht,hbk];rfl
        subst ht
        subst hes
        have hfd:=zta (bk w) dl 0
        have hd64:dl.length≤64:=by rw [hdl];have:=zu8 bk w;omega
        by_cases hm:bk w∈dl
        ·rw [if_pos hm,Nat.zero_add] at hfd
         have ea:zeR bk (w+1)=dl:=by rw [zhB,← hdl];exact if_pos hm
         (repeat' ((conv=>whnf);first|refine vA ?_|refine vE ?_|refine vG ?_|(refine vF ?_ ?_<;>intro hc<;>try simp only [vL] at hc)|refine vT ?_|(refine vQ ?_ fun x hx=>?_;·omega)|((first|refine vO ?_ ?_|refine vP ?_ ?_);·omega)|refine zaX.mk _ ‹_› ?_));all_goals try conv=>whnf
         ·omega
         ·refine ⟨(w+1,_,_),[(0,0),(1,1),(2,2),(3,3),(4,4)],[],?_,?_,by (refine ⟨rfl,rfl,rfl,?_,?_⟩;repeat' first|exact trivial|exact rfl|refine And.intro ?_ ?_|refine ⟨_,rfl,?_⟩|decide)⟩
          ·refine ⟨by (omega),by rw [ea],?_⟩
           rw [hz]
           exact zlC (α:=Nat) (by rw [zet,ea])
          ·((simp only [vM] at *;omega))
         all_goals omega
        ·rw [if_neg hm] at hfd
         have ea:zeR bk (w+1)=dl++[bk w]:=by rw [zhB,← hdl];exact if_neg hm
         have eb:zdO 0 (dl++[bk w])=zdO 0 dl++[(.str (bk w),.int .i64 ((zdO 0 dl).length:Int))]:=by rw [zoP,zpL,Nat.zero_add]
         have ec:(dl++[bk w]).idxOf (bk w)=(zdO 0 dl).length:=by rw [zpL,List.idxOf_append,if_neg hm];simp
         have hfn:zt (zdO 0 dl++[(.str (bk w),.int .i64 ((zdO 0 dl).length:Int))]) (.str (bk w))=some (some (.int .i64 ((zdO 0 dl).length:Int))):=by rw [zgq _ _ _ hfd];simp [zt,D.eqk,D.same]
         (repeat' ((conv=>whnf);first|refine vA ?_|(refine vF ?_ ?_<;>intro hc<;>try simp only [vL] at hc)|refine vT ?_|(refine vQ ?_ fun x hx=>?_;·omega)|((first|refine vO ?_ ?_|refine vP ?_ ?_);·omega)|refine zaX.mk _ ‹_› ?_));all_goals try conv=>whnf
         ·omega
         ·refine ⟨(w+1,_,_),[(0,0),(1,1),(2,2),(3,3),(4,4)],[],?_,?_,by (refine ⟨rfl,rfl,rfl,?_,?_⟩;repeat' first|exact trivial|exact rfl|refine And.intro ?_ ?_|refine ⟨_,rfl,?_⟩|decide)⟩
          ·refine ⟨by (omega),by rw [ea,eb],?_⟩
           rw [hz]
           exact zlC (α:=Nat) (by rw [zet,ea,ec])
          ·((simp only [vM] at *;omega))
         all_goals omega
      ·omega
     ·have e0:w=m.W.toNat:=by omega
      obtain rfl:zs=(ptL m.W.toNat (zet bk)).map (D.int .i64):=by
       rw [hz];unfold ptL;rw [List.map_map]
       exact zL fun u hu=>by rw [if_pos (by omega)];rfl
      have ck:=zza (T:=T) m h64 i
      rw [← hbk] at ck
      (repeat' ((conv=>whnf);first|refine vA ?_|(refine vF ?_ ?_<;>intro hc<;>try simp only [vL] at hc)|refine vJ fun hg=>?_|refine vT ?_|refine yN ck ⟨⟨rfl,rfl⟩,⟨rfl,rfl⟩,rfl⟩ ?_));all_goals try conv=>whnf
      ·omega
      ·refine ⟨i+1,[(0,0),(1,1),(2,2)],[],?_,?_,by (refine ⟨rfl,rfl,rfl,?_,?_⟩;repeat' first|exact trivial|exact rfl|refine And.intro ?_ ?_|refine ⟨_,rfl,?_⟩|decide)⟩
       ·(omega)
       ·(omega)
    ·have hne:(false || !(ze0 m N (i+1)).isEmpty)=false:=by rw [zBX (m:=m) (i:=i+1) (by omega)];rfl
     rw [hne]
     trivial
   ·(repeat' ((conv=>whnf);first|refine vH ?_|refine vT ?_));all_goals try conv=>whnf
    right;rfl
end Go.Ab
namespace Go.Ab
open Go Go.Proofs
set_option maxRecDepth 10000
set_option maxHeartbeats 4000000
variable {T:Nat→Obj→Prop}
theorem zxQ (m:KM) (R:List (List (BitVec 64))):Fn Tryz.prog T zjV [.d (dKM m),.d (dUU R)] [] (.fn zd7 [.ptr 0 0,.ptr 1 0]) [some (zco m),some (.box [.d (dUU R)])]:=by
 refine zP zn zr9 (by show 2≤6;decide) _ (fun e env mem n h=>h) ?_
 (repeat' ((conv=>whnf);refine vT ?_));all_goals try conv=>whnf
 exact ⟨trivial,_,[(0,0),(1,1)],[],rfl,.inl (by (repeat' first|exact rfl|refine And.intro ?_ ?_|refine ⟨_,rfl,?_⟩)),⟨rfl,rfl,rfl,trivial,by (repeat' first|exact trivial|exact rfl|refine And.intro ?_ ?_|refine ⟨_,rfl,?_⟩|exact of_decide_eq_true rfl)⟩,trivial⟩
def zg6 (m:KM) (j:Nat):Prop:=ptL m.W.toNat (zax m (j+1))=ptL m.W.toNat (zax m j)
instance (m:KM) (j:Nat):Decidable (zg6 m j):=inferInstanceAs (Decidable (_=_))
def ztY (m:KM):Nat:=zac (fun v _=>decide (zg6 m v)) 65
theorem zCh {m:KM} {j:Nat} (hj:j < 65) (h:zg6 m j) (hn : ∀ i,i < j → ¬zg6 m i):ztY m=j:=by
 have h1:=zkl (fun v _=>decide (zg6 m v)) 65
 rcases Nat.lt_trichotomy (ztY m) j with hl|hl|hl
 ·exfalso
  rcases h1.1 with ⟨h2,h3⟩|h2
  ·exact hn _ hl (of_decide_eq_true h3)
  ·unfold ztY at hl;omega
 ·exact hl
 ·have:=h1.2 j hl
  simp [h] at this
def zEI (m:KM):Nat→V
 | 0 => .nils 1
 | k+1 => .d (dI (ptL m.W.toNat (zax m k)))
theorem zDr {m:KM} {N i:Nat} {x:List D} (h:(ze0 m N 0)[i]? = some x):x=[dI (ptL m.W.toNat (zax m i))]∧i≤N:=by
 unfold ze0 at h
 rw [List.drop_zero,List.getElem?_map,Option.map_eq_some_iff] at h
 obtain ⟨j,hj,rfl⟩:=h
 have hi:=(List.getElem?_eq_some_iff.1 hj).1
 rw [List.length_range] at hi
 rw [List.getElem?_range hi] at hj
 cases hj
 exact ⟨rfl,by omega⟩
theorem zBY (m:KM) (N:Nat):(ze0 m N 0).length=N+1:=by simp [ze0]
theorem zxR (hT:zdf T) (hX:zf9 T) {m:KM} (hk0:za m=0):Fn Tryz.prog T zjW [.d (dKM m),.d (dUU m.rel)] [] (.d (.tup [dI (ptL m.W.toNat (cq m)),.int .i64 (ztY m:Int)])) []:=by
 have hg0:=zx hk0
 have w1:=hg0.w1
 have w2:=hg0.w2
 refine zb zn zsa (by show 2≤21;decide) ?_
 (repeat' ((conv=>whnf);first|refine vA ?_|refine vT ?_));all_goals try conv=>whnf
 refine zK.res (zxQ m m.rel) (by (repeat refine ⟨⟨rfl,rfl⟩,?_⟩);rfl) ?_
 (repeat' ((conv=>whnf);refine vT ?_));all_goals try conv=>whnf
 refine zyj (zzw hT hX hk0 (m.W.toNat+1)) [3,4] [] (by first|((repeat refine ⟨⟨rfl,rfl⟩,?_⟩);rfl)|(repeat' first|exact rfl|refine And.intro ?_ ?_|refine ⟨_,rfl,?_⟩)) (by (repeat' first|exact rfl|refine And.intro ?_ ?_|refine ⟨_,rfl,?_⟩)) (by rfl) (by rfl) [(6,.ptr 0 0),(7,.ptr 1 0)] (fun ((a,c):Nat×Int)=>[(0,some (.box [zEI m a])),(1,some (.box [.d (.int .i64 c)]))]) 2 (fun i ((a,c):Nat×Int)=>a=i∧c=(i:Int) - 1 ∧ ∀ j,j+1 < i → ¬zg6 m j) ((0,-1)) [(0,1),(1,2)] [] (⟨rfl,rfl,fun j hj=>by omega⟩) (by (refine ⟨rfl,rfl,rfl,?_,?_⟩;repeat' first|exact trivial|exact rfl|refine And.intro ?_ ?_|refine ⟨_,rfl,?_⟩|decide)) ?_ ?_
 ·rintro i x ⟨a,c⟩ hx ⟨rfl,hcc,hJ⟩
  obtain ⟨rfl,hi⟩:=zDr hx
  refine ⟨rfl,?_⟩
  cases a with
  | zero =>
   have ce:=zmI (T:=T) (ptL m.W.toNat (zax m 0)) []
   rw [show (ptL m.W.toNat (zax m 0)==[])=false by
    rw [beq_eq_false_iff_ne];intro e;have:=congrArg List.length e;rw [zbU] at this;simp at this;omega] at ce
   (repeat' ((conv=>whnf);first|refine vA ?_|refine vH ?_|refine vT ?_|(refine vO ?_ ?_;·omega)|refine yD ce ⟨⟨rfl,rfl⟩,⟨rfl,rfl⟩,rfl⟩ rfl ?_));all_goals try conv=>whnf
   ·exact ⟨(0+1,c+1),[(0,0),(1,1)],[],⟨rfl,by omega,fun j hj=>by omega⟩,by (refine ⟨rfl,rfl,rfl,?_,?_⟩;repeat' first|exact trivial|exact rfl|refine And.intro ?_ ?_|refine ⟨_,rfl,?_⟩|decide)⟩
   all_goals omega
  | succ k =>
   (repeat' ((conv=>whnf);first|refine vA ?_|(refine vI ?_ ?_<;>intro hc)|refine vT ?_|(refine vO ?_ ?_;·omega)|(refine vU ?_ ?_;·kernel_rfl)|refine yD (zmI _ _) ⟨⟨rfl,rfl⟩,⟨rfl,rfl⟩,rfl⟩ rfl ?_));all_goals try conv=>whnf
   ·show some (D.tup [dI (ptL m.W.toNat (zax m k)),.int .i64 c])=_
    have hs:zg6 m k:=by simpa [zg6] using hc
    have hk:=zCh (m:=m) (j:=k) (by omega) hs (fun i hi=>hJ i (by omega))
    rw [zwJ (m:=m) (k:=k) (by omega) hs,hk,show c=(k:Int) by omega]
   ·have hs : ¬zg6 m k:=by simpa [zg6] using hc
    exact ⟨(k+1+1,c+1),[(0,0),(1,1)],[],⟨rfl,by omega,fun j hj=>by
     by_cases e:j=k
     ·subst e;exact hs
     ·exact hJ j (by omega)⟩,by (refine ⟨rfl,rfl,rfl,?_,?_⟩;repeat' first|exact trivial|exact rfl|refine And.intro ?_ ?_|refine ⟨_,rfl,?_⟩|decide)⟩
   all_goals omega
 ·rintro ⟨a,c⟩ ⟨rfl,hcc,hJ⟩
  rw [zBY] at hJ
  have:=zCU (m:=m) (k:=m.W.toNat+1) fun j hj=>hJ j (by omega)
  omega
def zgf (m:KM):List Int×Int:=if za m≠0 then ([],za m) else (ptL m.W.toNat (cq m),0)
abbrev dLI (x:List Int×Int):D := .tup [dI x.1,.int .i64 x.2]
theorem zmK (hT:zdf T) (hX:zf9 T) (m:KM):Fn Tryz.prog T zd6 [.d (dKM m)] [] (.d (dLI (zgf m))) []:=by
 refine zb zn zpx (by show 1≤20;decide) ?_
 by_cases hk0:za m=0
 ·have cs:=zxR (T:=T) hT hX hk0
  (repeat' ((conv=>whnf);first|refine vA ?_|(refine vD ?_ ?_<;>intro hc)|refine vT ?_|refine yD (zaI m) ⟨⟨rfl,rfl⟩,rfl⟩ rfl ?_|refine yN cs ⟨⟨rfl,rfl⟩,⟨rfl,rfl⟩,rfl⟩ ?_));all_goals try conv=>whnf
  ·exact absurd hk0 (by omega)
  ·rw [zgf,if_neg (by omega)];rfl
 ·(repeat' ((conv=>whnf);first|refine vA ?_|(refine vD ?_ ?_<;>intro hc)|refine vT ?_|refine yD (zaI m) ⟨⟨rfl,rfl⟩,rfl⟩ rfl ?_));all_goals try conv=>whnf
  ·rw [zgf,if_pos hk0];rfl
  ·exact absurd ‹za m=0› hk0
end Go.Ab
namespace Go.Ab
open Go Go.Proofs
set_option maxRecDepth 10000
set_option maxHeartbeats 4000000
variable {T:Nat→Obj→Prop}
theorem zy3 (l:List Int) (h:l≠[]) (hl:l.length≤1000):Fn Tryz.prog T zcz [.d (dI l)] [] (.own 0) [some (.row 1 (l.map (D.int .i64)))]:=by
 refine zP zn ziM (by show 1≤8;decide) _ (fun e env mem n h=>h) ?_
 (repeat' ((conv=>whnf);first|refine vA ?_|refine vB fun b hb=>?_|refine vE ?_|(refine vF ?_ ?_<;>intro hc)|refine vT ?_|(refine vP ?_ ?_;·(simp only [vM] at *;omega))|fail));all_goals try conv=>whnf
 ·refine ⟨trivial,_,[(0,1)],[],rfl,.inl (by (repeat' exact rfl)),⟨by rfl,by rfl,by rfl,trivial,by (repeat' first|exact trivial|exact rfl|refine And.intro ?_ ?_|refine ⟨_,rfl,?_⟩|exact of_decide_eq_true rfl)⟩,by (repeat' exact trivial)⟩
 ·exact absurd (List.map_eq_nil_iff.1 (hb (by simpa using hc))) h
theorem zCg {n:Nat} {q:Nat→Nat} (hq:za2 n q):zfS (ptL n q)=(zbg n q).map fun (x:Nat)=>(x:Int):=by
 have hs:((zbg n q).map fun (x:Nat)=>(x:Int)).Pairwise (· < ·):=by
  rw [List.pairwise_map]
  refine List.Pairwise.imp (R:=(· < ·)) (fun h=>by omega) (List.Pairwise.filter _ List.pairwise_lt_range)
 have hn:(zfS (ptL n q)).Nodup:=(zcE _).nodup_iff.2 (zc8 _)
 refine zem (zfc _) (hs.imp fun h=>Int.le_of_lt h) (zgz hn (hs.imp fun h e=>by subst e;omega) fun x=>?_)
 rw [zlo]
 unfold ptL zbg
 simp only [List.mem_map,List.mem_filter,List.mem_range,decide_eq_true_eq]
 constructor
 ·rintro ⟨w,hw,rfl⟩
  have:=hq.le w hw
  exact ⟨q w,⟨by omega,hq.idem w hw⟩,rfl⟩
 ·rintro ⟨w,⟨hw,e⟩,rfl⟩
  exact ⟨w,hw,by rw [e]⟩
theorem zzb {n:Nat} {q:Nat→Nat} (hq:za2 n q) (h0:0 < n) (h12:n≤12):Fn Tryz.prog T zhW [.d (dI (ptL n q))] [] (.d (dN (zbg n q))) []:=by
 have hl:(ptL n q).length=n:=zbU
 have c0:=zy3 (T:=T) (ptL n q) (fun e=>by rw [e] at hl;simp at hl;omega) (by omega)
 have c1:=zoD (T:=T) (ptL n q).toArray (by simp;omega)
 rw [show zca (Sort.sort ltI (ptL n q).toArray) = .row 1 ((zbW (ptL n q)).map (D.int .i64)) by rw [zca,zru]] at c1
 have hsl:(zbW (ptL n q)).length=n:=by rw [(zcE _).length_eq,hl]
 have c2:=zuL (T:=T) (zbW (ptL n q)).toArray (by simp;omega)
 rw [zyU,zCg hq] at c2
 refine zb zn zoo (by show 1≤10;decide) ?_
 (repeat' ((conv=>whnf);refine vT ?_));all_goals try conv=>whnf
 refine zK.res (c0) (by (repeat refine ⟨⟨rfl,rfl⟩,?_⟩);rfl) ?_
 (repeat' ((conv=>whnf);refine vT ?_));all_goals try conv=>whnf
 refine zK.objs [0] (c1) (by (repeat' first|exact rfl|refine And.intro ?_ ?_|refine ⟨_,rfl,?_⟩)) (by (repeat' first|exact rfl|refine And.intro ?_ ?_)) (by rfl) (by rfl) (by simp) ?_
 (repeat' ((conv=>whnf);refine vT ?_));all_goals try conv=>whnf
 refine zK.objs [0] (c2) (by (repeat' first|exact rfl|refine And.intro ?_ ?_|refine ⟨_,rfl,?_⟩)) (by (repeat' first|exact rfl|refine And.intro ?_ ?_)) (by rfl) (by rfl) (by simp) ?_
 (repeat' ((conv=>whnf);refine vT ?_));all_goals try conv=>whnf
 rfl
theorem zqL (s:BitVec 64) {n:Nat} {k:Nat→Nat} (hk : ∀ w,w < n→k w < 64):Fn Tryz.prog T zhX [.d (.u64 s),.d (dI (ptL n k))] [] (.d (.u64 (zaY k s n))) []:=by
 have hl:(ptL n k).length=n:=zbU
 refine zb zn zop (by show 2≤26;decide) ?_
 (repeat' ((conv=>whnf);first|refine vA ?_|refine vJ fun hg=>?_|refine vT ?_));all_goals try conv=>whnf
 refine zal (fun ((j,o):Nat×BitVec 64)=>[(0,.d (.u64 (s))),(5,.d (.u64 (o))),(8,.d (dI (ptL n k))),(9,.d (.int .i64 (((ptL n k).map (D.int .i64)).length:Int))),(10,.d (.int .i64 ((j:Int))))]) (fun ((j,o):Nat×BitVec 64)=>j≤n∧o=zaY k s j) (fun ((j,o):Nat×BitVec 64)=>n - j) ((0,0#64)) (⟨by simp,rfl⟩) (by (repeat' first|exact trivial|exact rfl|refine And.intro ?_ ?_)) ?_
 rintro ⟨j,o⟩ ⟨hj,ho⟩
 by_cases hjl:j < n
 ·have e1:=zbp (q:=k) hjl
  (repeat' ((conv=>whnf);first|refine vA ?_|(refine vF ?_ ?_<;>intro hc<;>try simp only [vL] at hc)|refine vT ?_|refine vN ‹_› ?_|((first|refine vO ?_ ?_|refine vP ?_ ?_);·omega)|refine vY ?_));all_goals try conv=>whnf
  ·refine ⟨(j+1,_),[],[],?_,?_,by (refine ⟨rfl,rfl,rfl,?_,?_⟩;repeat' first|exact trivial|exact rfl|refine And.intro ?_ ?_)⟩
   ·exact ⟨by (omega),by rw [zhl,if_pos ((zcS s j).1 ‹_›),ho];rfl⟩
   ·((simp only [vM] at *;omega))
  ·refine ⟨(j+1,o),[],[],?_,?_,by (refine ⟨rfl,rfl,rfl,?_,?_⟩;repeat' first|exact trivial|exact rfl|refine And.intro ?_ ?_)⟩
   ·refine ⟨by (omega),?_⟩
    rw [zhl,if_neg,ho]
    intro h
    exact absurd ((zcS s j).2 h) ‹_›
   ·((simp only [vM] at *;omega))
  all_goals omega
 ·(repeat' ((conv=>whnf);first|refine vA ?_|(refine vF ?_ ?_<;>intro hc<;>try simp only [vL] at hc)|refine vT ?_|(refine vQ ?_ fun x hx=>?_;·omega)|((first|refine vO ?_ ?_|refine vP ?_ ?_);·omega)|refine vY ?_));all_goals try conv=>whnf
  all_goals try omega
  rw [ho,show j=n by omega]
theorem zC6 {n:Nat} {q:Nat→Nat} (hq:za2 n q) {w:Nat} (hw:w < n):zfB (fun y=>((q w:Nat):Int)==y) ((zbg n q).map fun (x:Nat)=>(x:Int))=((zX q w:Nat):Int):=by
 have h1:=zgZ hq hw
 refine zhv (by rw [List.getElem?_map,h1];rfl) (by simp) fun i y hi hy=>?_
 rw [List.getElem?_map,Option.map_eq_some_iff] at hy
 obtain ⟨u,hu,rfl⟩:=hy
 have hnd:(zbg n q).Nodup:=List.Nodup.sublist List.filter_sublist List.nodup_range
 rw [beq_eq_false_iff_ne]
 intro e
 have e:q w=u:=by omega
 subst e
 obtain ⟨a1,a2⟩:=List.getElem?_eq_some_iff.1 h1
 obtain ⟨b1,b2⟩:=List.getElem?_eq_some_iff.1 hu
 have:=(List.getElem_inj hnd).1 (a2.trans b2.symm)
 omega
abbrev byQ (p:List Int):Nat→Nat:=fun w=>(at0 p w).toNat
def byF (m:KM) (q:Nat→Nat) (w:Nat):Bool:=decide (zF m w=zF m (q w))
def byL (m:KM) (p:List Int):KM×List Int×Int :=
 if za m≠0 then (zbD,[],za m) else if zcj p≠0 then (zbD,[],zcj p) else if (p.length:Int)≠m.W then (zbD,[],3) else
  if (List.range m.W.toNat).all (byF m (byQ p))=true then (zbJ m (byQ p),ptL m.W.toNat (zX (byQ p)),0) else (zbD,[],1)
abbrev zxF (x:KM×List Int×Int):D := .tup [dKM x.1,dI x.2.1,.int .i64 x.2.2]
theorem zCE {n k:Nat} {f:Nat→Bool} (hk:k < n) (h:f k=false) : ¬(List.range n).all f=true:=fun e=>by
 rw [List.all_eq_true] at e
 rw [e k (List.mem_range.2 hk)] at h;cases h
theorem zt8 {n:Nat} {f:Nat→Bool} (h : ∀ i,i < n→f i=true):(List.range n).all f=true:=List.all_eq_true.2 fun i hi=>h i (List.mem_range.1 hi)
theorem zyA {q:Nat→Nat} {n:Nat} {r:List (BitVec 64)} {k i:Nat} : zeE q n r (k+1) i=if zX q k=i then zeE q n r k i|||zaY (zX q) (r.getD k 0#64) n else zeE q n r k i:=rfl
def byR (m:KM) (q:Nat→Nat):KM×List Int×Int:=if (List.range m.W.toNat).all (byF m q)=true then (zbJ m q,ptL m.W.toNat (zX q),0) else (zbD,[],1)
theorem zy2 {m:KM} (hk0:za m=0) (h12:m.W≤12) {q:Nat→Nat} (hq:za2 m.W.toNat q):Fn Tryz.prog T zeh [.d (dKM m),.d (dI (ptL m.W.toNat q))] [] (.d (zxF (byR m q))) []:=by
 have hg0:=zx hk0
 have w1:=hg0.w1
 have n4:=hg0.n4
 have v8:=hg0.v8
 have hp0:zcj (ptL m.W.toNat q)=0:=zou hq (by omega)
 refine zb zn zlS (by show 2≤134;decide) ?_
 have hlen:((ptL m.W.toNat q).length:Int)=m.W:=by rw [zbU];omega
 have e0:byR m q=if (List.range m.W.toNat).all (byF m q)=true then (zbJ m q,ptL m.W.toNat (zX q),0) else (zbD,[],1):=rfl
 obtain ⟨n,hn⟩ : ∃ n,n=m.W.toNat:=⟨_,rfl⟩
 rw [← hn] at hq hp0 hlen e0 ⊢
 have hpl:(ptL n q).length=n:=zbU
 have hcn:=zdE n q
 have h64 : ∀ w,w < n→zX q w < 64:=fun w hw=>by have:=zg0 hq hw;omega
 have clo:=zzb (T:=T) hq (by omega) (by omega)
 (repeat' ((conv=>whnf);first|refine vA ?_|(refine vD ?_ ?_<;>intro hc<;>try simp only [vL] at hc)|refine vJ fun hg=>?_|refine vT ?_|refine yD (zaI m) ⟨⟨rfl,rfl⟩,rfl⟩ rfl ?_|refine yD (zh3 _) ⟨⟨rfl,rfl⟩,rfl⟩ rfl ?_));all_goals try conv=>whnf
 iterate 3 (exact absurd ‹_≠_› (by first|exact not_not_intro hk0|exact not_not_intro hp0|exact not_not_intro hlen))
 refine zy (fun (w:Nat)=>[(1,.d (dI (ptL n q))),(2,.ptr 0 0),(4,.ptr 1 0),(41,.d (dI (ptL n q))),(42,.d (.int .i64 (((ptL n q).map (D.int .i64)).length:Int))),(43,.d (.int .i64 ((w:Int))))]) (fun (w:Nat)=>[(0,some (zco m)),(1,some (.box [.d (.int .i64 0),.nils 1,.nils 1]))]) 2 (fun (w:Nat)=>w≤n ∧ ∀ u,u < w→byF m q u=true) (fun (w:Nat)=>n - w) (0) [(0,0),(1,1)] [] (⟨by omega,fun u hu=>by omega⟩) (by (refine ⟨rfl,rfl,rfl,?_,?_⟩;repeat' first|exact trivial|exact rfl|refine And.intro ?_ ?_|refine ⟨_,rfl,?_⟩|decide)) ?_
 rintro w ⟨hw,hI⟩
 by_cases hwl:w < n
 ·have e1:=zbp (q:=q) hwl
  have hqw:=hq.le w hwl
  have cf1:=zhw (T:=T) m (w:Int)
  have cf2:=zhw (T:=T) m ((q w:Nat):Int)
  rw [zr2 hk0 (by omega)] at cf1 cf2
  (repeat' ((conv=>whnf);first|refine vA ?_|((first|refine vD ?_ ?_|refine vF ?_ ?_)<;>intro hc<;>try simp only [vL] at hc)|refine vT ?_|refine vN ‹_› ?_|(refine vO ?_ ?_;·omega)|(refine vU ?_ ?_;·kernel_rfl)|refine yD cf1 ⟨⟨rfl,rfl⟩,⟨rfl,rfl⟩,rfl⟩ rfl ?_|refine yD cf2 ⟨⟨rfl,rfl⟩,⟨rfl,rfl⟩,rfl⟩ rfl ?_));all_goals try conv=>whnf
  ·rw [e0,if_neg (zCE hwl (by unfold byF;rw [decide_eq_false_iff_not];assumption))];rfl
  ·exact ⟨w+1,[(0,0),(1,1)],[],⟨by (omega),fun u hu=>by
    by_cases e:u=w
    ·subst e;unfold byF;rw [decide_eq_true_eq];assumption
    ·exact hI u (by omega)⟩,by (omega),by (refine ⟨rfl,rfl,rfl,?_,?_⟩;repeat' first|exact trivial|exact rfl|refine And.intro ?_ ?_|refine ⟨_,rfl,?_⟩|decide)⟩
  all_goals omega
 ·have hfa:zxo m q:=fun w hw=>by
   have:=hI w (by omega)
   simpa [byF] using this
  have e0:byR m q=(zbJ m q,ptL n (zX q),0):=by rw [e0,if_pos (zt8 fun u hu=>hI u (by omega))]
  have hrl':zgU (zbg n q)=zC n q:=zsj _
  (repeat' ((conv=>whnf);first|refine vA ?_|(refine vF ?_ ?_<;>intro hc<;>try simp only [vL] at hc)|refine vJ fun hg=>?_|refine vT ?_|(refine vQ ?_ fun x hx=>?_;·omega)|(refine vP ?_ ?_;·(simp only [vM] at *;omega))|refine yN clo ⟨⟨rfl,rfl⟩,rfl⟩ ?_));all_goals try conv=>whnf
  ·omega
  refine zy (fun ((w,zs):Nat×List D)=>[(2,.ptr 0 0),(4,.ptr 1 0),(11,.d (dN (zbg n q))),(12,.own 2),(62,.d (dI (ptL n q))),(63,.d (.int .i64 (((ptL n q).map (D.int .i64)).length:Int))),(64,.d (.int .i64 ((w:Int))))]) (fun ((w,zs):Nat×List D)=>[(0,some (zco m)),(1,some (.box [.d (.int .i64 0),.nils 1,.nils 1])),(2,some (.row 1 zs))]) 3 (fun ((w,zs):Nat×List D)=>w≤n∧zs=(List.range n).map fun u=>if u < w then D.int .i64 (zX q u:Int) else D.int .i64 0) (fun ((w,zs):Nat×List D)=>n - w) ((0,List.replicate ((((ptL n q).map (D.int .i64)).length:Int)).toNat (D.int .i64 0))) [(0,0),(1,1),(2,2)] [] (⟨by omega,by simp only [Nat.not_lt_zero,if_false];rw [List.length_map,hpl,Int.toNat_natCast];exact zay _ _⟩) (by (refine ⟨rfl,rfl,rfl,?_,?_⟩;repeat' first|exact trivial|exact rfl|refine And.intro ?_ ?_|refine ⟨_,rfl,?_⟩|decide)) ?_
  rintro ⟨w,zs⟩ ⟨hw,hz⟩
  have hzl:zs.length=n:=by rw [hz];simp
  by_cases hwl:w < n
  ·have e1:=zbp (q:=q) hwl
   have cix:=ziI (T:=T) ((zbg n q).map fun (x:Nat)=>(x:Int)) ((q w:Nat):Int)
   rw [zC6 hq hwl] at cix
   (repeat' ((conv=>whnf);first|refine vA ?_|(refine vF ?_ ?_<;>intro hc<;>try simp only [vL] at hc)|refine vJ fun hg=>?_|refine vT ?_|refine vN ‹_› ?_|((first|refine vO ?_ ?_|refine vP ?_ ?_);·omega)|refine yD cix ⟨⟨rfl,rfl⟩,⟨rfl,rfl⟩,rfl⟩ rfl ?_));all_goals try conv=>whnf
   ·refine ⟨(w+1,_),[(0,0),(1,1),(2,2)],[],?_,?_,by (refine ⟨rfl,rfl,rfl,?_,?_⟩;repeat' first|exact trivial|exact rfl|refine And.intro ?_ ?_|refine ⟨_,rfl,?_⟩|decide)⟩
    ·exact ⟨by (omega),by rw [hz];exact zlC (α:=Nat) rfl⟩
    ·((simp only [vM] at *;omega))
   all_goals omega
  ·obtain rfl:zs=(ptL n (zX q)).map (D.int .i64):=by
    rw [hz];unfold ptL;rw [List.map_map]
    exact zL fun u hu=>by rw [if_pos (by omega)];rfl
   have hml:(ptL n (zX q)).length=n:=zbU
   (repeat' ((conv=>whnf);first|refine vA ?_|(refine vF ?_ ?_<;>intro hc<;>try simp only [vL] at hc)|refine vJ fun hg=>?_|refine vT ?_|(refine vQ ?_ fun x hx=>?_;·omega)|fail));all_goals try conv=>whnf
   ·omega
   refine zy (fun ((k,zs):Nat×List D)=>[(2,.ptr 0 0),(4,.ptr 1 0),(11,.d (dN (zbg n q))),(12,.own 2),(15,.ptr 3 0),(80,.d (dU m.val)),(81,.d (.int .i64 ((m.val.map D.u64).length:Int))),(82,.d (.int .i64 ((k:Int))))]) (fun ((k,zs):Nat×List D)=>[(0,some (zco m)),(1,some (.box [.d (.int .i64 0),.nils 1,.nils 1])),(2,some (.row 1 ((ptL n (zX q)).map (D.int .i64)))),(3,some (.box [.d (.int .i64 (zgU (zbg n q):Int)),.own 4,.nils 1])),(4,some (.row 1 zs))]) 5 (fun ((k,zs):Nat×List D)=>k≤m.val.length∧zs=(m.val.take k).map fun s=>D.u64 (zaY (zX q) s n)) (fun ((k,zs):Nat×List D)=>m.val.length - k) ((0,[])) [(0,0),(1,1),(2,2),(3,3)]   [4] (⟨by simp,by simp⟩) (by (refine ⟨rfl,rfl,rfl,?_,?_⟩;repeat' first|exact trivial|exact rfl|exact ⟨_,rfl⟩|refine And.intro ?_ ?_|refine ⟨_,rfl,?_⟩|decide)) ?_
   rintro ⟨k,zs⟩ ⟨hk,hz⟩
   have hzl:zs.length≤8:=by rw [hz];simp;omega
   by_cases hkl:k < m.val.length
   ·obtain ⟨s,hs⟩ : ∃ s,m.val[k]? = some s:=⟨_,List.getElem?_eq_getElem hkl⟩
    (repeat' ((conv=>whnf);first|refine vA ?_|(refine vF ?_ ?_<;>intro hc<;>try simp only [vL] at hc)|refine vJ fun hg=>?_|refine vT ?_|refine vN ‹_› ?_|((first|refine vO ?_ ?_|refine vP ?_ ?_);·first|omega|(simp only [vM] at *;omega))|(refine vU ?_ ?_;·kernel_rfl)|refine yD (zqL s h64) ⟨⟨rfl,rfl⟩,⟨rfl,rfl⟩,rfl⟩ rfl ?_));all_goals try conv=>whnf
    ·refine ⟨(k+1,_),[(0,0),(1,1),(2,2),(3,3),(4,6)],[],?_,?_,by (refine ⟨rfl,rfl,rfl,?_,?_⟩;repeat' first|exact trivial|exact rfl|refine And.intro ?_ ?_|refine ⟨_,rfl,?_⟩|decide)⟩
     ·exact ⟨by omega,by rw [List.take_add_one,hs,hz];simp⟩
     ·((simp only [vM] at *;omega))
    all_goals omega
   ·have hzz:zs=m.val.map fun s=>D.u64 (zaY (zX q) s n):=by rw [hz,List.take_of_length_le (by omega)]
    clear hz
    subst hzz
    (repeat' ((conv=>whnf);first|refine vA ?_|(refine vF ?_ ?_<;>intro hc<;>try simp only [vL] at hc)|refine vJ fun hg=>?_|refine vT ?_|(refine vQ ?_ fun x hx=>?_;·omega)|fail));all_goals try conv=>whnf
    ·omega
    refine zy (fun ((k,zs):Nat×List D)=>[(4,.ptr 1 0),(11,.d (dN (zbg n q))),(12,.own 2),(15,.ptr 3 0),(96,.d (dUU m.rel)),(97,.d (.int .i64 ((m.rel.map dU).length:Int))),(98,.d (.int .i64 ((k:Int))))]) (fun ((k,zs):Nat×List D)=>[(1,some (.box [.d (.int .i64 0),.nils 1,.nils 1])),(2,some (.row 1 ((ptL n (zX q)).map (D.int .i64)))),(3,some (.box [.d (.int .i64 (zgU (zbg n q):Int)),.own 4,.own 5])),(4,some (.row 1 (m.val.map fun s=>D.u64 (zaY (zX q) s n)))),(5,some (.row 1 zs))]) 6 (fun ((k,zs):Nat×List D)=>k≤m.rel.length∧zs=(m.rel.take k).map fun r=>dU ((List.range (zC n q)).map (zeE q n r n))) (fun ((k,zs):Nat×List D)=>m.rel.length - k) ((0,[])) [(1,1),(2,2),(3,3),(4,4)]   [5] (⟨by simp,by simp⟩) (by (refine ⟨rfl,rfl,rfl,?_,?_⟩;repeat' first|exact trivial|exact rfl|exact ⟨_,rfl⟩|refine And.intro ?_ ?_|refine ⟨_,rfl,?_⟩|decide)) ?_
    rintro ⟨k,zs⟩ ⟨hk,hz⟩
    have hzl:zs.length≤4:=by rw [hz];simp;omega
    by_cases hkl:k < m.rel.length
    ·obtain ⟨r,hr⟩ : ∃ r,m.rel[k]? = some r:=⟨_,List.getElem?_eq_getElem hkl⟩
     have hrl:r.length=n:=by have:=hg0.len r (List.mem_of_getElem? hr);omega
     (repeat' ((conv=>whnf);first|refine vA ?_|(refine vF ?_ ?_<;>intro hc<;>try simp only [vL] at hc)|refine vJ fun hg=>?_|refine vT ?_|refine vN ‹_› ?_|(refine vP ?_ ?_;·(simp only [vM] at *;omega))|fail));all_goals try conv=>whnf
     ·refine zy (fun ((w,ys):Nat×List D)=>[(4,.ptr 1 0),(11,.d (dN (zbg n q))),(12,.own 2),(15,.ptr 3 0),(20,.own 6),(96,.d (dUU m.rel)),(97,.d (.int .i64 ((m.rel.map dU).length:Int))),(98,.d (.int .i64 ((k:Int)))),(105,.d (dU r)),(106,.d (.int .i64 ((r.map D.u64).length:Int))),(107,.d (.int .i64 ((w:Int))))]) (fun ((w,ys):Nat×List D)=>[(1,some (.box [.d (.int .i64 0),.nils 1,.nils 1])),(2,some (.row 1 ((ptL n (zX q)).map (D.int .i64)))),(3,some (.box [.d (.int .i64 (zgU (zbg n q):Int)),.own 4,.own 5])),(4,some (.row 1 (m.val.map fun s=>D.u64 (zaY (zX q) s n)))),(5,some (.row 1 zs)),(6,some (.row 1 ys))]) 7 (fun ((w,ys):Nat×List D)=>w≤n∧ys=(List.range (zC n q)).map fun i=>D.u64 (zeE q n r w i)) (fun ((w,ys):Nat×List D)=>n - w) ((0,List.replicate ((zgU (zbg n q):Int)).toNat (D.u64 0))) [(1,1),(2,2),(3,3),(4,4),(5,5),(6,6)] [] (⟨by omega,by rw [hrl',Int.toNat_natCast];exact zay _ _⟩) (by (refine ⟨rfl,rfl,rfl,?_,?_⟩;repeat' first|exact trivial|exact rfl|refine And.intro ?_ ?_|refine ⟨_,rfl,?_⟩|decide)) ?_
      rintro ⟨w,ys⟩ ⟨hw,hy⟩
      have hrl2:(List.range (zC n q)).length=zC n q:=List.length_range
      subst hy
      by_cases hwl:w < n
      ·obtain ⟨s,hs⟩ : ∃ s,r[w]? = some s:=⟨_,List.getElem?_eq_getElem (by omega)⟩
       have e1:=zbp (q:=zX q) hwl
       have hnl:=zg0 hq hwl
       have e2:(List.range (zC n q))[zX q w]? = some (zX q w):=List.getElem?_range hnl
       (repeat' ((conv=>whnf);first|refine vA ?_|(refine vF ?_ ?_<;>intro hc<;>try simp only [vL] at hc)|refine vT ?_|refine vN ‹_› ?_|((first|refine vO ?_ ?_|refine vP ?_ ?_);·first|omega|(simp only [vM] at *;omega))|(refine vU ?_ ?_;·kernel_rfl)|refine yD (zqL s h64) ⟨⟨rfl,rfl⟩,⟨rfl,rfl⟩,rfl⟩ rfl ?_));all_goals try conv=>whnf
       ·refine ⟨(w+1,_),[(1,1),(2,2),(3,3),(4,4),(5,5),(6,6)],[],?_,?_,by (refine ⟨rfl,rfl,rfl,?_,?_⟩;repeat' first|exact trivial|exact rfl|refine And.intro ?_ ?_|refine ⟨_,rfl,?_⟩|decide)⟩
        ·refine ⟨by (omega),?_⟩
         refine (zdV _).trans (zL fun u hu=>?_)
         rw [zyA,zwR hs,Int.toNat_natCast]
         by_cases e:u=zX q w
         ·subst e;rw [if_pos rfl,if_pos rfl]
         ·rw [if_neg e,if_neg (fun h=>e h.symm)]
        ·((simp only [vM] at *;omega))
       all_goals omega
      ·rw [show ((List.range (zC n q)).map fun i=>D.u64 (zeE q n r w i))=((List.range (zC n q)).map (zeE q n r n)).map D.u64 by rw [show w=n by omega,List.map_map];rfl]
       (repeat' ((conv=>whnf);first|refine vA ?_|(refine vF ?_ ?_<;>intro hc<;>try simp only [vL] at hc)|refine vT ?_|(refine vQ ?_ fun x hx=>?_;·omega)|((first|refine vO ?_ ?_|refine vP ?_ ?_);·first|omega|(simp only [vM] at *;omega))|fail));all_goals try conv=>whnf
       ·omega
       ·refine ⟨(k+1,_),[(1,1),(2,2),(3,3),(4,4),(5,8)],[],?_,?_,by (refine ⟨rfl,rfl,rfl,?_,?_⟩;repeat' first|exact trivial|exact rfl|refine And.intro ?_ ?_|refine ⟨_,rfl,?_⟩|decide)⟩
        ·refine ⟨by omega,?_⟩
         rw [List.take_add_one,hr,hz];simp
        ·((simp only [vM] at *;omega))
       all_goals omega
     all_goals omega
    ·have hzz:zs=m.rel.map fun r=>dU ((List.range (zC n q)).map (zeE q n r n)):=by rw [hz,List.take_of_length_le (by omega)]
     subst hzz
     (repeat' ((conv=>whnf);first|refine vA ?_|(refine vF ?_ ?_<;>intro hc<;>try simp only [vL] at hc)|refine vJ fun hg=>?_|refine vT ?_|(refine vQ ?_ fun x hx=>?_;·omega)|(refine vP ?_ ?_;·omega)|fail));all_goals try conv=>whnf
     ·omega
     ·rw [e0]
      refine congrArg some (show D.tup [D.agg [.int .i64 (zgU (zbg n q):Int),.arr 1 (m.val.map fun s=>D.u64 (zaY (zX q) s n)),.arr 1 (m.rel.map fun r=>dU ((List.range (zC n q)).map (zeE q n r n)))],dI (ptL n (zX q)),.int .i64 0]=D.tup [dKM (zbJ m q),dI (ptL n (zX q)),.int .i64 0] from ?_)
      have f1:(m.val.map fun s=>zaY (zX q) s n)=(zbJ m q).val:=by
       rw [hn] at hq ⊢
       exact List.map_congr_left fun s hs=>zDo hq (by omega) hfa hs
      have f2:(m.rel.map fun r=>(List.range (zC n q)).map (zeE q n r n))=(zbJ m q).rel:=by
       rw [hn] at hq ⊢
       exact List.map_congr_left fun r _=>List.map_congr_left fun i _=>zDn hq (by omega) r i
      rw [hrl',show (m.val.map fun s=>D.u64 (zaY (zX q) s n))=(zbJ m q).val.map D.u64 by rw [← f1,List.map_map];rfl,show (m.rel.map fun r=>dU ((List.range (zC n q)).map (zeE q n r n)))=(zbJ m q).rel.map dU by rw [← f2,List.map_map];rfl,hn]
      rfl
theorem zEF (m:KM) (p:List Int) (h12:za m=0→m.W≤12):Fn Tryz.prog T zeh [.d (dKM m),.d (dI p)] [] (.d (zxF (byL m p))) []:=by
 by_cases hall:za m=0∧zcj p=0∧(p.length:Int)=m.W
 ·obtain ⟨hk0,hp0,hlen⟩:=hall
  obtain ⟨hp64,hq,hpe⟩:=zws hp0
  have hpn:p.length=m.W.toNat:=by omega
  rw [hpn] at hq hpe
  have:=zy2 (T:=T) hk0 (h12 hk0) hq
  rw [← hpe] at this
  rw [show byL m p=byR m (byQ p) by rw [byL,if_neg (by omega),if_neg (by omega),if_neg (by omega)];rfl]
  exact this
 refine zb zn zlS (by show 2≤134;decide) ?_
 by_cases hk0:za m=0
 ·by_cases hp0:zcj p=0
  ·by_cases hlen:(p.length:Int)=m.W
   ·exact absurd ⟨hk0,hp0,hlen⟩ hall
   ·(repeat' ((conv=>whnf);first|refine vA ?_|(refine vD ?_ ?_<;>intro hc<;>try simp only [vL] at hc)|refine vJ fun hg=>?_|refine vT ?_|refine yD (zaI m) ⟨⟨rfl,rfl⟩,rfl⟩ rfl ?_|refine yD (zh3 p) ⟨⟨rfl,rfl⟩,rfl⟩ rfl ?_));all_goals try conv=>whnf
    ·exact absurd hk0 ‹_›
    ·exact absurd hp0 ‹_›
    ·rw [byL,if_neg (by omega),if_neg (by omega),if_pos hlen];rfl
    ·exact absurd ‹(p.length:Int)=m.W› hlen
  ·(repeat' ((conv=>whnf);first|refine vA ?_|(refine vD ?_ ?_<;>intro hc<;>try simp only [vL] at hc)|refine vJ fun hg=>?_|refine vT ?_|refine yD (zaI m) ⟨⟨rfl,rfl⟩,rfl⟩ rfl ?_|refine yD (zh3 p) ⟨⟨rfl,rfl⟩,rfl⟩ rfl ?_));all_goals try conv=>whnf
   ·exact absurd hk0 ‹_›
   ·rw [byL,if_neg (by omega),if_pos hp0];rfl
   all_goals exact absurd ‹zcj p=0› hp0
 ·(repeat' ((conv=>whnf);first|refine vA ?_|(refine vD ?_ ?_<;>intro hc)|refine vT ?_|refine yD (zaI m) ⟨⟨rfl,rfl⟩,rfl⟩ rfl ?_));all_goals try conv=>whnf
  ·rw [byL,if_pos hk0];rfl
  all_goals exact absurd ‹za m=0› hk0
end Go.Ab
namespace Go.Ab
open Go Go.Proofs
set_option maxRecDepth 10000
set_option maxHeartbeats 4000000
variable {T:Nat→Obj→Prop}
theorem zDQ (m:KM):byR m (cq m)=(zbJ m (cq m),ptL m.W.toNat (zX (cq m)),0):=if_pos (zt8 fun w hw=>by unfold byF;rw [decide_eq_true_eq];exact zut m w hw)
def zve (m:KM):KM×List Int×Int:=if za m≠0 then (zbD,[],za m) else (zbJ m (cq m),ptL m.W.toNat (zX (cq m)),0)
theorem zwb (hT:zdf T) (hX:zf9 T) (m:KM) (h12:za m=0→m.W≤12):Fn Tryz.prog T zgG [.d (dKM m)] [] (.d (zxF (zve m))) []:=by
 have cco:=zmK (T:=T) hT hX m
 refine zb zn zl3 (by show 1≤22;decide) ?_
 by_cases hk0:za m=0
 ·rw [show zgf m=(ptL m.W.toNat (cq m),0) by rw [zgf,if_neg (by omega)]] at cco
  have cb:=zy2 (T:=T) hk0 (h12 hk0) (zgM m)
  rw [zDQ] at cb
  (repeat' ((conv=>whnf);first|refine vA ?_|refine vH ?_|refine vT ?_|refine yN cco ⟨⟨rfl,rfl⟩,rfl⟩ ?_|refine yN cb ⟨⟨rfl,rfl⟩,⟨rfl,rfl⟩,rfl⟩ ?_));all_goals try conv=>whnf
  ·rw [zve,if_neg (by omega)];rfl
 ·rw [show zgf m=([],za m) by rw [zgf,if_pos hk0]] at cco
  (repeat' ((conv=>whnf);first|refine vA ?_|(refine vD ?_ ?_<;>intro hc<;>try simp only [vL] at hc)|refine vT ?_|refine yN cco ⟨⟨rfl,rfl⟩,rfl⟩ ?_));all_goals try conv=>whnf
  ·rw [zve,if_pos hk0];rfl
  all_goals exact absurd ‹za m=0› hk0
noncomputable def zae (m:KM) (w:Nat):KM:=zS m (zI m.W.toNat (zi m) w)
noncomputable def zar (m:KM) (w:Int):KM×Int×Int :=
 if za m≠0 then (zbD,0,za m) else if w < 0∨m.W≤w then (zbD,0,2) else
  (zbJ (zae m w.toNat) (cq (zae m w.toNat)),((zX (cq (zae m w.toNat)) ((zI m.W.toNat (zi m) w.toNat).idxOf w.toNat):Nat):Int),0)
theorem zxO (hT:zdf T) (hX:zf9 T) (m:KM) (h12:za m=0→m.W≤12) (w:Int):Fn Tryz.prog T zhr [.d (dKM m),.d (.int .i64 w)] [] (.d (.tup [dKM (zar m w).1,.int .i64 (zar m w).2.1,.int .i64 (zar m w).2.2])) []:=by
 have ccx:=zaI (T:=T) m
 refine zb zn zmY (by show 2≤62;decide) ?_
 by_cases hk0:za m=0
 ·have h12:=h12 hk0
  have hg0:=zx hk0
  have w1:=hg0.w1
  rw [hk0] at ccx
  by_cases hw:w < 0∨m.W≤w
  ·(repeat' ((conv=>whnf);first|refine vA ?_|refine vH ?_|(refine vF ?_ ?_<;>intro hc<;>try simp only [vL] at hc)|refine vT ?_|(refine vP ?_ ?_;·omega)|refine yD ccx ⟨⟨rfl,rfl⟩,rfl⟩ rfl ?_));all_goals try conv=>whnf
   iterate 2 (rw [zar,if_neg (by omega),if_pos hw];rfl)
   exfalso;omega
  ·obtain ⟨w,rfl⟩ : ∃ v:Nat,w=(v:Int):=⟨w.toNat,by omega⟩
   have hwl:w < m.W.toNat:=by omega
   have hbit : ∀ v,(1#64 <<< w).getLsbD v=true→v < m.W.toNat:=fun v hv=>by have:=(znJ (by omega)).1 hv;omega
   have hl:=zuW hk0 hwl
   have hroot:=zfM (R:=zi m) hwl
   have hlen:=zj9 (n:=m.W.toNat) (R:=zi m) (w:=w)
   have cg:=zlO hT hk0 hbit
   have cr:=zmM hT hk0 (s:=zhH m (1#64 <<< w)) (fun e=>by
    rw [e,zfs] at hl;rw [← hl] at hroot;cases hroot) (fun v hv=>((zid hk0).1 hv).lt)
   rw [hl] at cr
   generalize zhH m (1#64 <<< w)=gs at cg cr
   have hres:zar m (w:Int)=(zbJ (zae m w) (cq (zae m w)),((zX (cq (zae m w)) ((zI m.W.toNat (zi m) w).idxOf w):Nat):Int),0):=by
    rw [zar,if_neg (by omega),if_neg hw,Int.toNat_natCast]
   rw [hres]
   clear hl
   have hll:1≤(zI m.W.toNat (zi m) w).length:=List.length_pos_of_mem hroot
   have hp0:za (zae m w)=0:=zqa hk0 hll (by omega)
   have hpW:(zae m w).W.toNat=(zI m.W.toNat (zi m) w).length:=Int.toNat_natCast _
   have hpI:(zae m w).W=((zI m.W.toNat (zi m) w).length:Int):=rfl
   change Fn _ _ _ _ _ (.d (.tup [dKM (zae m w),_,_])) _ at cr
   have cm:=zwb (T:=T) hT hX (zae m w) (fun _=>by rw [hpI];omega)
   rw [show zve (zae m w)=(zbJ (zae m w) (cq (zae m w)),ptL (zae m w).W.toNat (zX (cq (zae m w))),0) by rw [zve,if_neg (by omega)]] at cm
   have ci:=ziI (T:=T) ((zI m.W.toNat (zi m) w).map fun (x:Nat)=>(x:Int)) (w:Int)
   rw [zsS hroot] at ci
   have hix:=List.idxOf_lt_length_of_mem hroot
   generalize zae m w=g at cr cm hpW hp0
   generalize zI m.W.toNat (zi m) w=l at cr cm ci hpW hix
   have e1:=zbp (n:=g.W.toNat) (q:=zX (cq g)) (w:=l.idxOf w) (by omega)
   (repeat' ((conv=>whnf);first|refine vA ?_|refine vH ?_|(refine vF ?_ ?_<;>intro hc<;>try simp only [vL] at hc)|refine vT ?_|refine vN ‹_› ?_|(refine vP ?_ ?_;·omega)|(refine vU ?_ ?_;·kernel_rfl)|refine yD ccx ⟨⟨rfl,rfl⟩,rfl⟩ rfl ?_|refine yN cg ⟨⟨rfl,rfl⟩,⟨rfl,rfl⟩,rfl⟩ ?_|refine yN cr ⟨⟨rfl,rfl⟩,⟨rfl,rfl⟩,rfl⟩ ?_|refine yN cm ⟨⟨rfl,rfl⟩,rfl⟩ ?_|refine yD ci ⟨⟨rfl,rfl⟩,⟨rfl,rfl⟩,rfl⟩ rfl ?_));all_goals try conv=>whnf
   ·exfalso;omega
   ·rfl
   all_goals skip
 ·(repeat' ((conv=>whnf);first|refine vA ?_|((first|refine vD ?_ ?_|refine vF ?_ ?_)<;>intro hc<;>try simp only [vL] at hc)|refine vT ?_|(refine vP ?_ ?_;·omega)|refine yD ccx ⟨⟨rfl,rfl⟩,rfl⟩ rfl ?_));all_goals try conv=>whnf
  ·rw [zar,if_pos hk0];rfl
  all_goals exact absurd ‹za m=0› hk0
noncomputable def cnL (m:KM) (w:Int):KM×Int:=if (zar m w).2.2≠0 then (zbD,(zar m w).2.2) else ((zgL (zar m w).1 (zar m w).2.1).1,(zgL (zar m w).1 (zar m w).2.1).2.2)
theorem zrh {m:KM} {w:Int} (hk0:za m=0) (hw : ¬(w < 0∨m.W≤w)):zar m w=(zbJ (zae m w.toNat) (cq (zae m w.toNat)),((zX (cq (zae m w.toNat)) ((zI m.W.toNat (zi m) w.toNat).idxOf w.toNat):Nat):Int),0):=by
 rw [zar,if_neg (by omega),if_neg hw]
theorem zwQ {m:KM} {w:Nat} (hk0:za m=0) (hw:w < m.W.toNat):za (zae m w)=0∧(zae m w).W.toNat=(zI m.W.toNat (zi m) w).length∧(zae m w).W≤m.W∧1≤(zae m w).W:=by
 have hg:=zx hk0
 have w1:=hg.w1
 have w2:=hg.w2
 have hroot:=zfM (R:=zi m) hw
 have hlen:=zj9 (n:=m.W.toNat) (R:=zi m) (w:=w)
 have hpos:=List.length_pos_of_mem hroot
 have hpI:(zae m w).W=((zI m.W.toNat (zi m) w).length:Int):=rfl
 exact ⟨zqa hk0 hpos (by omega),Int.toNat_natCast _,by omega,by omega⟩
theorem zzQ {m:KM} {w:Int} (h12:za m=0→m.W≤12) (h:(zar m w).2.2=0):za m=0∧0≤w∧w < m.W∧za (zar m w).1=0∧(zar m w).1.W≤12:=by
 by_cases hk0:za m=0
 ·by_cases hw:w < 0∨m.W≤w
  ·rw [zar,if_neg (by omega),if_pos hw] at h;cases h
  ·have h12:=h12 hk0
   obtain ⟨h1,h2,h3,-⟩:=zwQ hk0 (w:=w.toNat) (by omega)
   rw [zrh hk0 hw]
   refine ⟨hk0,by omega,by omega,zzU h1 (zgM _),?_⟩
   have:=zdE (zae m w.toNat).W.toNat (cq (zae m w.toNat))
   show ((zC (zae m w.toNat).W.toNat (cq (zae m w.toNat)):Nat):Int)≤12
   omega
 ·rw [zar,if_pos hk0] at h;exact absurd h hk0
theorem zlP (hT:zdf T) (hX:zf9 T) (m:KM) (h12:za m=0→m.W≤12) (w:Int):Fn Tryz.prog T zgn [.d (dKM m),.d (.int .i64 w)] [] (.d (dKI (cnL m w))) []:=by
 have cp:=zxO (T:=T) hT hX m h12 w
 have hs:=zzQ (m:=m) (w:=w) h12
 refine zb zn zll (by show 2≤31;decide) ?_
 obtain ⟨x,hx⟩ : ∃ x,x=zar m w:=⟨_,rfl⟩
 have hcn:cnL m w=if x.2.2≠0 then (zbD,x.2.2) else ((zgL x.1 x.2.1).1,(zgL x.1 x.2.1).2.2):=by rw [hx];rfl
 rw [← hx] at cp hs
 obtain ⟨g,v,e⟩:=x
 rw [hcn]
 by_cases he:e=0
 ·have h1:=hs he
  have c2:=zuK (T:=T) hT g (fun _=>h1.2.2.2.2) v
  rw [if_neg (not_not_intro he)]
  (repeat' ((conv=>whnf);first|refine vA ?_|(refine vD ?_ ?_<;>intro hc<;>try simp only [vL] at hc)|refine vT ?_|refine yN cp ⟨⟨rfl,rfl⟩,⟨rfl,rfl⟩,rfl⟩ ?_|refine yN c2 ⟨⟨rfl,rfl⟩,⟨rfl,rfl⟩,rfl⟩ ?_));all_goals try conv=>whnf
  ·exact absurd he ‹_›
  ·rfl
 ·rw [if_pos he]
  (repeat' ((conv=>whnf);first|refine vA ?_|(refine vD ?_ ?_<;>intro hc<;>try simp only [vL] at hc)|refine vT ?_|refine yN cp ⟨⟨rfl,rfl⟩,⟨rfl,rfl⟩,rfl⟩ ?_));all_goals try conv=>whnf
  ·rfl
  ·exact absurd ‹e=0› he
noncomputable def zyn (a:KM) (v:Int) (b:KM) (w:Int):Bool×Int :=
 if za a≠0 then (false,za a) else if za b≠0 then (false,za b) else if a.rel.length≠b.rel.length∨a.val.length≠b.val.length then (false,1) else
  if (cnL a v).2≠0 then (false,(cnL a v).2) else if (cnL b w).2≠0 then (false,(cnL b w).2) else (decide ((cnL a v).1=(cnL b w).1),0)
theorem zET (hT:zdf T) (hX:zf9 T) (a b:KM) (ha:za a=0→a.W≤12) (hb:za b=0→b.W≤12) (v w:Int):Fn Tryz.prog T zjj [.d (dKM a),.d (.int .i64 v),.d (dKM b),.d (.int .i64 w)] [] (.d (.tup [.bool (zyn a v b w).1,.int .i64 (zyn a v b w).2])) []:=by
 have c1:=zlP (T:=T) hT hX a ha v
 have c2:=zlP (T:=T) hT hX b hb w
 refine zb zn zrc (by show 4≤62;decide) ?_
 obtain ⟨x,hx⟩ : ∃ x,x=cnL a v:=⟨_,rfl⟩
 obtain ⟨y,hy⟩ : ∃ y,y=cnL b w:=⟨_,rfl⟩
 have hs:zyn a v b w=if za a≠0 then (false,za a) else if za b≠0 then (false,za b) else if a.rel.length≠b.rel.length∨a.val.length≠b.val.length then (false,1) else
  if x.2≠0 then (false,x.2) else if y.2≠0 then (false,y.2) else (decide (x.1=y.1),0):=by rw [hx,hy];rfl
 rw [← hx] at c1
 rw [← hy] at c2
 rw [hs]
 clear hs hx hy
 obtain ⟨x,e⟩:=x
 obtain ⟨y,e'⟩:=y
 dsimp only
 (repeat' ((conv=>whnf);first|refine vA ?_|(refine vD ?_ ?_<;>intro hc<;>try simp only [vL] at hc)|refine vJ fun hg=>?_|refine vT ?_|refine yD (zaI _) ⟨⟨rfl,rfl⟩,rfl⟩ rfl ?_|refine yN c1 ⟨⟨rfl,rfl⟩,⟨rfl,rfl⟩,rfl⟩ ?_|refine yN c2 ⟨⟨rfl,rfl⟩,⟨rfl,rfl⟩,rfl⟩ ?_|refine yD (zBm _ _) ⟨⟨rfl,rfl⟩,⟨rfl,rfl⟩,rfl⟩ rfl ?_));all_goals try conv=>whnf
 ·rw [if_pos (by omega)];rfl
 ·rw [if_neg (by omega),if_pos (by omega)];rfl
 iterate 2 (rw [if_neg (by omega),if_neg (by omega),if_pos (by omega)];rfl)
 ·rw [if_neg (by omega),if_neg (by omega),if_neg (by omega),if_pos (by omega)];rfl
 ·rw [if_neg (by omega),if_neg (by omega),if_neg (by omega),if_neg (by omega),if_pos (by omega)];rfl
 ·rw [if_neg (by omega),if_neg (by omega),if_neg (by omega),if_neg (by omega),if_neg (by omega)];rfl
end Go.Ab
namespace Go.Ab
open Go Go.Proofs
set_option maxRecDepth 10000
set_option maxHeartbeats 4000000
variable {T:Nat→Obj→Prop}
theorem zA2 {n:Nat} {q:Nat→Nat} : zC n q=n ↔ ∀ w,w < n→q w=w:=by
 unfold zC
 have h:=List.length_filter_eq_length_iff (p:=fun w=>decide (q w=w)) (l:=List.range n)
 rw [List.length_range] at h
 rw [h]
 exact ⟨fun k w hw=>of_decide_eq_true (k w (List.mem_range.2 hw)),fun k w hw=>decide_eq_true (k w (List.mem_range.1 hw))⟩
end Go.Ab
namespace Go.Ab
open Go Go.Proofs
set_option maxRecDepth 10000
set_option maxHeartbeats 4000000
def exQ:KM:=⟨4,[12#64],[[4#64,8#64,4#64,8#64]]⟩
def zBJ:KM:=⟨1,[1#64],[[1#64]]⟩
def zCi:KM:=⟨2,[2#64],[[2#64,2#64]]⟩
def zA7:KM:=⟨2,[],[[2#64,1#64]]⟩
theorem znw {m:KM} {l:List Int} (hk0:za m=0) (h:ptL m.W.toNat (zax m 1)=ptL m.W.toNat (zax m 0)) (h0:ptL m.W.toNat (zax m 0)=l):zgf m=(l,0):=by
 have w1:=(zx hk0).w1
 rw [zgf,if_neg (by omega),← zwJ (m:=m) (k:=0) (by omega) h,h0]
theorem zDU:zgf exQ=([0,0,2,2],0):=znw (by decide) (by decide) (by decide)
theorem zCR:zgf zBJ=([0],0):=znw (by decide) (by decide) (by decide)
theorem zCS:zgf zCi=([0,1],0):=znw (by decide) (by decide) (by decide)
theorem zCQ:zgf zA7=([0,0],0):=znw (by decide) (by decide) (by decide)
def zA3 (m:KM):Option (List Int):=cond (decide (m=exQ)) (some [0,0,2,2]) (cond (decide (m=zBJ)) (some [0]) (cond (decide (m=zCi)) (some [0,1]) (cond (decide (m=zA7)) (some [0,0]) none)))
theorem zCP {m:KM} {l:List Int} (h:zA3 m=some l):zgf m=(l,0):=by
 unfold zA3 at h
 cases h1:decide (m=exQ) with
 | true=>rw [h1] at h;cases h;rw [of_decide_eq_true h1];exact zDU
 | false =>
  rw [h1] at h
  cases h2:decide (m=zBJ) with
  | true=>rw [h2] at h;cases h;rw [of_decide_eq_true h2];exact zCR
  | false =>
   rw [h2] at h
   cases h3:decide (m=zCi) with
   | true=>rw [h3] at h;cases h;rw [of_decide_eq_true h3];exact zCS
   | false =>
    rw [h3] at h
    cases h4:decide (m=zA7) with
    | true=>rw [h4] at h;cases h;rw [of_decide_eq_true h4];exact zCQ
    | false=>rw [h4] at h;cases h
def zu6:Fs:=fun f vs obs =>
 cond (Nat.beq f zeh) (match vs,obs with
  | [.d d,.d (.arr 1 a)],[]=>match zsn d,zlg a with
   | some m,some p=>cond (decide (m.W≤12)) (some (.d (zxF (byL m p)),[])) none
   | _,_=>none
  | _,_=>none)
 (  cond (Nat.beq f zd6) (match vs,obs with
  | [.d d],[]=>match zsn d with
   | some m=>match zA3 m with
    | some l=>some (.d (.tup [dI l,.int .i64 0]),[])
    | none=>none
   | none=>none
  | _,_=>none)
 (cond (Nat.beq f zW) (match vs,obs with
  | [.d (.arr 1 a),.d (.arr 1 b)],[]=>match zki a,zki b with
   | some a,some b=>cond (zyo a) (some (.d (.int .i64 (zbe a b)),[])) none
   | _,_=>none
  | _,_=>none)
 (cond (Nat.beq f za7) (match vs,obs with
  | [.d (.u64 w)],[]=>some (.d (.int .i64 (Lib.ctz 64 w.toNat)),[])
  | _,_=>none)
 (cond (Nat.beq f zez) (match vs,obs with
  | [.d (.u64 w)],[]=>some (.d (.int .i64 (Sort.bitsLen w.toNat:Int)),[])
  | _,_=>none)
 (cond (Nat.beq f zfz) (match vs,obs with
  | [.d d],[]=>match zsn d with
   | some m=>some (.d (.int .i64 (za m)),[])
   | none=>none
  | _,_=>none)
 (cond (Nat.beq f zfA) (match vs,obs with
  | [.d d,.d (.int .i64 w)],[]=>match zsn d with
   | some m=>some (.d (.int .i64 (zmC m w)),[])
   | none=>none
  | _,_=>none) none))))))
def zEX (f:Nat):Bool:=Nat.beq f zan||(Nat.beq f zE||(Nat.beq f zfm||(Nat.beq f zbi||Nat.beq f zcz)))
noncomputable def zDT:Cfg:=⟨zd Tryz.prog,zu6,fun _ _ _=>none,zEX,fun f=>Nat.beq f zk4||(Nat.beq f zjC||Nat.beq f zdK),150⟩
variable {T:Nat→Obj→Prop}
theorem zzA (hT:zdf T) (hX:zf9 T):zxq Tryz.prog T zu6:=by
 intro f vs obs v obs' h
 unfold zu6 at h
 cases hb0:Nat.beq f zeh with
 | true =>
  rw [hb0,cond_true] at h
  rw [Nat.eq_of_beq_eq_true hb0]
  split at h
  ·split at h
   ·rename_i m p hm hp
    rw [znH hm,zpu hp]
    cases hc:decide (m.W≤12) with
    | true=>rw [hc] at h;cases h;exact zEF m p fun _=>of_decide_eq_true hc
    | false=>rw [hc] at h;cases h
   ·cases h
  ·cases h
 | false =>
 rw [hb0,cond_false] at h
 cases h0:Nat.beq f zd6 with
 | true =>
  rw [h0,cond_true] at h
  rw [Nat.eq_of_beq_eq_true h0]
  split at h
  ·split at h
   ·rename_i m hm
    split at h
    ·rename_i hl
     cases h
     rw [znH hm]
     have:=zmK (T:=T) hT hX m
     rw [zCP hl] at this
     exact this
    ·cases h
   ·cases h
  ·cases h
 | false =>
 rw [h0,cond_false] at h
 cases h1:Nat.beq f zW with
 | true =>
  rw [h1,cond_true] at h
  rw [Nat.eq_of_beq_eq_true h1]
  split at h
  ·split at h
   ·rename_i a b ha hb
    rw [zm1 ha,zm1 hb]
    cases hc:zyo a with
    | true=>rw [hc] at h;cases h;exact ziJ _ _ (zDw hc)
    | false=>rw [hc] at h;cases h
   ·cases h
  ·cases h
 | false =>
  rw [h1,cond_false] at h
  cases h2:Nat.beq f za7 with
  | true =>
   rw [h2,cond_true] at h
   rw [Nat.eq_of_beq_eq_true h2]
   split at h
   ·cases h;exact hT _
   ·cases h
  | false =>
   rw [h2,cond_false] at h
   cases h3:Nat.beq f zez with
   | true =>
    rw [h3,cond_true] at h
    rw [Nat.eq_of_beq_eq_true h3]
    split at h
    ·cases h;exact zuN _
    ·cases h
   | false =>
    rw [h3,cond_false] at h
    cases h4:Nat.beq f zfz with
    | true =>
     rw [h4,cond_true] at h
     rw [Nat.eq_of_beq_eq_true h4]
     split at h
     ·split at h
      ·rename_i hm;cases h;rw [znH hm];exact zaI _
      ·cases h
     ·cases h
    | false =>
     rw [h4,cond_false] at h
     cases h5:Nat.beq f zfA with
     | true =>
      rw [h5,cond_true] at h
      rw [Nat.eq_of_beq_eq_true h5]
      split at h
      ·split at h
       ·rename_i hm;cases h;rw [znH hm];exact zhw _ _
       ·cases h
      ·cases h
     | false=>rw [h5] at h;cases h
theorem zCK (hT:zdf T) (hX:zf9 T):zxn Tryz.prog T zDT:=⟨fun f c h=>h,zzA hT hX,fun g vs obs xs h=>by cases h⟩
end Go.Ab
namespace Go.Ab
open Go Go.Proofs
set_option maxRecDepth 10000
set_option maxHeartbeats 4000000
variable {T:Nat→Obj→Prop}
theorem zzE {m:KM} {l:List Nat} (h2:l.length≤64):(zeV (zS m l) (-1)).2=(zcP l.length (zM l (zi m)) (fun i=>[[1],[zat l (zF m) i]])).2:=by
 have hid:Ren l.length fun w=>w:=⟨fun _ h=>h,fun _ _ _ _ h=>h⟩
 have:=znL hid (zub h2 (m:=m)) (first:=fun i=>[[1],[zat l (zF m) i]]) (first':=mkT (zS m l) (-1)) fun i hi=>by
  unfold mkT
  rw [if_neg (by omega),znu h2 hi]
 unfold zeV
 rw [show (zS m l).W.toNat=l.length from Int.toNat_natCast _]
 exact this.2.2.2
theorem zCJ {m:KM} (hk0:za m=0) {w:Nat} (hw:w < m.W.toNat):zgL m (w:Int)=if zjF (zS m (zI m.W.toNat (zi m) w))=false then (zbD,[],16) else (zS m (zd0 m w),(zd0 m w).map fun (x:Nat)=>(x:Int),0):=by
 rw [zgL,if_neg (by omega),if_neg (by omega),Int.toNat_natCast]
end Go.Ab
namespace Go.Ab
open Go
theorem zdz.refl' {n:Nat} {fa fb:Nat→Int} {R R':zD} (hf : ∀ w,w < n→fb w=fa w) (hl:R'.length=R.length) (hR : ∀ (i:Nat) r r',R[i]? = some r→R'[i]? = some r' → ∀ v w,v < n→w < n→r' v w=r v w):zdz n fa fb R R' fun w=>w :=
 ⟨⟨fun _ h=>h,fun _ _ _ _ e=>e⟩,hf,⟨hl,fun i r r' h1 h2 v w hv hw=>hR i r r' h1 h2 v w hv hw⟩⟩
theorem zA4 {n:Nat} {R R':zD} {fa fb:Nat→Int} (h:zdz n fa fb R R' fun w=>w) {w:Nat} (hw:w < n):coa n R' fb w=coa n R fa w:=by
 have S:=zd1 n R fa
 have S':=zd1 n R' fb
 have B:=h.bis
 rw [← zkW S'.canon hw,← zkW S.canon hw]
 refine ziP fun v hv=>?_
 unfold zbB
 rw [Bool.eq_iff_iff,decide_eq_true_eq,decide_eq_true_eq]
 constructor
 ·intro e
  exact zjP ((B.trans S'.bis).trans B.symm) (v:=v) (w:=w) ⟨w,⟨v,⟨by omega,rfl⟩,by omega,hw,e⟩,hw,rfl⟩
 ·intro e
  exact zjP ((B.symm.trans S.bis).trans B) (v:=v) (w:=w) ⟨w,⟨v,⟨by omega,rfl⟩,by omega,hw,e⟩,hw,rfl⟩
theorem zA9 {n:Nat} {R:zD} {fa:Nat→Int} : ziq n R fa ↔ ∀ Z,zcL n n R R fa fa Z → ∀ v w,Z v w→v=w:=by
 constructor
 ·intro h Z B v w hz;exact h.eq B hz
 ·intro h i hi
  have S:=zd1 n R fa
  have:=S.canon.le i hi
  exact h _ S.bis _ _ ⟨by omega,hi,S.canon.idem i hi⟩
theorem zwN {n:Nat} {R R':zD} {fa fb:Nat→Int} {f:Nat→Nat} (h:zdz n fa fb R R' f) (hd:ziq n R fa):ziq n R' fb:=by
 rw [zA9] at hd ⊢
 intro Z B v w hz
 have hvw:=B.lt hz
 obtain ⟨v',hv',rfl⟩:=h.ren.surj hvw.1
 obtain ⟨w',hw',rfl⟩:=h.ren.surj hvw.2
 have:=hd _ ((h.bis.trans B).trans h.bis.symm) v' w' ⟨_,⟨_,⟨hv',rfl⟩,hz⟩,hw',rfl⟩
 rw [this]
section
variable {n:Nat} {q q':Nat→Nat} (h : ∀ w,w < n→q w=q' w)
include h
theorem zsI {k:Nat} (hk:k≤n):zC k q=zC k q':=by
 unfold zC
 congr 1
 exact List.filter_congr fun w hw=>by rw [h w (by have:=List.mem_range.1 hw;omega)]
theorem zzZ:zbg n q=zbg n q':=by
 unfold zbg
 exact List.filter_congr fun w hw=>by rw [h w (List.mem_range.1 hw)]
theorem zhD (hq:za2 n q) {w:Nat} (hw:w < n):zX q w=zX q' w:=by
 unfold zX
 have:=hq.le w hw
 rw [zsI h (by omega),h w hw]
theorem zzS (hq:za2 n q) {r r':Nat→Nat→Bool} (hr : ∀ v w,v < n→w < n→r v w=r' v w) (i j:Nat):zdQ n q r i j=zdQ n q' r' i j:=by
 rw [Bool.eq_iff_iff,ziT,ziT]
 constructor
 ·rintro ⟨v,w,a,b,c,d,e⟩
  exact ⟨v,w,a,b,by rw [← zhD h hq a];exact c,by rw [← zhD h hq b];exact d,by rw [← hr v w a b];exact e⟩
 ·rintro ⟨v,w,a,b,c,d,e⟩
  exact ⟨v,w,a,b,by rw [zhD h hq a];exact c,by rw [zhD h hq b];exact d,by rw [hr v w a b];exact e⟩
end
def ptM (m:KM) (w:Nat):Ptd:=⟨m.W.toNat,zi m,zF m,w⟩
section
variable {m:KM} (hk0:za m=0) {w:Nat} (hw:w < m.W.toNat)
include hk0 hw
theorem zkv:let Q:=(zar m (w:Int)).1;Q.W.toNat=(ptM m w).min.n∧za Q=0∧(zar m (w:Int)).2.1=(((ptM m w).min.root:Nat):Int)∧zdz (ptM m w).min.n (ptM m w).min.fa (zF Q) (ptM m w).min.R (zi Q) fun x=>x:=by
 intro Q
 have hg0:=zx hk0
 have w2:=hg0.w2
 have hW : ¬((w:Int) < 0∨m.W≤(w:Int)):=by omega
 have hQ:zar m (w:Int)=_:=zrh hk0 hW
 rw [Int.toNat_natCast] at hQ
 obtain ⟨hp0,hpW,hpI,hp1⟩:=zwQ hk0 hw
 have hQ1:Q=zbJ (zae m w) (cq (zae m w)):=congrArg Prod.fst hQ
 have hlen:=zj9 (n:=m.W.toNat) (R:=zi m) (w:=w)
 have hid:zdz (zI m.W.toNat (zi m) w).length (zat (zI m.W.toNat (zi m) w) (zF m)) (zF (zae m w)) (zM (zI m.W.toNat (zi m) w) (zi m)) (zi (zae m w)) fun x=>x :=
  zdz.refl' (fun x hx=>znu (by omega) hx) (by simp [zM,zi,zae,zS]) fun i r r' h1 h2 v u hv hu=>zrF (by omega) h2 h1 hv hu
 have hcq : ∀ x,x < (zI m.W.toNat (zi m) w).length→cq (zae m w) x=coa (zI m.W.toNat (zi m) w).length (zM (zI m.W.toNat (zi m) w) (zi m)) (zat (zI m.W.toNat (zi m) w) (zF m)) x:=fun x hx=>by
  rw [zDV (by omega) (by omega) (by omega),hpW]
  exact zA4 hid hx
 have hcan:za2 (zI m.W.toNat (zi m) w).length (cq (zae m w)):=by rw [← hpW];exact zgM _
 have hcnt:=zsI hcq (Nat.le_refl _)
 have hroot:=zfM (R:=zi m) hw
 have hix:=List.idxOf_lt_length_of_mem hroot
 have hQW:Q.W.toNat=zC (zI m.W.toNat (zi m) w).length (cq (zae m w)):=by rw [hQ1];show ((zC (zae m w).W.toNat (cq (zae m w)):Nat):Int).toNat=_;rw [Int.toNat_natCast,hpW]
 refine ⟨hQW.trans hcnt,by rw [hQ1];exact zzU hp0 (zgM _),?_,zdz.refl' (fun i hi=>?_) ?_ fun i r r' h1 h2 a b ha hb=>?_⟩
 ·rw [hQ]
  show ((zX (cq (zae m w)) _:Nat):Int)=_
  rw [zhD hcq hcan hix];rfl
 ·have hi':i < zC (zae m w).W.toNat (cq (zae m w)):=by rw [hpW,hcnt];exact hi
  rw [hQ1,zDl (by omega) hi']
  rw [show (ptM m w).min.fa i=ziS (zI m.W.toNat (zi m) w).length (coa (zI m.W.toNat (zi m) w).length (zM (zI m.W.toNat (zi m) w) (zi m)) (zat (zI m.W.toNat (zi m) w) (zF m))) (zat (zI m.W.toNat (zi m) w) (zF m)) i from rfl]
  unfold ziS
  rw [hpW,zzZ hcq]
  have hl:(zbg (zI m.W.toNat (zi m) w).length (coa (zI m.W.toNat (zi m) w).length (zM (zI m.W.toNat (zi m) w) (zi m)) (zat (zI m.W.toNat (zi m) w) (zF m)))).getD i 0 < (zI m.W.toNat (zi m) w).length:=by
   have hm:=zaq (l:=zbg (zI m.W.toNat (zi m) w).length (coa (zI m.W.toNat (zi m) w).length (zM (zI m.W.toNat (zi m) w) (zi m)) (zat (zI m.W.toNat (zi m) w) (zF m)))) (i:=i) hi
   exact List.mem_range.1 (List.mem_filter.1 hm).1
  exact hid.fac _ hl
 ·rw [hQ1]
  show (zi (zbJ (zae m w) (cq (zae m w)))).length=((zM _ (zi m)).map _).length
  simp [zi,zbJ,zM,zae,zS]
 ·have h1':((zM (zI m.W.toNat (zi m) w) (zi m)).map (zdQ (zI m.W.toNat (zi m) w).length (coa (zI m.W.toNat (zi m) w).length (zM (zI m.W.toNat (zi m) w) (zi m)) (zat (zI m.W.toNat (zi m) w) (zF m)))))[i]? = some r:=h1
  rw [List.getElem?_map,Option.map_eq_some_iff] at h1'
  obtain ⟨s,hs,rfl⟩:=h1'
  obtain ⟨s',hs'⟩:=zf4 hid.rel.len hs
  rw [hQ1] at h2
  have h3:((zi (zae m w)).map (zdQ (zae m w).W.toNat (cq (zae m w))))[i]? = some (zdQ (zae m w).W.toNat (cq (zae m w)) s'):=by rw [List.getElem?_map,hs'];rfl
  rw [zDm (by omega) h2 h3 (by rw [hpW,hcnt];exact ha) (by rw [hpW,hcnt];exact hb),hpW]
  exact zzS hcq hcan (fun v u hv hu=>hid.rel.rel i s s' hs hs' v u hv hu) a b
theorem zBP:ziq (zar m (w:Int)).1.W.toNat (zi (zar m (w:Int)).1) (zF (zar m (w:Int)).1):=by
 obtain ⟨h1,h2,h3,h4⟩:=zkv hk0 hw
 rw [h1]
 exact zwN h4 (zeb (ptM m w))
theorem zvu:(ptM m w).min.root < (ptM m w).min.n:=zfP (m:=ptM m w) hw
theorem zw5:zI (zar m (w:Int)).1.W.toNat (zi (zar m (w:Int)).1) (ptM m w).min.root=List.range (zar m (w:Int)).1.W.toNat:=by
 obtain ⟨h1,h2,h3,h4⟩:=zkv hk0 hw
 rw [h1]
 unfold zI
 refine List.filter_eq_self.2 fun i hi=>?_
 rw [@decide_eq_true_eq _ (Classical.propDecidable _)]
 exact Rch.iso (S:=(· = (ptM m w).min.root)) h4 (fun v _ e=>e) (zm2 (m:=ptM m w) hw i (List.mem_range.1 hi))
theorem zBQ:zjF (zS (zar m (w:Int)).1 (zI (zar m (w:Int)).1.W.toNat (zi (zar m (w:Int)).1) (ptM m w).min.root))=true:=by
 obtain ⟨h1,h2,h3,h4⟩:=zkv hk0 hw
 have hd:=zBP hk0 hw
 have hg:=zw5 hk0 hw
 have w2:=(zx h2).w2
 rw [hg]
 generalize (zar m (w:Int)).1=Q at *
 have hr:=zk1 hd 0
 have hl:(List.range Q.W.toNat).length=Q.W.toNat:=List.length_range
 unfold zjF
 rw [decide_eq_true_eq,zzE (by omega),show (zS Q (List.range Q.W.toNat)).W.toNat=(List.range Q.W.toNat).length from Int.toNat_natCast _]
 refine (zvf (fa:=zat (List.range Q.W.toNat) (zF Q)) fun v u _ _=>by simp).1 ?_
 show zC _ (coa (List.range Q.W.toNat).length (zM (List.range Q.W.toNat) (zi Q)) (zat (List.range Q.W.toNat) (zF Q)))=_
 rw [zA2]
 have hid:zdz (List.range Q.W.toNat).length (zF Q) (zat (List.range Q.W.toNat) (zF Q)) (zi Q) (zM (List.range Q.W.toNat) (zi Q)) fun x=>x :=
  zdz.refl' (fun x hx=>by unfold zat;rw [show (List.range Q.W.toNat).getD x 0=x by simp [List.getD,show x < Q.W.toNat by omega]]) (by simp [zM]) fun i r r' e1 e2 v u hv hu=>by
   unfold zM at e2
   rw [List.getElem?_map,e1] at e2
   cases e2
   show r ((List.range Q.W.toNat).getD v 0) ((List.range Q.W.toNat).getD u 0)=r v u
   rw [show (List.range Q.W.toNat).getD v 0=v by simp [List.getD,show v < Q.W.toNat by omega],show (List.range Q.W.toNat).getD u 0=u by simp [List.getD,show u < Q.W.toNat by omega]]
 rw [hl] at hid ⊢
 exact fun x hx=>zwN hid hd x hx
theorem zEC:cnL m (w:Int)=(zS (zar m (w:Int)).1 (zd0 (zar m (w:Int)).1 (ptM m w).min.root),0):=by
 obtain ⟨h1,h2,h3,h4⟩:=zkv hk0 hw
 have hr:=zvu hk0 hw
 have he:(zar m (w:Int)).2.2=0:=by rw [zrh hk0 (by omega)]
 unfold cnL
 rw [if_neg (not_not_intro he),h3,zCJ h2 (by omega),if_neg (by rw [zBQ hk0 hw];decide)]
end
end Go.Ab
namespace Go.Ab
structure Nd where
 op:Int
 i:Int
 e:Int
 g:Int
 x:Int
 y:Int
 deriving DecidableEq,Inhabited
structure Hd where
 op:Int
 i:Int
 e:Int
 g:Int
 deriving DecidableEq,Inhabited
def Nd.hd (n:Nd):Hd:=⟨n.op,n.i,n.e,n.g⟩
def zdl (op:Int):Bool:=decide (1≤op∧op≤21)
def zaG (op:Int):Bool:=decide (4≤op∧op≤21)
def zau (op:Int):Bool:=decide (5≤op∧op≤8∨op=13∨op=14∨op=16∨op=19∨op=21)
def zag (op:Int):Bool:=decide (op=3)
def zT (op:Int):Bool:=decide (op=9∨op=10∨op=14∨op=15)
def zU (op:Int):Bool:=decide (op=17)
def zY (op:Int):Bool:=decide (11≤op∧op≤13)
def zbf (op:Int):Int :=
 if op=9∨op=10 then 1 else if op=11 then 2 else if op=12 then 4 else if op=13 then 8 else if op=14 then 16 else if op=15 then 32 else if op=16 then 64 else if op=17 then 128 else
 if 18≤op∧op≤21 then 256 else 0
theorem zbh {op:Int} (h:zau op=true):zaG op=true:=by
 simp only [zaG,zau,decide_eq_true_eq] at h ⊢;omega
def zjt (used:Bool) (f at_:Int):Bool:=used&&decide (0≤f)&&decide (f < at_) || !used&&decide (f=0)
def zci (used:Bool) (v lo hi:Int):Bool:=used&&(decide (v < lo)||decide (hi < v))
def zeU (n:Nd) (at_:Int):Int :=
 if zdl n.op=false then 10 else
 if zjt (zaG n.op) n.x at_=false∨zjt (zau n.op) n.y at_=false then 3 else
 if (!(zag n.op||zT n.op||zU n.op)&&decide (n.i≠0)||(!zU n.op&&decide (n.e≠0))||(!zY n.op&&decide (n.g≠0)))=true then 3 else
 if (zci (zag n.op) n.i 0 7||zci (zT n.op) n.i 0 3||zci (zU n.op) n.i 0 7||zci (zU n.op) n.e 0 7||zci (zY n.op) n.g 1 15)=true then 2 else 0
def zho:List Nd→Nat→Int
 | [],_=>0
 | n::r,k=>if zeU n k≠0 then zeU n k else zho r (k+1)
def zdi (f:List Nd):Int:=if f.length=0 then 3 else if 200 < f.length then 8 else zho f 0
def zbm (f:List Nd):Prop := ∀ (k:Nat) n,f[k]? = some n→zeU n k=0
theorem zmx : ∀ (f:List Nd) (k:Nat),zho f k=0 ↔ ∀ (j:Nat) n,f[j]? = some n→zeU n (k+j:Nat)=0
 | [],k=>by simp [zho]
 | n::r,k=>by
  unfold zho
  constructor
  ·intro h
   split at h
   ·contradiction
   ·rename_i h0
    intro j m hj
    cases j with
    | zero=>simp at hj;subst hj;simpa using h0
    | succ j =>
     have:=(zmx r (k+1)).1 h j m (by simpa using hj)
     rwa [show k+1+j=k+(j+1) by omega] at this
  ·intro h
   have h0:=h 0 n (by simp)
   rw [if_neg (by simpa using h0)]
   refine (zmx r (k+1)).2 fun j m hj=>?_
   have:=h (j+1) m (by simpa using hj)
   rwa [show k+(j+1)=k+1+j by omega] at this
theorem zfZ {f:List Nd} : zdi f=0↔0 < f.length∧f.length≤200∧zbm f:=by
 unfold zdi zbm
 have:=zmx f 0
 simp only [Nat.zero_add] at this
 by_cases h1:f.length=0
 ·rw [if_pos h1];omega
 ·rw [if_neg h1]
  by_cases h2:200 < f.length
  ·rw [if_pos h2];omega
  ·rw [if_neg h2,this]
   exact ⟨fun h=>⟨by omega,by omega,h⟩,fun h=>h.2.2⟩
theorem zso {n:Nd} {a:Int} (h:zeU n a=0):zdl n.op=true∧(zaG n.op=true→0≤n.x∧n.x < a)∧(zaG n.op=false→n.x=0)∧(zau n.op=true→0≤n.y∧n.y < a)∧(zau n.op=false→n.y=0) ∧
  (zag n.op=true→0≤n.i∧n.i≤7)∧(zT n.op=true→0≤n.i∧n.i≤3)∧(zU n.op=true→0≤n.i∧n.i≤7∧0≤n.e∧n.e≤7)∧(zY n.op=true→1≤n.g∧n.g≤15) ∧
  (zag n.op=false→zT n.op=false→zU n.op=false→n.i=0)∧(zU n.op=false→n.e=0)∧(zY n.op=false→n.g=0):=by
 unfold zeU at h
 split at h
 ·cases h
 ·rename_i h1
  split at h
  ·cases h
  ·rename_i h2
   split at h
   ·cases h
   ·rename_i h3
    split at h
    ·cases h
    ·rename_i h4
     generalize zaG n.op=a1 at *
     generalize zau n.op=a2 at *
     generalize zag n.op=a3 at *
     generalize zT n.op=a4 at *
     generalize zU n.op=a5 at *
     generalize zY n.op=a6 at *
     refine ⟨by simpa using h1,?_⟩
     simp only [zjt,zci] at h2 h3 h4
     cases a1<;>cases a2<;>cases a3<;>cases a4<;>cases a5<;>cases a6<;>simp at h2 h3 h4 ⊢ <;> omega
theorem zDe {n:Nd} {a:Int} (h:zdl n.op=true∧(zaG n.op=true→0≤n.x∧n.x < a)∧(zaG n.op=false→n.x=0)∧(zau n.op=true→0≤n.y∧n.y < a)∧(zau n.op=false→n.y=0) ∧
  (zag n.op=true→0≤n.i∧n.i≤7)∧(zT n.op=true→0≤n.i∧n.i≤3)∧(zU n.op=true→0≤n.i∧n.i≤7∧0≤n.e∧n.e≤7)∧(zY n.op=true→1≤n.g∧n.g≤15) ∧
  (zag n.op=false→zT n.op=false→zU n.op=false→n.i=0)∧(zU n.op=false→n.e=0)∧(zY n.op=false→n.g=0)):zeU n a=0:=by
 unfold zeU
 generalize zaG n.op=a1 at *
 generalize zau n.op=a2 at *
 generalize zag n.op=a3 at *
 generalize zT n.op=a4 at *
 generalize zU n.op=a5 at *
 generalize zY n.op=a6 at *
 rw [if_neg (by simp [h.1]),if_neg,if_neg,if_neg]
 all_goals
  try simp only [zjt,zci]
  cases a1<;>cases a2<;>cases a3<;>cases a4<;>cases a5<;>cases a6<;>simp at h ⊢ <;> omega
structure FSt where
 out:List Nd
 done:List (Nat×Nat)
def put (l:List Nd) (x:Nd):Nat×List Nd:=match l.idxOf? x with
 | some k=>(k,l)
 | none=>(l.length,l++[x])
def fin (f:List Nd):Nat→Nat→FSt→Nat×FSt
 | 0,_,s=>(0,s)
 | k+1,i,s=>match s.done.lookup i with
  | some r=>(r,s)
  | none =>
   let n:=f.getD i default
   let a:=cond (zaG n.op) (fin f k n.x.toNat s) (n.x.toNat,s)
   let b:=cond (zau n.op) (fin f k n.y.toNat a.2) (n.y.toNat,a.2)
   let p:=put b.2.out { n with x:=a.1,y:=b.1 }
   (p.1,⟨p.2,b.2.done++[(i,p.1)]⟩)
def zdh (f:List Nd) (root:Nat):List Nd:=(fin f (root+1) root ⟨[],[]⟩).2.out
inductive Tm where
 | z (h:Hd)
 | u (h:Hd) (x:Tm)
 | b (h:Hd) (x y:Tm)
def tm (f:List Nd):Nat→Nat→Tm
 | 0,_ => .z default
 | k+1,i =>
  let n:=f.getD i default
  cond (zau n.op) (.b n.hd (tm f k n.x.toNat) (tm f k n.y.toNat)) (cond (zaG n.op) (.u n.hd (tm f k n.x.toNat)) (.z n.hd))
def zaQ (f:List Nd) (i:Nat):Tm:=tm f (i+1) i
theorem zif {f:List Nd} (hf:zbm f) {i:Nat} (hi:i < f.length):zeU (f.getD i default) i=0:=hf i _ (by simp [hi])
theorem zbQ {f:List Nd} (hf:zbm f) {i:Nat} (hi:i < f.length) (h:zaG (f.getD i default).op=true):0≤(f.getD i default).x∧(f.getD i default).x.toNat < i:=by
 have:=(zso (zif hf hi)).2.1 h;omega
theorem zfv {f:List Nd} (hf:zbm f) {i:Nat} (hi:i < f.length) (h:zau (f.getD i default).op=true):0≤(f.getD i default).y∧(f.getD i default).y.toNat < i:=by
 have:=(zso (zif hf hi)).2.2.2.1 h;omega
theorem zik {f:List Nd} (hf:zbm f) : ∀ (k k' i:Nat),i < f.length→i < k→i < k'→tm f k i=tm f k' i
 | 0,_,_,_,h,_=>by omega
 | _+1,0,_,_,_,h=>by omega
 | k+1,k'+1,i,hi,h1,h2=>by
  unfold tm
  simp only
  cases hy:zau (f.getD i default).op with
  | true =>
   have e1:=zbQ hf hi (zbh hy)
   have e2:=zfv hf hi hy
   simp only [cond_true]
   rw [zik hf k k' _ (by omega) (by omega) (by omega),zik hf k k' (f.getD i default).y.toNat (by omega) (by omega) (by omega)]
  | false =>
   simp only [cond_false]
   cases hx:zaG (f.getD i default).op with
   | true =>
    have e1:=zbQ hf hi hx
    simp only [cond_true]
    rw [zik hf k k' _ (by omega) (by omega) (by omega)]
   | false=>rfl
theorem zii {f:List Nd} (hf:zbm f) {i:Nat} (hi:i < f.length):zaQ f i=cond (zau (f.getD i default).op) (.b (f.getD i default).hd (zaQ f (f.getD i default).x.toNat) (zaQ f (f.getD i default).y.toNat)) (cond (zaG (f.getD i default).op) (.u (f.getD i default).hd (zaQ f (f.getD i default).x.toNat)) (.z (f.getD i default).hd)):=by
 unfold zaQ
 rw [tm]
 try simp only
 cases hy:zau (f.getD i default).op with
 | true =>
  have e1:=zbQ hf hi (zbh hy)
  have e2:=zfv hf hi hy
  simp only [cond_true]
  rw [zik hf i _ _ (by omega) (by omega) (Nat.lt_succ_self _),zik hf i _ (f.getD i default).y.toNat (by omega) (by omega) (Nat.lt_succ_self _)]
 | false =>
  simp only [cond_false]
  cases hx:zaG (f.getD i default).op with
  | true =>
   have e1:=zbQ hf hi hx
   simp only [cond_true]
   rw [zik hf i _ _ (by omega) (by omega) (Nat.lt_succ_self _)]
  | false=>rfl
theorem zjz {f g:List Nd} (hf:zbm f) : ∀ (k i:Nat),i < f.length→tm (f++g) k i=tm f k i
 | 0,_,_=>rfl
 | k+1,i,hi=>by
  unfold tm
  simp only
  have e:(f++g).getD i default=f.getD i default:=by simp [List.getD,List.getElem?_append_left hi]
  rw [e]
  cases hy:zau (f.getD i default).op with
  | true =>
   have e1:=zbQ hf hi (zbh hy)
   have e2:=zfv hf hi hy
   simp only [cond_true]
   rw [zjz hf k _ (by omega),zjz hf k (f.getD i default).y.toNat (by omega)]
  | false =>
   simp only [cond_false]
   cases hx:zaG (f.getD i default).op with
   | true =>
    have e1:=zbQ hf hi hx
    simp only [cond_true]
    rw [zjz hf k _ (by omega)]
   | false=>rfl
theorem zcs {f g:List Nd} (hf:zbm f) {i:Nat} (hi:i < f.length):zaQ (f++g) i=zaQ f i:=zjz hf _ _ hi
def Tm.all (p:Hd→Prop):Tm→Prop
 | .z h=>p h
 | .u h x=>p h∧x.all p
 | .b h x y=>p h∧x.all p∧y.all p
def Tm.size:Tm→Nat
 | .z _=>1
 | .u _ x=>x.size+1
 | .b _ x y=>x.size+y.size+1
structure zoY (h:Hd):Prop where
 op:zdl h.op=true
 fact:zag h.op=true→0≤h.i∧h.i≤7
 agent:zT h.op=true→0≤h.i∧h.i≤3
 event:zU h.op=true→0≤h.i∧h.i≤7∧0≤h.e∧h.e≤7
 group:zY h.op=true→1≤h.g∧h.g≤15
 i0:zag h.op=false→zT h.op=false→zU h.op=false→h.i=0
 e0:zU h.op=false→h.e=0
 g0:zY h.op=false→h.g=0
theorem zdm {n:Nd} {a:Int} : zeU n a=0↔zoY n.hd∧(zaG n.op=true→0≤n.x∧n.x < a)∧(zaG n.op=false→n.x=0)∧(zau n.op=true→0≤n.y∧n.y < a)∧(zau n.op=false→n.y=0):=by
 constructor
 ·intro h
  obtain ⟨h1,h2,h3,h4,h5,h6,h7,h8,h9,h10,h11,h12⟩:=zso h
  exact ⟨⟨h1,h6,h7,h8,h9,h10,h11,h12⟩,h2,h3,h4,h5⟩
 ·rintro ⟨⟨h1,h6,h7,h8,h9,h10,h11,h12⟩,h2,h3,h4,h5⟩
  exact zDe ⟨h1,h2,h3,h4,h5,h6,h7,h8,h9,h10,h11,h12⟩
def Tm.ok:Tm→Prop
 | .z h=>zoY h∧zaG h.op=false∧zau h.op=false
 | .u h x=>zoY h∧zaG h.op=true∧zau h.op=false∧x.ok
 | .b h x y=>zoY h∧zaG h.op=true∧zau h.op=true∧x.ok∧y.ok
theorem zij {f:List Nd} (hf:zbm f) : ∀ (n i:Nat),i < n→i < f.length→(zaQ f i).ok
 | 0,_,h,_=>by omega
 | n+1,i,h,hi=>by
  rw [zii hf hi]
  have h0:=(zdm.1 (zif hf hi)).1
  cases hy:zau (f.getD i default).op with
  | true =>
   have e1:=zbQ hf hi (zbh hy)
   have e2:=zfv hf hi hy
   exact ⟨h0,zbh hy,hy,zij hf n _ (by omega) (by omega),zij hf n _ (by omega) (by omega)⟩
  | false =>
   cases hx:zaG (f.getD i default).op with
   | true =>
    have e1:=zbQ hf hi hx
    exact ⟨h0,hx,hy,zij hf n _ (by omega) (by omega)⟩
   | false=>exact ⟨h0,hx,hy⟩
def nd (h:Hd) (x y:Nat):Nd:=⟨h.op,h.i,h.e,h.g,x,y⟩
def ze:Tm→List Nd→Nat×List Nd
 | .z h,l=>put l (nd h 0 0)
 | .u h x,l=>put (ze x l).2 (nd h (ze x l).1 0)
 | .b h x y,l=>put (ze y (ze x l).2).2 (nd h (ze x l).1 (ze y (ze x l).2).1)
theorem zai {l:List Nd} {x:Nd} {k:Nat} (h:l.idxOf? x=some k):put l x=(k,l):=by unfold put;rw [h]
theorem zbG {l:List Nd} {x:Nd} (h:l.idxOf? x=none):put l x=(l.length,l++[x]):=by unfold put;rw [h]
theorem zlf {l m:List Nd} {x:Nd} {k:Nat} (h:l.idxOf? x=some k):(l++m).idxOf? x=some k:=by
 simp only [List.idxOf?] at h ⊢
 rw [List.findIdx?_append,h];rfl
theorem zr7 {l:List Nd} {x:Nd} {k:Nat} (h:l.idxOf? x=some k):l[k]? = some x:=by
 simp only [List.idxOf?] at h
 obtain ⟨h1,h2,h3⟩:=List.findIdx?_eq_some_iff_getElem.1 h
 simp at h2
 simp [h1,h2]
theorem zBt {l:List Nd} {x:Nd} (h:l.idxOf? x=none):(l++[x]).idxOf? x=some l.length:=by
 simp only [List.idxOf?] at h ⊢
 rw [List.findIdx?_append,h]
 simp
theorem zbq (l:List Nd) (x:Nd):(∃ m,(put l x).2=l++m)∧(put l x).2.idxOf? x=some (put l x).1:=by
 cases h:l.idxOf? x with
 | some k=>rw [zai h];exact ⟨⟨[],by simp⟩,h⟩
 | none=>rw [zbG h];exact ⟨⟨[x],rfl⟩,zBt h⟩
theorem zcl : ∀ (t:Tm) (l:List Nd),∃ m,(ze t l).2=l++m
 | .z h,l=>(zbq _ _).1
 | .u h x,l=>by
  obtain ⟨m,hm⟩:=zcl x l
  obtain ⟨m',hm'⟩:=(zbq (ze x l).2 (nd h (ze x l).1 0)).1
  exact ⟨m++m',by rw [ze,hm',hm,List.append_assoc]⟩
 | .b h x y,l=>by
  obtain ⟨m,hm⟩:=zcl x l
  obtain ⟨m2,hm2⟩:=zcl y (ze x l).2
  obtain ⟨m',hm'⟩:=(zbq (ze y (ze x l).2).2 (nd h (ze x l).1 (ze y (ze x l).2).1)).1
  exact ⟨m++m2++m',by rw [ze,hm',hm2,hm,List.append_assoc,List.append_assoc,List.append_assoc]⟩
def zdy (t:Tm) (l:List Nd) (r:Nat):Prop:=ze t l=(r,l)
theorem zdy.mono : ∀ {t:Tm} {l:List Nd} {r:Nat} (m:List Nd),zdy t l r→zdy t (l++m) r
 | .z h,l,r,m,hh=>by
  unfold zdy ze at *
  cases hi:l.idxOf? (nd h 0 0) with
  | some k=>rw [zai hi] at hh;cases hh;rw [zai (zlf hi)]
  | none=>rw [zbG hi] at hh;have:=congrArg (fun p=>p.2.length) hh;simp at this
 | .u h x,l,r,m,hh=>by
  unfold zdy at *
  obtain ⟨a,ha⟩:=zcl x l
  obtain ⟨b,hb⟩:=(zbq (ze x l).2 (nd h (ze x l).1 0)).1
  have e:a=[]∧b=[]:=by
   have:(ze (.u h x) l).2=l++a++b:=by rw [ze,hb,ha]
   rw [hh] at this
   have:=congrArg List.length this
   simp only [List.length_append] at this
   exact ⟨List.length_eq_zero_iff.1 (by omega),List.length_eq_zero_iff.1 (by omega)⟩
  obtain ⟨rfl,rfl⟩:=e
  rw [List.append_nil] at ha
  have hx:zdy x l (ze x l).1:=Prod.ext rfl ha
  have hx':=zdy.mono m hx
  unfold zdy at hx'
  rw [ze,ha] at hh
  rw [ze,hx']
  cases hi:l.idxOf? (nd h (ze x l).1 0) with
  | some k=>rw [zai hi] at hh;cases hh;exact zai (zlf hi)
  | none=>rw [zbG hi] at hh;have:=congrArg (fun p=>p.2.length) hh;simp at this
 | .b h x y,l,r,m,hh=>by
  unfold zdy at *
  obtain ⟨a,ha⟩:=zcl x l
  obtain ⟨c,hc⟩:=zcl y (ze x l).2
  obtain ⟨b,hb⟩:=(zbq (ze y (ze x l).2).2 (nd h (ze x l).1 (ze y (ze x l).2).1)).1
  have e:a=[]∧c=[]∧b=[]:=by
   have:(ze (.b h x y) l).2=l++a++c++b:=by rw [ze,hb,hc,ha]
   rw [hh] at this
   have:=congrArg List.length this
   simp only [List.length_append] at this
   exact ⟨List.length_eq_zero_iff.1 (by omega),List.length_eq_zero_iff.1 (by omega),List.length_eq_zero_iff.1 (by omega)⟩
  obtain ⟨rfl,rfl,rfl⟩:=e
  rw [List.append_nil] at ha hc
  rw [ha] at hc
  have hx:zdy x l (ze x l).1:=Prod.ext rfl ha
  have hy:zdy y l (ze y l).1:=Prod.ext rfl hc
  have hx':=zdy.mono m hx
  have hy':=zdy.mono m hy
  unfold zdy at hx' hy'
  rw [ze,ha,hc] at hh
  rw [ze,hx']
  simp only
  rw [hy']
  cases hi:l.idxOf? (nd h (ze x l).1 (ze y l).1) with
  | some k=>rw [zai hi] at hh;cases hh;exact zai (zlf hi)
  | none=>rw [zbG hi] at hh;have:=congrArg (fun p=>p.2.length) hh;simp at this
theorem zk6 : ∀ (t:Tm) (l:List Nd),zdy t (ze t l).2 (ze t l).1
 | .z h,l=>by
  unfold zdy ze
  exact zai (zbq _ _).2
 | .u h x,l=>by
  obtain ⟨m,hm⟩:=(zbq (ze x l).2 (nd h (ze x l).1 0)).1
  have h1:=(zk6 x l).mono m
  rw [← hm] at h1
  unfold zdy at *
  rw [ze,ze,h1]
  exact zai (zbq _ _).2
 | .b h x y,l=>by
  obtain ⟨m,hm⟩:=(zbq (ze y (ze x l).2).2 (nd h (ze x l).1 (ze y (ze x l).2).1)).1
  obtain ⟨m2,hm2⟩:=zcl y (ze x l).2
  have h1:=((zk6 x l).mono m2).mono m
  rw [← hm2] at h1
  have h2:=(zk6 y (ze x l).2).mono m
  rw [← hm] at h1 h2
  unfold zdy at *
  rw [ze,ze,h1]
  simp only
  rw [h2]
  exact zai (zbq _ _).2
theorem zkw (l:List Nd) (x:Nd):(put l x).1 < (put l x).2.length:=by
 have:=zr7 (zbq l x).2
 exact (List.getElem?_eq_some_iff.1 this).1
theorem znB : ∀ (t:Tm) (l:List Nd),(ze t l).1 < (ze t l).2.length
 | .z _,_=>zkw _ _
 | .u _ _,_=>zkw _ _
 | .b _ _ _,_=>zkw _ _
theorem zpO {l:List Nd} {x:Nd} (hl:zbm l) (h:zeU x l.length=0):zbm (put l x).2:=by
 cases hi:l.idxOf? x with
 | some k=>rw [zai hi];exact hl
 | none =>
  rw [zbG hi]
  intro k n hk
  simp only [List.getElem?_append] at hk
  split at hk
  ·exact hl k n hk
  ·rename_i h1
   have:k=l.length:=by
    have:=(List.getElem?_eq_some_iff.1 hk).1;simp at this;omega
   subst this
   simp at hk;subst hk;exact h
theorem zpP {l:List Nd} {x:Nd} (hl:zbm l) (h:zeU x l.length=0):(put l x).2.getD (put l x).1 default=x:=by
 have:=zr7 (zbq l x).2
 simp [List.getD,this]
theorem zzF {k:Nat} : ((k:Nat):Int).toNat=k:=by omega
theorem zb7 : ∀ (t:Tm) (l:List Nd),t.ok→zbm l→zbm (ze t l).2∧zaQ (ze t l).2 (ze t l).1=t
 | .z h,l,ht,hl=>by
  have hn:zeU (nd h 0 0) l.length=0:=zdm.2 ⟨ht.1,fun e=>by have:=ht.2.1;simp [nd] at e;simp [this] at e,fun _=>rfl,fun e=>by have:=ht.2.2;simp [nd] at e;simp [this] at e,fun _=>rfl⟩
  have h1:=zpO hl hn
  refine ⟨h1,?_⟩
  have h2:=zii h1 (zkw l (nd h 0 0))
  rw [zpP hl hn] at h2
  rw [ze,h2]
  simp only [nd,ht.2.1,ht.2.2,cond_false,Nd.hd]
 | .u h x,l,ht,hl=>by
  obtain ⟨a1,a2⟩:=zb7 x l ht.2.2.2 hl
  have a3:=znB x l
  have hn:zeU (nd h (ze x l).1 0) (ze x l).2.length=0:=zdm.2 ⟨ht.1,fun e=>⟨by simp [nd],by simp only [nd];omega⟩,fun e=>by have:=ht.2.1;simp [nd] at e;simp [this] at e,fun e=>by have:=ht.2.2.1;simp [nd] at e;simp [this] at e,fun _=>rfl⟩
  have h1:=zpO a1 hn
  refine ⟨h1,?_⟩
  have h2:=zii h1 (zkw (ze x l).2 (nd h (ze x l).1 0))
  rw [zpP a1 hn] at h2
  obtain ⟨m,hm⟩:=(zbq (ze x l).2 (nd h (ze x l).1 0)).1
  rw [ze,h2]
  simp only [nd,ht.2.1,ht.2.2.1,cond_false,cond_true,Nd.hd,zzF]
  have h3:zaQ (put (ze x l).2 (nd h (ze x l).1 0)).2 (ze x l).1=x:=by rw [hm,zcs a1 a3,a2]
  simp only [nd] at h3
  rw [h3]
 | .b h x y,l,ht,hl=>by
  obtain ⟨a1,a2⟩:=zb7 x l ht.2.2.2.1 hl
  have a3:=znB x l
  obtain ⟨b1,b2⟩:=zb7 y (ze x l).2 ht.2.2.2.2 a1
  have b3:=znB y (ze x l).2
  obtain ⟨m2,hm2⟩:=zcl y (ze x l).2
  have hn:zeU (nd h (ze x l).1 (ze y (ze x l).2).1) (ze y (ze x l).2).2.length=0:=zdm.2 ⟨ht.1,fun e=>⟨by simp [nd],by simp only [nd];rw [hm2,List.length_append];omega⟩,
   fun e=>by have:=ht.2.1;simp [nd] at e;simp [this] at e,fun e=>⟨by simp [nd],by simp only [nd];omega⟩,fun e=>by have:=ht.2.2.1;simp [nd] at e;simp [this] at e⟩
  have h1:=zpO b1 hn
  refine ⟨h1,?_⟩
  have h2:=zii h1 (zkw (ze y (ze x l).2).2 (nd h (ze x l).1 (ze y (ze x l).2).1))
  rw [zpP b1 hn] at h2
  obtain ⟨m,hm⟩:=(zbq (ze y (ze x l).2).2 (nd h (ze x l).1 (ze y (ze x l).2).1)).1
  rw [ze,h2]
  simp only [nd,ht.2.1,ht.2.2.1,cond_false,cond_true,Nd.hd,zzF]
  have h3:zaQ (put (ze y (ze x l).2).2 (nd h (ze x l).1 (ze y (ze x l).2).1)).2 (ze x l).1=x:=by
   rw [hm,zcs b1 (by rw [hm2,List.length_append];omega),hm2,zcs a1 a3,a2]
  have h4:zaQ (put (ze y (ze x l).2).2 (nd h (ze x l).1 (ze y (ze x l).2).1)).2 (ze y (ze x l).2).1=y:=by
   rw [hm,zcs b1 b3,b2]
  simp only [nd] at h3 h4
  rw [h3,h4]
theorem zsr (p:Hd→Prop) (l:List Nd) (x:Nd):(∀ n∈(put l x).2,p n.hd)↔(∀ n∈l,p n.hd)∧p x.hd:=by
 cases hi:l.idxOf? x with
 | some k =>
  rw [zai hi]
  have:=List.mem_of_getElem? (zr7 hi)
  exact ⟨fun h=>⟨h,h x this⟩,fun h=>h.1⟩
 | none =>
  rw [zbG hi]
  simp only [List.mem_append,List.mem_singleton]
  exact ⟨fun h=>⟨fun n hn=>h n (.inl hn),h x (.inr rfl)⟩,fun h n hn=>hn.elim (h.1 n) (fun e=>e▸h.2)⟩
theorem zk5 (p:Hd→Prop) : ∀ (t:Tm) (l:List Nd),(∀ n∈(ze t l).2,p n.hd)↔(∀ n∈l,p n.hd)∧t.all p
 | .z h,l=>zsr p l _
 | .u h x,l=>by
  rw [ze,zsr,zk5 p x l,Tm.all]
  exact ⟨fun ⟨⟨a,b⟩,c⟩=>⟨a,c,b⟩,fun ⟨a,c,b⟩=>⟨⟨a,b⟩,c⟩⟩
 | .b h x y,l=>by
  rw [ze,zsr,zk5 p y _,zk5 p x l,Tm.all]
  exact ⟨fun ⟨⟨⟨a,b⟩,d⟩,c⟩=>⟨a,c,b,d⟩,fun ⟨a,c,b,d⟩=>⟨⟨⟨a,b⟩,d⟩,c⟩⟩
theorem zkN : ∀ (t:Tm) (l:List Nd) (r:Nat),t.ok→zbm l→l.length≤r→r < (ze t l).2.length→(zaQ (ze t l).2 r).size≤t.size∧(r+1 < (ze t l).2.length→(zaQ (ze t l).2 r).size < t.size)
 | .z h,l,r,ht,hl,h1,h2=>by
  obtain ⟨o1,o2⟩:=zb7 (.z h) l ht hl
  have:(ze (.z h) l).1=r ∧ ¬ r+1 < (ze (.z h) l).2.length:=by
   unfold ze at h2 ⊢
   cases hi:l.idxOf? (nd h 0 0) with
   | some k=>rw [zai hi] at h2;simp at h2;omega
   | none=>rw [zbG hi] at h2 ⊢;simp at h2 ⊢;omega
  rw [← this.1,o2]
  rw [this.1]
  exact ⟨Nat.le_refl _,fun h=>absurd h this.2⟩
 | .u h x,l,r,ht,hl,h1,h2=>by
  obtain ⟨o1,o2⟩:=zb7 (.u h x) l ht hl
  obtain ⟨a1,a2⟩:=zb7 x l ht.2.2.2 hl
  have ih:=zkN x l r ht.2.2.2 hl h1
  by_cases hr:r < (ze x l).2.length
  ·obtain ⟨m,hm⟩:=(zbq (ze x l).2 (nd h (ze x l).1 0)).1
   have e:zaQ (ze (.u h x) l).2 r=zaQ (ze x l).2 r:=by rw [ze,hm,zcs a1 hr]
   rw [e]
   have:=(ih hr).1
   simp only [Tm.size]
   omega
  ·have:(ze (.u h x) l).1=r ∧ ¬ r+1 < (ze (.u h x) l).2.length:=by
    unfold ze at h2 ⊢
    cases hi:(ze x l).2.idxOf? (nd h (ze x l).1 0) with
    | some k=>rw [zai hi] at h2;simp at h2;omega
    | none=>rw [zbG hi] at h2 ⊢;simp at h2 ⊢;omega
   rw [← this.1,o2,this.1]
   exact ⟨Nat.le_refl _,fun h=>absurd h this.2⟩
 | .b h x y,l,r,ht,hl,h1,h2=>by
  obtain ⟨o1,o2⟩:=zb7 (.b h x y) l ht hl
  obtain ⟨a1,a2⟩:=zb7 x l ht.2.2.2.1 hl
  obtain ⟨b1,b2⟩:=zb7 y (ze x l).2 ht.2.2.2.2 a1
  have ih:=zkN x l r ht.2.2.2.1 hl h1
  obtain ⟨m2,hm2⟩:=zcl y (ze x l).2
  obtain ⟨m,hm⟩:=(zbq (ze y (ze x l).2).2 (nd h (ze x l).1 (ze y (ze x l).2).1)).1
  by_cases hr:r < (ze x l).2.length
  ·have e:zaQ (ze (.b h x y) l).2 r=zaQ (ze x l).2 r:=by
    rw [ze,hm,zcs b1 (by rw [hm2,List.length_append];omega),hm2,zcs a1 hr]
   rw [e]
   have:=(ih hr).1
   simp only [Tm.size]
   omega
  ·have ih2:=zkN y (ze x l).2 r ht.2.2.2.2 a1 (by omega)
   by_cases hr2:r < (ze y (ze x l).2).2.length
   ·have e:zaQ (ze (.b h x y) l).2 r=zaQ (ze y (ze x l).2).2 r:=by
     rw [ze,hm,zcs b1 hr2]
    rw [e]
    have:=(ih2 hr2).1
    simp only [Tm.size]
    omega
   ·have:(ze (.b h x y) l).1=r ∧ ¬ r+1 < (ze (.b h x y) l).2.length:=by
     unfold ze at h2 ⊢
     cases hi:(ze y (ze x l).2).2.idxOf? (nd h (ze x l).1 (ze y (ze x l).2).1) with
     | some k=>rw [zai hi] at h2;simp at h2;omega
     | none=>rw [zbG hi] at h2 ⊢;simp at h2 ⊢;omega
    rw [← this.1,o2,this.1]
    exact ⟨Nat.le_refl _,fun h=>absurd h this.2⟩
theorem zlt:zbm []:=fun k n h=>by simp at h
theorem zsP {t:Tm} (ht:t.ok):(ze t []).1+1=(ze t []).2.length:=by
 have h1:=znB t []
 have h2:=(zb7 t [] ht zlt).2
 by_cases h:(ze t []).1+1 < (ze t []).2.length
 ·have:=(zkN t [] (ze t []).1 ht zlt (by simp) h1).2 h
  rw [h2] at this;omega
 ·omega
end Go.Ab
namespace Go.Ab
structure zkI (f:List Nd) (s:FSt):Prop where
 has : ∀ i r,s.done.lookup i=some r→zdy (zaQ f i) s.out r
 rng : ∀ p∈s.done,p.1 < f.length
 keys:(s.done.map Prod.fst).Nodup
 len:s.out.length≤s.done.length
theorem zwp {d:List (Nat×Nat)} {i:Nat} (h : ∀ p∈d,p.1≠i):d.lookup i=none:=by
 induction d with
 | nil=>rfl
 | cons p d ih =>
  obtain ⟨a,b⟩:=p
  have h0:=h (a,b) (by simp)
  have:(i==a)=false:=by simpa using fun e=>h0 e.symm
  simp only [List.lookup,this]
  exact ih fun q hq=>h q (by simp [hq])
theorem zrd {d:List (Nat×Nat)} {i:Nat} (h:d.lookup i=none) : ∀ p∈d,p.1≠i:=by
 induction d with
 | nil=>simp
 | cons p d ih =>
  obtain ⟨a,b⟩:=p
  simp only [List.lookup] at h
  split at h
  ·cases h
  ·rename_i e
   intro q hq
   rcases List.mem_cons.1 hq with rfl|hq
   ·intro h';subst h';simp at e
   ·exact ih h q hq
theorem ztJ {d:List (Nat×Nat)} {i j r q:Nat} (h:(d++[(i,r)]).lookup j=some q):d.lookup j=some q∨(j=i∧q=r∧d.lookup j=none):=by
 induction d with
 | nil =>
  simp only [List.nil_append,List.lookup] at h
  split at h
  ·rename_i e;simp at e;cases h;exact .inr ⟨e,rfl,rfl⟩
  ·cases h
 | cons p d ih =>
  obtain ⟨a,b⟩:=p
  simp only [List.cons_append,List.lookup] at h ⊢
  split at h
  ·exact .inl h
  ·exact ih h
theorem ziH {f:List Nd} (hf:zbm f) : ∀ (k i:Nat) (s:FSt),i < k→i < f.length→zkI f s →
  zkI f (fin f k i s).2∧(fin f k i s).1=(ze (zaQ f i) s.out).1∧(fin f k i s).2.out=(ze (zaQ f i) s.out).2∧(∃ l,(fin f k i s).2.done=s.done++l ∧ ∀ p∈l,p.1≤i)
 | 0,i,s,h,_,_=>by omega
 | k+1,i,s,hk,hi,hs=>by
  unfold fin
  cases hd:s.done.lookup i with
  | some r =>
   have:=hs.has i r hd
   unfold zdy at this
   refine ⟨hs,?_,?_,[],by simp,by simp⟩
   ·rw [this]
   ·rw [this]
  | none =>
   simp only
   have key : ∀ (a b:Nat) (s2:FSt),zkI f s2→(∃ l,s2.done=s.done++l ∧ ∀ p∈l,p.1 < i)→ze (zaQ f i) s.out=put s2.out (nd (f.getD i default).hd a b) →
     (∃ m,s2.out=s.out++m) →
     zkI f ⟨(put s2.out (nd (f.getD i default).hd a b)).2,s2.done++[(i,(put s2.out (nd (f.getD i default).hd a b)).1)]⟩∧(put s2.out (nd (f.getD i default).hd a b)).1=(ze (zaQ f i) s.out).1 ∧
     (put s2.out (nd (f.getD i default).hd a b)).2=(ze (zaQ f i) s.out).2∧(∃ l,s2.done++[(i,(put s2.out (nd (f.getD i default).hd a b)).1)]=s.done++l ∧ ∀ p∈l,p.1≤i):=by
    intro a b s2 h2 hl hT hm
    obtain ⟨l,hl1,hl2⟩:=hl
    obtain ⟨m,hm⟩:=(zbq s2.out (nd (f.getD i default).hd a b)).1
    have hni : ∀ p∈s2.done,p.1≠i:=by
     intro p hp
     rw [hl1,List.mem_append] at hp
     rcases hp with hp|hp
     ·exact zrd hd p hp
     ·have:=hl2 p hp;omega
    refine ⟨⟨fun j r hj=>?_,fun p hp=>?_,?_,?_⟩,by rw [hT],by rw [hT],l++[(i,(put s2.out (nd (f.getD i default).hd a b)).1)],by rw [hl1,List.append_assoc],fun p hp=>?_⟩
    ·rcases ztJ hj with h|⟨rfl,rfl,-⟩
     ·have:=(h2.has j r h).mono m
      rw [← hm] at this;exact this
     ·rw [← hT];exact zk6 _ _
    ·rcases List.mem_append.1 hp with hp|hp
     ·exact h2.rng p hp
     ·simp at hp;subst hp;exact hi
    ·simp only [List.map_append,List.map_cons,List.map_nil]
     rw [List.nodup_append]
     refine ⟨h2.keys,by simp,fun x hx y hy=>?_⟩
     simp at hy;subst hy
     obtain ⟨p,hp,rfl⟩:=List.mem_map.1 hx
     exact hni p hp
    ·have:=h2.len
     simp only [List.length_append,List.length_cons,List.length_nil]
     cases hx:s2.out.idxOf? (nd (f.getD i default).hd a b) with
     | some k=>rw [zai hx];simp only;omega
     | none=>rw [zbG hx];simp only [List.length_append,List.length_cons,List.length_nil];omega
    ·rcases List.mem_append.1 hp with hp|hp
     ·have:=hl2 p hp;omega
     ·simp at hp;subst hp;exact Nat.le_refl _
   have hT:=zii hf hi
   have hn:=zdm.1 (zif hf hi)
   cases hy:zau (f.getD i default).op with
   | true =>
    have hx:=zbh hy
    have e1:=zbQ hf hi hx
    have e2:=zfv hf hi hy
    simp only [hy,hx,cond_true] at hT ⊢
    obtain ⟨a1,a2,a3,la,a4,a5⟩:=ziH hf k (f.getD i default).x.toNat s (by omega) (by omega) hs
    obtain ⟨b1,b2,b3,lb,b4,b5⟩:=ziH hf k (f.getD i default).y.toNat (fin f k (f.getD i default).x.toNat s).2 (by omega) (by omega) a1
    obtain ⟨m1,hm1⟩:=zcl (zaQ f (f.getD i default).x.toNat) s.out
    obtain ⟨m2,hm2⟩:=zcl (zaQ f (f.getD i default).y.toNat) (fin f k (f.getD i default).x.toNat s).2.out
    refine key _ _ _ b1 ⟨la++lb,by rw [b4,a4,List.append_assoc],fun p hp=>?_⟩ ?_ ⟨m1++m2,by rw [b3,hm2,a3,hm1,List.append_assoc]⟩
    ·rcases List.mem_append.1 hp with hp|hp
     ·have:=a5 p hp;omega
     ·have:=b5 p hp;omega
    ·rw [hT,ze,b3,b2,a3,a2]
   | false =>
    cases hx:zaG (f.getD i default).op with
    | true =>
     have e1:=zbQ hf hi hx
     simp only [hy,hx,cond_true,cond_false] at hT ⊢
     obtain ⟨a1,a2,a3,la,a4,a5⟩:=ziH hf k (f.getD i default).x.toNat s (by omega) (by omega) hs
     obtain ⟨m1,hm1⟩:=zcl (zaQ f (f.getD i default).x.toNat) s.out
     have e0:(f.getD i default).y.toNat=0:=by rw [hn.2.2.2.2 hy];rfl
     refine key _ _ _ a1 ⟨la,a4,fun p hp=>by have:=a5 p hp;omega⟩ ?_ ⟨m1,by rw [a3,hm1]⟩
     rw [hT,ze,a2,a3,e0]
    | false =>
     simp only [hy,hx,cond_true,cond_false] at hT ⊢
     have e0:(f.getD i default).y.toNat=0:=by rw [hn.2.2.2.2 hy];rfl
     have e1:(f.getD i default).x.toNat=0:=by rw [hn.2.2.1 hx];rfl
     refine key _ _ _ hs ⟨[],by simp,by simp⟩ ?_ ⟨[],by simp⟩
     rw [hT,ze,e0,e1]
theorem zgP {f:List Nd} (hf:zbm f) : ∀ (k k' i:Nat) (s:FSt),i < k→i < k'→i < f.length→fin f k i s=fin f k' i s
 | 0,_,_,_,h,_,_=>by omega
 | _+1,0,_,_,_,h,_=>by omega
 | k+1,k'+1,i,s,h1,h2,hi=>by
  unfold fin
  cases hd:s.done.lookup i with
  | some r=>rfl
  | none =>
   simp only
   cases hy:zau (f.getD i default).op with
   | true =>
    have hx:=zbh hy
    have e1:=zbQ hf hi hx
    have e2:=zfv hf hi hy
    simp only [hx,cond_true]
    rw [zgP hf k k' (f.getD i default).x.toNat s (by omega) (by omega) (by omega),zgP hf k k' (f.getD i default).y.toNat _ (by omega) (by omega) (by omega)]
   | false =>
    cases hx:zaG (f.getD i default).op with
    | true =>
     have e1:=zbQ hf hi hx
     simp only [cond_true,cond_false]
     rw [zgP hf k k' (f.getD i default).x.toNat s (by omega) (by omega) (by omega)]
    | false=>rfl
theorem zwU (f:List Nd):zkI f ⟨[],[]⟩:=⟨fun i r h=>by simp at h,by simp,by simp,by simp⟩
theorem zsY {l:List Nat} {n:Nat} (h:l.Nodup) (hn : ∀ x∈l,x < n):l.length≤n:=by
 have h2:l ⊆ List.range n:=fun x hx=>List.mem_range.2 (hn x hx)
 have:=List.Nodup.length_le_of_subset h h2
 simpa using this
structure zxm (t:Tm) (c:List Nd):Prop where
 ok:zbm c
 pos:0 < c.length
 tree:zaQ c (c.length - 1)=t
 all : ∀ p:Hd→Prop,(∀ n∈c,p n.hd)↔t.all p
theorem zDS {t:Tm} (ht:t.ok):zxm t (ze t []).2:=by
 have h1:=zsP ht
 obtain ⟨h2,h3⟩:=zb7 t [] ht zlt
 refine ⟨h2,by omega,by rw [← h1,Nat.add_sub_cancel];exact h3,fun p=>?_⟩
 rw [zk5 p t []];simp
theorem zov {f:List Nd} (hf:zbm f) {i:Nat} (hi:i < f.length):zdh f i=(ze (zaQ f i) []).2∧(zdh f i).length≤f.length∧(fin f (i+1) i ⟨[],[]⟩).1+1=(zdh f i).length:=by
 obtain ⟨a1,a2,a3,a4⟩:=ziH hf (i+1) i ⟨[],[]⟩ (by omega) hi (zwU f)
 refine ⟨a3,?_,?_⟩
 ·have h1:=a1.len
  have h2:=zsY a1.keys (n:=f.length) (fun x hx=>by obtain ⟨p,hp,rfl⟩:=List.mem_map.1 hx;exact a1.rng p hp)
  rw [List.length_map] at h2
  unfold zdh;omega
 ·unfold zdh
  rw [a2,a3]
  exact zsP (zij hf (i+1) i (by omega) hi)
theorem zrX {f:List Nd} (hf:zbm f) {i:Nat} (hi:i < f.length):zxm (zaQ f i) (zdh f i):=by
 rw [(zov hf hi).1];exact zDS (zij hf (i+1) i (by omega) hi)
def zdp {β:Type} (v:Hd→β→β→β) (d:β):List Nd→List β→List β
 | [],acc=>acc
 | n::r,acc=>zdp v d r (acc++[v n.hd (acc.getD n.x.toNat d) (acc.getD n.y.toNat d)])
def ev {β:Type} (v:Hd→β→β→β) (d:β):Tm→β
 | .z h=>v h d d
 | .u h x=>v h (ev v d x) d
 | .b h x y=>v h (ev v d x) (ev v d y)
structure zDM {β:Type} (v:Hd→β→β→β):Prop where
 x : ∀ h a b c,zaG h.op=false→v h a c=v h b c
 y : ∀ h a b c,zau h.op=false→v h c a=v h c b
theorem ziW {β:Type} (v:Hd→β→β→β) (d:β) : ∀ (l:List Nd) (acc:List β),(zdp v d l acc).length=acc.length+l.length
 | [],acc=>by simp [zdp]
 | n::r,acc=>by rw [zdp,ziW v d r];simp;omega
theorem zxd {β:Type} {v:Hd→β→β→β} {d:β} (hv:zDM v) {f:List Nd} (hf:zbm f) : ∀ (l:List Nd) (acc:List β),f.drop acc.length=l→acc.length≤f.length→(∀ i,i < acc.length→acc.getD i d=ev v d (zaQ f i)) →
  ∀ i,i < f.length→(zdp v d l acc).getD i d=ev v d (zaQ f i)
 | [],acc,h1,h2,h3,i,hi=>by
  have:acc.length=f.length:=by
   have:=congrArg List.length h1;simp at this;omega
  exact h3 i (by omega)
 | n::r,acc,h1,h2,h3,i,hi=>by
  have hlt:acc.length < f.length:=by
   have:=congrArg List.length h1;simp at this;omega
  have hn:f.getD acc.length default=n:=by
   have:=congrArg (fun l=>l[0]?) h1
   simp at this
   simp [List.getD,this]
  rw [zdp]
  refine zxd hv hf r _ ?_ (by simp;omega) (fun j hj=>?_) i hi
  ·simp only [List.length_append,List.length_cons,List.length_nil]
   have:=congrArg List.tail h1
   simpa using this
  ·by_cases hj2:j < acc.length
   ·rw [show (acc++[v n.hd (acc.getD n.x.toNat d) (acc.getD n.y.toNat d)]).getD j d=acc.getD j d by simp [List.getD,List.getElem?_append_left hj2]]
    exact h3 j hj2
   ·simp at hj
    have e:j=acc.length:=by omega
    subst e
    rw [show (acc++[v n.hd (acc.getD n.x.toNat d) (acc.getD n.y.toNat d)]).getD acc.length d=v n.hd (acc.getD n.x.toNat d) (acc.getD n.y.toNat d) by simp [List.getD]]
    rw [zii hf hlt,hn]
    cases hy:zau n.op with
    | true =>
     have hx:=zbh hy
     have e1:=zbQ hf hlt (by rw [hn];exact hx)
     have e2:=zfv hf hlt (by rw [hn];exact hy)
     rw [hn] at e1 e2
     simp only [cond_true,ev]
     rw [h3 _ e1.2,h3 _ e2.2]
    | false =>
     cases hx:zaG n.op with
     | true =>
      have e1:=zbQ hf hlt (by rw [hn];exact hx)
      rw [hn] at e1
      simp only [cond_true,cond_false,ev]
      rw [h3 _ e1.2]
      exact hv.y _ _ _ _ hy
     | false =>
      simp only [cond_false,ev]
      rw [hv.x _ _ d _ hx,hv.y _ _ d _ hy]
end Go.Ab
namespace Go.Ab
def zeY (R:zD) (a:Nat) (w u:Nat):Prop := ∃ r,R[a]? = some r∧r w u=true
def ziU (n:Nat) (R:zD) (g:Nat) (w u:Nat):Prop:=u < n ∧ ∃ a,g.testBit a=true∧zeY R a w u
inductive CPt (S:Nat→Nat→Prop) (c:Nat→Prop):Nat→Nat→Prop where
 | one {v u:Nat} : S v u→c u→CPt S c v u
 | more {v x u:Nat} : CPt S c v x→S x u→c u→CPt S c v u
def zpX (n:Nat) (R:zD) (fc:Nat→Nat→Prop) (h:Hd) (X Y:Nat→Prop) (w:Nat):Prop :=
 if h.op=1 then True else if h.op=3 then fc h.i.toNat w else if h.op=4 then ¬X w else if h.op=5 then X w∧Y w else if h.op=6 then X w∨Y w else if h.op=7 then (X w→Y w) else if h.op=8 then (X w↔Y w) else
 if h.op=9 then ∀ u,u < n→zeY R h.i.toNat w u→X u else if h.op=10 then ∃ u,u < n∧zeY R h.i.toNat w u∧X u else if h.op=11 then ∀ u,ziU n R h.g.toNat w u→X u else
 if h.op=12 then ∀ u,u < n→(∀ a,h.g.toNat.testBit a=true→zeY R a w u)→X u else if h.op=13 then ∀ u,CPt (ziU n R h.g.toNat) X w u→Y u else False
section
variable {n n':Nat} {R R':zD} {fa fb:Nat→Int} {Z:Nat→Nat→Prop} (B:zcL n n' R R' fa fb Z)
include B
theorem zgB {a v v' u:Nat} (hz:Z v v') (hu:u < n) (h:zeY R a v u) : ∃ u',u' < n'∧zeY R' a v' u'∧Z u u':=by
 obtain ⟨r,hr,h⟩:=h
 obtain ⟨r',hr'⟩:=zf4 B.len hr
 obtain ⟨u',h1,h2,h3⟩:=B.forth hr hr' hz hu h
 exact ⟨u',h1,⟨r',hr',h2⟩,h3⟩
theorem zh7 {g v v' u:Nat} (hz:Z v v') (h:ziU n R g v u) : ∃ u',ziU n' R' g v' u'∧Z u u':=by
 obtain ⟨hu,a,ha,h⟩:=h
 obtain ⟨u',h1,h2,h3⟩:=zgB B hz hu h
 exact ⟨u',⟨h1,a,ha,h2⟩,h3⟩
theorem zsJ {g:Nat} {X X':Nat→Prop} (hX : ∀ v v',Z v v'→(X v↔X' v')) {v u:Nat} (h:CPt (ziU n R g) X v u) : ∀ {v'},Z v v' → ∃ u',CPt (ziU n' R' g) X' v' u'∧Z u u':=by
 induction h with
 | one h1 h2 =>
  intro v' hz
  obtain ⟨u',h3,h4⟩:=zh7 B hz h1
  exact ⟨u',.one h3 ((hX _ _ h4).1 h2),h4⟩
 | more _ h1 h2 ih =>
  intro v' hz
  obtain ⟨x',h3,h4⟩:=ih hz
  obtain ⟨u',h5,h6⟩:=zh7 B h4 h1
  exact ⟨u',.more h3 h5 ((hX _ _ h6).1 h2),h6⟩
theorem zsx {fc fc':Nat→Nat→Prop} (hf : ∀ i v v',Z v v'→(fc i v↔fc' i v')) {h:Hd} (h12:h.op≠12) {X X' Y Y':Nat→Prop} (hX : ∀ v v',Z v v'→(X v↔X' v')) (hY : ∀ v v',Z v v'→(Y v↔Y' v')) {v v':Nat} (hz:Z v v') :
  zpX n R fc h X Y v↔zpX n' R' fc' h X' Y' v':=by
 have Bs:=B.symm
 have hXs : ∀ v' v,Z v v'→(X' v'↔X v):=fun v' v h=>(hX v v' h).symm
 unfold zpX
 by_cases h1:h.op=1
 ·rw [if_pos h1,if_pos h1]
 rw [if_neg h1,if_neg h1]
 by_cases h3:h.op=3
 ·rw [if_pos h3,if_pos h3];exact hf _ _ _ hz
 rw [if_neg h3,if_neg h3]
 by_cases h4:h.op=4
 ·rw [if_pos h4,if_pos h4,hX _ _ hz]
 rw [if_neg h4,if_neg h4]
 by_cases h5:h.op=5
 ·rw [if_pos h5,if_pos h5,hX _ _ hz,hY _ _ hz]
 rw [if_neg h5,if_neg h5]
 by_cases h6:h.op=6
 ·rw [if_pos h6,if_pos h6,hX _ _ hz,hY _ _ hz]
 rw [if_neg h6,if_neg h6]
 by_cases h7:h.op=7
 ·rw [if_pos h7,if_pos h7,hX _ _ hz,hY _ _ hz]
 rw [if_neg h7,if_neg h7]
 by_cases h8:h.op=8
 ·rw [if_pos h8,if_pos h8,hX _ _ hz,hY _ _ hz]
 rw [if_neg h8,if_neg h8]
 by_cases h9:h.op=9
 ·rw [if_pos h9,if_pos h9]
  constructor
  ·intro H u' hu hr
   obtain ⟨u,a,b,c⟩:=zgB Bs hz hu hr
   exact (hX u u' c).1 (H u a b)
  ·intro H u hu hr
   obtain ⟨u',a,b,c⟩:=zgB B hz hu hr
   exact (hX u u' c).2 (H u' a b)
 rw [if_neg h9,if_neg h9]
 by_cases h10:h.op=10
 ·rw [if_pos h10,if_pos h10]
  constructor
  ·rintro ⟨u,hu,hr,hx⟩
   obtain ⟨u',a,b,c⟩:=zgB B hz hu hr
   exact ⟨u',a,b,(hX u u' c).1 hx⟩
  ·rintro ⟨u',hu,hr,hx⟩
   obtain ⟨u,a,b,c⟩:=zgB Bs hz hu hr
   exact ⟨u,a,b,(hX u u' c).2 hx⟩
 rw [if_neg h10,if_neg h10]
 by_cases h11:h.op=11
 ·rw [if_pos h11,if_pos h11]
  constructor
  ·intro H u' hr
   obtain ⟨u,b,c⟩:=zh7 Bs hz hr
   exact (hX u u' c).1 (H u b)
  ·intro H u hr
   obtain ⟨u',b,c⟩:=zh7 B hz hr
   exact (hX u u' c).2 (H u' b)
 rw [if_neg h11,if_neg h11,if_neg h12,if_neg h12]
 by_cases h13:h.op=13
 ·rw [if_pos h13,if_pos h13]
  constructor
  ·intro H u' hr
   obtain ⟨u,b,c⟩:=zsJ Bs hXs hr hz
   exact (hY u u' c).1 (H u b)
  ·intro H u hr
   obtain ⟨u',b,c⟩:=zsJ B hX hr hz
   exact (hY u u' c).2 (H u' b)
 rw [if_neg h13,if_neg h13]
theorem znP {fc fc':Nat→Nat→Prop} (hf : ∀ i v v',Z v v'→(fc i v↔fc' i v')) : ∀ (t:Tm),t.all (fun h=>h.op≠12) → ∀ v v',Z v v'→(ev (zpX n R fc) (fun _=>False) t v↔ev (zpX n' R' fc') (fun _=>False) t v')
 | .z h,h1=>fun v v' hz=>zsx B hf h1 (fun _ _ _=>Iff.rfl) (fun _ _ _=>Iff.rfl) hz
 | .u h x,h1=>fun v v' hz=>zsx B hf h1.1 (znP hf x h1.2) (fun _ _ _=>Iff.rfl) hz
 | .b h x y,h1=>fun v v' hz=>zsx B hf h1.1 (znP hf x h1.2.1) (znP hf y h1.2.2) hz
end
end Go.Ab
namespace Go.Ab
open Go Go.Proofs
set_option maxRecDepth 10000
set_option maxHeartbeats 4000000
variable {T:Nat→Obj→Prop}
def zfG (r:List (BitVec 64)) (s:BitVec 64):BitVec 64:=zaZ (fun w=>decide (r.getD w 0#64 &&& ~~~s=0#64)) r.length
theorem zhx {r:List (BitVec 64)} (s:BitVec 64) (hc0:zas r=0):Fn Tryz.prog T zj1 [.d (dU r),.d (.u64 s)] [] (.d (.u64 (zfG r s))) []:=by
 have hl:=(zb1.1 hc0).1
 have crc:=zoH (T:=T) r
 rw [hc0] at crc
 refine zb zn zsh (by show 2≤30;decide) ?_
 (repeat' ((conv=>whnf);first|refine vA ?_|refine vJ fun hg=>?_|refine vT ?_));all_goals try conv=>whnf
 refine zK.data (crc) (by (repeat refine ⟨⟨rfl,rfl⟩,?_⟩);rfl) rfl ?_
 (repeat' ((conv=>whnf);first|refine vA ?_|refine vH ?_|refine vJ fun hg=>?_|refine vT ?_));all_goals try conv=>whnf
 refine zal (fun ((k,o):Nat×BitVec 64)=>[(0,.d (dU r)),(1,.d (.u64 (s))),(5,.d (.u64 (o))),(13,.d (.int .i64 ((r.map D.u64).length:Int))),(14,.d (.int .i64 ((k:Int))))]) (fun ((k,o):Nat×BitVec 64)=>k≤r.length∧o=zaZ (fun w=>decide (r.getD w 0#64 &&& ~~~s=0#64)) k) (fun ((k,o):Nat×BitVec 64)=>r.length - k) ((0,0#64)) (⟨by omega,rfl⟩) (by (repeat' first|exact trivial|exact rfl|refine And.intro ?_ ?_)) ?_
 rintro ⟨k,o⟩ ⟨hk,ho⟩
 (repeat' ((conv=>whnf);first|refine vA ?_|(refine vF ?_ ?_<;>intro hc<;>try simp only [vL] at hc)|refine vT ?_|(refine vQ ?_ fun x hx=>?_;·omega)|((first|refine vO ?_ ?_|refine vP ?_ ?_);·omega)|refine vY ?_));all_goals try conv=>whnf
 ·refine ⟨(k+1,_),[],[],?_,?_,by (refine ⟨rfl,rfl,rfl,?_,?_⟩;repeat' first|exact trivial|exact rfl|refine And.intro ?_ ?_)⟩
  ·refine ⟨by (omega),?_⟩
   have hrk:r.getD k 0#64=x:=by simp [List.getD,hx]
   rw [zaZ,if_pos (decide_eq_true (by rw [hrk];exact hc)),← ho];rfl
  ·((simp only [vM] at *;omega))
 ·refine ⟨(k+1,o),[],[],?_,?_,by (refine ⟨rfl,rfl,rfl,?_,?_⟩;repeat' first|exact trivial|exact rfl|refine And.intro ?_ ?_)⟩
  ·refine ⟨by (omega),?_⟩
   have hrk:r.getD k 0#64=x:=by simp [List.getD,hx]
   rw [zaZ,if_neg (by rw [hrk,decide_eq_true_eq];exact hc),← ho]
  ·((simp only [vM] at *;omega))
 ·obtain rfl:k=r.length:=by omega
  rw [ho];rfl
def zpi (r:List (BitVec 64)) (s:BitVec 64):BitVec 64:=zbc r.length &&& ~~~(zfG r (~~~s))
theorem ztE {r:List (BitVec 64)} (s:BitVec 64) (hc0:zas r=0):Fn Tryz.prog T zhs [.d (dU r),.d (.u64 s)] [] (.d (.u64 (zpi r s))) []:=by
 have crc:=zoH (T:=T) r
 rw [hc0] at crc
 have cra:=zjm (T:=T) ((r.map D.u64).length:Int) (by omega)
 have crb:=zhx (T:=T) (r:=r) (~~~s) hc0
 refine zb zn zmZ (by show 2≤18;decide) ?_
 (repeat' ((conv=>whnf);first|refine vA ?_|refine vJ fun hg=>?_|refine vT ?_));all_goals try conv=>whnf
 refine zK.data (crc) (by (repeat refine ⟨⟨rfl,rfl⟩,?_⟩);rfl) rfl ?_
 (repeat' ((conv=>whnf);first|refine vH ?_|refine vJ fun hg=>?_|refine vT ?_|refine vY ?_|refine yD cra ⟨⟨rfl,rfl⟩,rfl⟩ rfl ?_|refine yD crb ⟨⟨rfl,rfl⟩,⟨rfl,rfl⟩,rfl⟩ rfl ?_));all_goals try conv=>whnf
 rw [zpi,List.length_map]
def zAG (r:List (BitVec 64)) (c s:BitVec 64) (w:Nat):Prop := ∀ u,CPt (fun a b=>rb r a b=true) (fun u=>c.getLsbD u=true) w u→s.getLsbD u=true
noncomputable def zpg (r:List (BitVec 64)) (c s:BitVec 64):BitVec 64:=zaZ (fun w => @decide (zAG r c s w) (Classical.propDecidable _)) r.length
theorem CPt.pre {S:Nat→Nat→Prop} {c:Nat→Prop} {w u v:Nat} (h1:S w u) (h2:c u) (h:CPt S c u v):CPt S c w v:=by
 induction h with
 | one a b=>exact .more (.one h1 h2) a b
 | more _ a b ih=>exact .more ih a b
theorem zo3 {r:List (BitVec 64)} {s:BitVec 64} (hl:r.length≤64) {w:Nat} : (zfG r s).getLsbD w=true↔w < r.length ∧ ∀ u,rb r w u=true→s.getLsbD u=true:=by
 unfold zfG
 rw [zcb hl,decide_eq_true_eq,zvW];rfl
def zjB (r:List (BitVec 64)) (c s o:BitVec 64):BitVec 64:=zfG r ((zbc r.length &&& ~~~c)|||(s&&&o))
theorem zfH {r:List (BitVec 64)} {c s o:BitVec 64} (hc0:zas r=0) {w:Nat} : (zjB r c s o).getLsbD w=true↔w < r.length ∧ ∀ u,rb r w u=true→c.getLsbD u=true→s.getLsbD u=true∧o.getLsbD u=true:=by
 obtain ⟨hl,hin⟩:=zb1.1 hc0
 unfold zjB
 rw [zo3 hl]
 refine and_congr Iff.rfl (forall_congr' fun u=>forall_congr' fun hu=>?_)
 have hul:=hin w u hu
 have ha:(zbc r.length).getLsbD u=true:=by rw [zfD (by omega) (by omega),decide_eq_true_eq];omega
 rw [BitVec.getLsbD_or,BitVec.getLsbD_and,BitVec.getLsbD_and,BitVec.getLsbD_not,ha,decide_eq_true (show u < 64 by omega)]
 cases c.getLsbD u<;>simp
structure zjA (r:List (BitVec 64)) (c s o:BitVec 64):Prop where
 sup : ∀ w,w < r.length→zAG r c s w→o.getLsbD w=true
 dec : ∀ w,(zjB r c s o).getLsbD w=true→o.getLsbD w=true
 ins : ∀ w,o.getLsbD w=true→w < r.length
theorem zjA.start {r:List (BitVec 64)} (c s:BitVec 64) (hc0:zas r=0):zjA r c s (zbc r.length):=by
 obtain ⟨hl,hin⟩:=zb1.1 hc0
 have ha : ∀ w,w < r.length→(zbc r.length).getLsbD w=true:=fun w hw=>by rw [zfD (by omega) (by omega),decide_eq_true_eq];omega
 refine ⟨fun w hw _=>ha w hw,fun w h=>ha w ((zfH hc0).1 h).1,fun w h=>?_⟩
 have hw64:w < 64:=by
  refine Nat.lt_of_not_le fun h2=>?_
  rw [BitVec.getLsbD_of_ge _ _ h2] at h;exact absurd h (by decide)
 rw [zfD (by omega) hw64,decide_eq_true_eq] at h
 omega
theorem zjA.next {r:List (BitVec 64)} {c s o:BitVec 64} (hc0:zas r=0) (h:zjA r c s o):zjA r c s (zjB r c s o):=by
 obtain ⟨hl,hin⟩:=zb1.1 hc0
 refine ⟨fun w hw hp=>(zfH hc0).2 ⟨hw,fun u hu hcu=>⟨hp u (.one hu hcu),h.sup u (hin w u hu) fun v hv=>hp v (hv.pre hu hcu)⟩⟩,fun w hw=>?_,fun w hw=>((zfH hc0).1 hw).1⟩
 obtain ⟨h1,h2⟩:=(zfH hc0).1 hw
 exact (zfH hc0).2 ⟨h1,fun u hu hcu=>⟨(h2 u hu hcu).1,h.dec u (h2 u hu hcu).2⟩⟩
theorem zjA.done {r:List (BitVec 64)} {c s o:BitVec 64} (hc0:zas r=0) (h:zjA r c s o) (e:zjB r c s o=o):o=zpg r c s:=by
 obtain ⟨hl,hin⟩:=zb1.1 hc0
 refine BitVec.eq_of_getLsbD_eq fun w _=>?_
 rw [Bool.eq_iff_iff,zpg,zcb hl,@decide_eq_true_eq _ (Classical.propDecidable _)]
 constructor
 ·intro hw
  refine ⟨h.ins w hw,fun u hu=>?_⟩
  have key : ∀ u,CPt (fun a b=>rb r a b=true) (fun u=>c.getLsbD u=true) w u→s.getLsbD u=true∧o.getLsbD u=true:=fun u hu=>by
   induction hu with
   | one a b=>rw [← e] at hw;exact ((zfH hc0).1 hw).2 _ a b
   | more _ a b ih =>
    have:=ih.2
    rw [← e] at this
    exact ((zfH hc0).1 this).2 _ a b
  exact (key u hu).1
 ·rintro ⟨h1,h2⟩
  exact h.sup w h1 h2
theorem zjA.less {r:List (BitVec 64)} {c s o:BitVec 64} (h:zjA r c s o) (e:zjB r c s o≠o):(zB (zjB r c s o)).length < (zB o).length:=by
 unfold zB
 refine (zf0 (fun i hi=>h.dec i hi) _).2 ?_
 refine Classical.byContradiction fun hn=>e (BitVec.eq_of_getLsbD_eq fun i hi=>?_)
 cases ho:o.getLsbD i with
 | true =>
  cases hf:(zjB r c s o).getLsbD i with
  | true=>rfl
  | false=>exact absurd ⟨i,List.mem_range.2 hi,hf,ho⟩ hn
 | false =>
  cases hf:(zjB r c s o).getLsbD i with
  | true=>rw [h.dec i hf] at ho;cases ho
  | false=>rfl
theorem zy7 {r:List (BitVec 64)} (c s:BitVec 64) (hc0:zas r=0):Fn Tryz.prog T ziE [.d (dU r),.d (.u64 (zbc r.length)),.d (.u64 c),.d (.u64 s)] [] (.d (.u64 (zpg r c s))) []:=by
 have cb:=fun x=>zhx (T:=T) (r:=r) x hc0
 refine zb zn zpz (by show 4≤26;decide) ?_
 (repeat' ((conv=>whnf);refine vT ?_));all_goals try conv=>whnf
 refine zal (fun (o:BitVec 64)=>[(0,.d (dU r)),(1,.d (.u64 ((zbc r.length)))),(2,.d (.u64 (c))),(3,.d (.u64 (s))),(9,.d (.u64 (o)))]) (fun (o:BitVec 64)=>zjA r c s o) (fun (o:BitVec 64)=>(zB o).length) (zbc r.length) (.start c s hc0) (by (repeat' first|exact trivial|exact rfl|refine And.intro ?_ ?_)) ?_
 rintro o hI
 (repeat' ((conv=>whnf);first|refine vA ?_|(refine vF ?_ ?_<;>intro hc)|refine vT ?_|refine vY ?_|refine yD (cb _) (by (repeat refine ⟨⟨rfl,rfl⟩,?_⟩);rfl) rfl ?_));all_goals try conv=>whnf
 ·exact hI.done hc0 hc
 ·refine ⟨zjB r c s o,[],[],?_,?_,by (refine ⟨rfl,rfl,rfl,?_,?_⟩;repeat' first|exact trivial|exact rfl|refine And.intro ?_ ?_)⟩
  ·exact hI.next hc0
  ·exact hI.less hc
end Go.Ab
namespace Go.Ab
open Go Go.Proofs
set_option maxRecDepth 10000
set_option maxHeartbeats 4000000
variable {T:Nat→Obj→Prop}
def znM (m:KM) (i v:Nat):BitVec 64:=(m.rel.getD i []).getD v 0#64
end Go.Ab
namespace Go.Ab
open Go
section
variable {m:KM} (hk0:za m=0) {w:Nat} (hw:w < m.W.toNat)
include hk0 hw
theorem zup:(cnL m (w:Int)).2=0∧za (cnL m (w:Int)).1=0∧(cnL m (w:Int)).1.W=((ptM m w).can.n:Int)∧(cnL m (w:Int)).1.val.length=m.val.length∧(cnL m (w:Int)).1.rel.length=m.rel.length ∧
  zdz (ptM m w).can.n (ptM m w).can.fa (zF (cnL m (w:Int)).1) (ptM m w).can.R (zi (cnL m (w:Int)).1) fun x=>x:=by
 obtain ⟨h1,h2,h3,h4⟩:=zkv hk0 hw
 have hr:(ptM m w).min.root < (ptM m w).min.n:=zvu hk0 hw
 have hQv:(zar m (w:Int)).1.val.length=m.val.length∧(zar m (w:Int)).1.rel.length=m.rel.length:=by
  rw [zrh hk0 (by omega)];simp [zbJ,zae,zS]
 have hg:=zw5 hk0 hw
 rw [zEC hk0 hw]
 have hcn:(ptM m w).can.n=(ptM m w).min.n:=rfl
 have hcw:zd0 (zar m (w:Int)).1 (ptM m w).min.root=zaa (List.range (ptM m w).min.n) (ptM m w).min.R (ptM m w).min.fa (ptM m w).min.root:=by
  unfold zd0
  rw [hg,h1]
  have:=zwF (l:=List.range (ptM m w).min.n) (l2:=List.range (ptM m w).min.n) (R:=(ptM m w).min.R) (R2:=zi (zar m (w:Int)).1) (fa:=(ptM m w).min.fa) (fb:=zF (zar m (w:Int)).1) (root:=(ptM m w).min.root) (root2:=(ptM m w).min.root) (f:=fun x=>x)
   List.nodup_range List.nodup_range (fun x=>by simp) (fun x y _ _ e=>e) (fun x hx=>h4.fac x (List.mem_range.1 hx)) h4.rel.len (fun i r r' e1 e2 x y hx hy=>h4.rel.rel i r r' e1 e2 x y (List.mem_range.1 hx) (List.mem_range.1 hy)) (List.mem_range.2 hr) rfl (zk1 (zeb (ptM m w)) _)
  rw [this,List.map_id']
 have w2:=(zx h2).w2
 obtain ⟨l1,l2,l3,l4⟩:=zpe (R:=(ptM m w).min.R) (fa:=(ptM m w).min.fa) hr (zeb (ptM m w))
 have hfa:(ptM m w).can.fa=zat (zaa (List.range (ptM m w).min.n) (ptM m w).min.R (ptM m w).min.fa (ptM m w).min.root) (ptM m w).min.fa:=rfl
 have hR:(ptM m w).can.R=zM (zaa (List.range (ptM m w).min.n) (ptM m w).min.R (ptM m w).min.fa (ptM m w).min.root) (ptM m w).min.R:=rfl
 rw [hcw]
 generalize zaa (List.range (ptM m w).min.n) (ptM m w).min.R (ptM m w).min.fa (ptM m w).min.root=cw at *
 rw [hfa,hR,hcn]
 generalize (zar m (w:Int)).1=Q at *
 generalize (ptM m w).min=P at *
 refine ⟨rfl,zqa h2 (by omega) (by omega),by show ((cw.length:Nat):Int)=_;rw [l1],by simp [zS,hQv.1],by simp [zS,hQv.2],zdz.refl' (fun x hx=>?_) ?_ fun i r r' e1 e2 a b ha hb=>?_⟩
 ·rw [znu (by omega) (by omega)]
  exact h4.fac _ ((l3 _).1 (zaq (by omega)))
 ·have:=h4.rel.len
  simp [zi,zS,zM] at this ⊢;omega
 ·unfold zM at e1
  rw [List.getElem?_map,Option.map_eq_some_iff] at e1
  obtain ⟨s,hs,rfl⟩:=e1
  obtain ⟨s',hs'⟩:=zf4 h4.rel.len hs
  have h3':(zM cw (zi Q))[i]? = some fun a b=>s' (cw.getD a 0) (cw.getD b 0):=by unfold zM;rw [List.getElem?_map,hs'];rfl
  rw [zrF (by omega) e2 h3' (by omega) (by omega)]
  exact h4.rel.rel i s s' hs hs' _ _ ((l3 _).1 (zaq (by omega))) ((l3 _).1 (zaq (by omega)))
end
theorem zE3 {m m':KM} (hm:za m=0) (hm':za m'=0) {w w':Nat} (hw:w < m.W.toNat) (hw':w' < m'.W.toNat) (h:(cnL m (w:Int)).1=(cnL m' (w':Int)).1):zfC (ptM m w) (ptM m' w'):=by
 obtain ⟨a1,a2,a3,a4,a5,a6⟩:=zup hm hw
 obtain ⟨b1,b2,b3,b4,b5,b6⟩:=zup hm' hw'
 rw [h] at a3 a6
 have hn:(ptM m' w').can.n=(ptM m w).can.n:=by omega
 refine (zv0 (m:=ptM m w) (m':=ptM m' w') hw hw').1 ⟨hn,fun k hk=>?_,?_,fun i r r' e1 e2 a b ha hb=>?_⟩
 ·rw [← a6.fac k hk,← b6.fac k (by omega)]
 ·rw [← a6.rel.len,← b6.rel.len]
 ·obtain ⟨s,hs⟩:=zf4 a6.rel.len e1
  rw [← a6.rel.rel i r s e1 hs a b ha hb,← b6.rel.rel i r' s e2 hs a b (by omega) (by omega)]
theorem zE4 {m:KM} (hm:za m=0) {w:Nat} (hw:w < m.W.toNat):0 < (cnL m (w:Int)).1.W.toNat∧zfC (ptM m w) (ptM (cnL m (w:Int)).1 0):=by
 obtain ⟨a1,a2,a3,a4,a5,a6⟩:=zup hm hw
 have hp:=zpf (m:=ptM m w) hw
 have hpos:0 < (ptM m w).can.n:=by
  obtain ⟨Z,B,hz⟩:=hp
  have:=(B.lt hz).2
  omega
 refine ⟨by omega,hp.trans ⟨fun v v'=>v < (ptM m w).can.n∧v'=v,?_,hpos,rfl⟩⟩
 have:=a6.bis
 rw [show (ptM (cnL m (w:Int)).1 0).n=(ptM m w).can.n from by show (cnL m (w:Int)).1.W.toNat=_;omega]
 exact this
end Go.Ab
namespace Go.Ab
open Go
theorem zzW {m:KM} {i v u:Nat} {r:Nat→Nat→Bool} (h:(zi m)[i]? = some r):(znM m i v).getLsbD u=r v u:=by
 unfold zi at h
 rw [List.getElem?_map,Option.map_eq_some_iff] at h
 obtain ⟨s,hs,rfl⟩:=h
 unfold znM rb
 simp [List.getD,hs]
theorem zlc {m:KM} (g:zdX m) {i v u:Nat} (h:(znM m i v).getLsbD u=true):u < m.W.toNat:=by
 have w1:=g.w1
 unfold znM at h
 by_cases hi:i < m.rel.length
 ·by_cases hv:v < (m.rel[i]).length
  ·have e:(m.rel.getD i []).getD v 0#64=(m.rel[i])[v]:=by simp [List.getD,hi,hv]
   rw [e] at h
   exact (zfV (by omega)).1 (g.rel _ (List.getElem_mem hi) _ (List.getElem_mem hv)) u h
  ·simp [List.getD,hi,hv] at h
 ·simp [List.getD,hi] at h
end Go.Ab
namespace Go.Ab
open Go Go.Proofs
set_option maxRecDepth 10000
set_option maxHeartbeats 4000000
variable {T:Nat→Obj→Prop}
theorem zy5 (l:List (BitVec 64)) (h:l≠[]) (hl:l.length≤1000):Fn Tryz.prog T zc1 [.d (dU l)] [] (.own 0) [some (.row 1 (l.map D.u64))]:=by
 refine zP zn zgt (by show 1≤8;decide) _ (fun e env mem n h=>h) ?_
 (repeat' ((conv=>whnf);first|refine vA ?_|refine vB fun b hb=>?_|refine vE ?_|(refine vF ?_ ?_<;>intro hc)|refine vT ?_|(refine vP ?_ ?_;·(simp only [vM] at *;omega))|fail));all_goals try conv=>whnf
 ·refine ⟨trivial,_,[(0,1)],[],rfl,.inl (by (repeat' exact rfl)),⟨by rfl,by rfl,by rfl,trivial,by (repeat' first|exact trivial|exact rfl|refine And.intro ?_ ?_|refine ⟨_,rfl,?_⟩|exact of_decide_eq_true rfl)⟩,by (repeat' exact trivial)⟩
 ·exact absurd (List.map_eq_nil_iff.1 (hb (by simpa using hc))) h
end Go.Ab
namespace Go.Ab
open Go Go.Proofs
set_option maxRecDepth 10000
set_option maxHeartbeats 4000000
variable {T:Nat→Obj→Prop}
theorem zaC.yes {b:Bool} {p q:Prop} (hb:b=true) (h:p):zaC b p q:=⟨fun _=>h,fun e=>by rw [hb] at e;cases e⟩
theorem zaC.no {b:Bool} {p q:Prop} (hb:b=false) (h:q):zaC b p q:=⟨fun e=>(by rw [hb] at e;cases e),fun _=>h⟩
theorem zaC.decY {x:Prop} [Decidable x] {p q:Prop} (hx:x) (h:p):zaC (decide x) p q := .yes (decide_eq_true hx) h
theorem zaC.decN {x:Prop} [Decidable x] {p q:Prop} (hx : ¬x) (h:q):zaC (decide x) p q := .no (decide_eq_false hx) h
abbrev dNd (n:Nd):D := .agg [.int .i64 n.op,.int .i64 n.i,.int .i64 n.e,.int .i64 n.g,.int .i64 n.x,.int .i64 n.y]
abbrev dF (f:List Nd):D := .arr 6 (f.map dNd)
abbrev zph (op:Int):D := .agg [.bool (zaG op),.bool (zau op),.bool (zag op),.bool (zT op),.bool (zY op),.bool (zU op),.int .i64 (zbf op)]
theorem zr6 (op:Int):Fn Tryz.prog T z8 [.d (.int .i64 op)] [] (.d (.tup [zph op,.bool (zdl op)])) []:=by
 by_cases h:1≤op∧op≤21
 ·have:op=1∨op=2∨op=3∨op=4∨op=5∨op=6∨op=7∨op=8∨op=9∨op=10∨op=11∨op=12∨op=13∨op=14∨op=15∨op=16∨op=17∨op=18∨op=19∨op=20∨op=21:=by omega
  clear h
  rcases this with rfl|rfl|rfl|rfl|rfl|rfl|rfl|rfl|rfl|rfl|rfl|rfl|rfl|rfl|rfl|rfl|rfl|rfl|rfl|rfl|rfl
  all_goals refine zb zn zkf (by show 1≤55;decide) ?_
  all_goals (repeat' ((conv=>whnf);first|refine zaC.decN (by omega) ?_|refine zaC.decY (by omega) ?_|refine vA ?_|refine vT ?_));all_goals try conv=>whnf
  all_goals first|rfl|kernel_rfl|skip
 ·refine zb zn zkf (by show 1≤55;decide) ?_
  (repeat' ((conv=>whnf);first|refine zaC.decN (by omega) ?_|refine vA ?_|refine vT ?_));all_goals try conv=>whnf
  have e1:zdl op=false:=by simp only [zdl,decide_eq_false_iff_not];omega
  have e2:zaG op=false:=by simp only [zaG,decide_eq_false_iff_not];omega
  have e3:zau op=false:=by simp only [zau,decide_eq_false_iff_not];omega
  have e4:zag op=false:=by simp only [zag,decide_eq_false_iff_not];omega
  have e5:zT op=false:=by simp only [zT,decide_eq_false_iff_not];omega
  have e6:zY op=false:=by simp only [zY,decide_eq_false_iff_not];omega
  have e7:zU op=false:=by simp only [zU,decide_eq_false_iff_not];omega
  have e8:zbf op=0:=by unfold zbf; (repeat' rw [if_neg (by omega)])
  rw [e1,zph,e2,e3,e4,e5,e6,e7,e8]
  first|rfl|skip
theorem zxX (u:Bool) (f a:Int):Fn Tryz.prog T zhR [.d (.bool u),.d (.int .i64 f),.d (.int .i64 a)] [] (.d (.bool (zjt u f a))) []:=by
 refine zb zn zog (by show 3≤25;decide) ?_
 (repeat' ((conv=>whnf);first|refine vA ?_|refine vE ?_|((first|refine vF ?_ ?_|refine vI ?_ ?_)<;>intro hc<;>try simp only [vL] at hc)|refine vT ?_|refine vZ ?_));all_goals try conv=>whnf
 all_goals (cases u<;>simp_all [zjt]<;>omega)
theorem zxY (u:Bool) (v lo hi:Int):Fn Tryz.prog T zdH [.d (.bool u),.d (.int .i64 v),.d (.int .i64 lo),.d (.int .i64 hi)] [] (.d (.bool (zci u v lo hi))) []:=by
 refine zb zn zke (by show 4≤20;decide) ?_
 (repeat' ((conv=>whnf);first|refine vA ?_|((first|refine vF ?_ ?_|refine vI ?_ ?_)<;>intro hc<;>try simp only [vL] at hc)|refine vT ?_|refine vZ ?_));all_goals try conv=>whnf
 all_goals (cases u<;>simp_all [zci]<;>omega)
def zCv (ok ux uy fa ag ev gr:Bool) (n:Nd) (at_:Int):Int :=
 if ok=false then 10 else
 if zjt ux n.x at_=false∨zjt uy n.y at_=false then 3 else
 if (!(fa||ag||ev)&&decide (n.i≠0)||(!ev&&decide (n.e≠0))||(!gr&&decide (n.g≠0)))=true then 3 else
 if (zci fa n.i 0 7||zci ag n.i 0 3||zci ev n.i 0 7||zci ev n.e 0 7||zci gr n.g 1 15)=true then 2 else 0
set_option maxHeartbeats 40000000 in
theorem zwj (ok ux uy fa ag ev gr:Bool) (fr:Int) (n:Nd) (a:Int) (hu:Fn Tryz.prog T z8 [.d (.int .i64 n.op)] [] (.d (.tup [.agg [.bool ux,.bool uy,.bool fa,.bool ag,.bool gr,.bool ev,.int .i64 fr],.bool ok])) []) :
  Fn Tryz.prog T zeq [.d (dNd n),.d (.int .i64 a)] [] (.d (.int .i64 (zCv ok ux uy fa ag ev gr n a))) []:=by
 refine zb zn zl1 (by show 2≤106;decide) ?_
 (repeat' ((conv=>whnf);first|refine vA ?_|refine vE ?_|((first|refine vD ?_ ?_|refine vI ?_ ?_)<;>intro hc)|refine vT ?_|refine vX ?_|refine yD hu (by (repeat refine ⟨⟨rfl,rfl⟩,?_⟩);rfl) rfl ?_|refine yD (zxX _ _ _) ⟨⟨rfl,rfl⟩,⟨rfl,rfl⟩,⟨rfl,rfl⟩,rfl⟩ rfl ?_|refine yD (zxY _ _ _ _) (by (repeat refine ⟨⟨rfl,rfl⟩,?_⟩);rfl) rfl ?_));all_goals try conv=>whnf
 all_goals (clear hu;simp_all [zCv])
theorem zuT (n:Nd) (a:Int):Fn Tryz.prog T zeq [.d (dNd n),.d (.int .i64 a)] [] (.d (.int .i64 (zeU n a))) []:=by
 exact zwj _ _ _ _ _ _ _ _ n a (zr6 n.op)
theorem zmL (f:List Nd):Fn Tryz.prog T zjd [.d (dF f)] [] (.d (.int .i64 (zdi f))) []:=by
 refine zb zn zq2 (by show 1≤26;decide) ?_
 (repeat' ((conv=>whnf);first|refine vA ?_|(refine vF ?_ ?_<;>intro hc<;>try simp only [vL] at hc)|refine vJ fun hg=>?_|refine vT ?_|refine vX ?_));all_goals try conv=>whnf
 ·simp_all [zdi]
 ·rw [zdi,if_neg (by omega),if_pos (by omega)]
 ·have h0 : ¬f.length=0:=by omega
  refine zal (fun (k:Nat)=>[(12,.d (dF f)),(13,.d (.int .i64 ((f.map dNd).length:Int))),(14,.d (.int .i64 ((k:Int))))]) (fun (k:Nat)=>k≤f.length∧zdi f=zho (f.drop k) k) (fun (k:Nat)=>f.length - k) (0) (⟨by simp,by rw [zdi,if_neg (by omega),if_neg (by omega)];rfl⟩) (by (repeat' first|exact trivial|exact rfl|refine And.intro ?_ ?_)) ?_
  rintro k ⟨hk,hI⟩
  (repeat' ((conv=>whnf);first|refine vA ?_|((first|refine vD ?_ ?_|refine vF ?_ ?_)<;>intro hc<;>try simp only [vL] at hc)|refine vT ?_|(refine vQ ?_ fun x hx=>?_;·omega)|(refine vO ?_ ?_;·omega)|refine vX ?_|refine yD (zuT _ _) ⟨⟨rfl,rfl⟩,⟨rfl,rfl⟩,rfl⟩ rfl ?_));all_goals try conv=>whnf
  ·rw [hI,z2 hx,zho,if_pos hc]
  ·exact ⟨k+1,[],[],⟨by (omega),by rw [hI,z2 hx,zho,if_neg (by simpa using hc)]⟩,by (omega),by (refine ⟨rfl,rfl,rfl,?_,?_⟩;repeat' first|exact trivial|exact rfl|refine And.intro ?_ ?_)⟩
  ·rw [hI,List.drop_eq_nil_of_le (by omega)];rfl
end Go.Ab
namespace Go.Ab
open Go Go.Proofs
set_option maxRecDepth 10000
set_option maxHeartbeats 4000000
variable {T:Nat→Obj→Prop}
abbrev zG (d:List (Nat×Nat)):List (D×D):=d.map fun p=>(D.int .i64 (p.1:Int),D.int .i64 (p.2:Int))
def zaj (l:List Nd) (k:Nat):List (D×D):=match l with
 | []=>[]
 | n::r=>(dNd n,.int .i64 (k:Int))::zaj r (k+1)
theorem zDs (a b:Nd):D.eqk (dNd a) (dNd b)=some (decide (a=b)):=by
 obtain ⟨a1,a2,a3,a4,a5,a6⟩:=a
 obtain ⟨b1,b2,b3,b4,b5,b6⟩:=b
 show some (decide (a1=b1)&&(decide (a2=b2)&&(decide (a3=b3)&&(decide (a4=b4)&&(decide (a5=b5)&&(decide (a6=b6)&&true))))))=_
 simp only [Nd.mk.injEq,Bool.decide_and,Bool.and_true]
theorem zsT (d:List (Nat×Nat)) (i:Nat):zt (zG d) (.int .i64 (i:Int))=some ((d.lookup i).map fun r=>D.int .i64 (r:Int)):=by
 induction d with
 | nil=>rfl
 | cons p d ih =>
  obtain ⟨a,b⟩:=p
  show (match some (decide ((i:Int)=(a:Int))) with
   | some true=>some (some (D.int .i64 (b:Int)))
   | some false=>zt (zG d) (.int .i64 (i:Int))
   | none=>none)=_
  by_cases h:i=a
  ·subst h;simp [List.lookup]
  ·have h1:decide ((i:Int)=(a:Int))=false:=by simp only [decide_eq_false_iff_not];omega
   have h2:(i==a)=false:=by simpa using h
   rw [h1]
   simp only [List.lookup,h2]
   exact ih
theorem zpo (x:Nd) : ∀ (l:List Nd) (k:Nat),zt (zaj l k) (dNd x)=some ((l.idxOf? x).map fun r=>D.int .i64 ((k+r:Nat):Int))
 | [],k=>rfl
 | n::r,k=>by
  have ih:=zpo x r (k+1)
  show (match D.eqk (dNd x) (dNd n) with
   | some true=>some (some (D.int .i64 (k:Int)))
   | some false=>zt (zaj r (k+1)) (dNd x)
   | none=>none)=_
  rw [zDs]
  by_cases h:x=n
  ·subst h;simp [List.idxOf?,List.findIdx?_cons]
  ·have h2:(n==x)=false:=by simpa using fun e=>h e.symm
   simp only [h,decide_false,ih,List.idxOf?,List.findIdx?_cons,h2]
   cases r.findIdx? (· == x) with
   | none=>rfl
   | some j=>simp;omega
theorem zow (x:Nd) : ∀ (l:List Nd) (k:Nat),zaj (l++[x]) k=zaj l k++[(dNd x,.int .i64 ((k+l.length:Nat):Int))]
 | [],k=>rfl
 | n::r,k=>by
  show (dNd n,D.int .i64 (k:Int))::zaj (r++[x]) (k+1)=_
  rw [zow x r (k+1),show k+1+r.length=k+(n::r).length by simp;omega]
  rfl
theorem zdF (x:Nd) (l:List Nd):zaj (l++[x]) 0=zaj l 0++[(dNd x,.int .i64 (((l.map dNd).length:Nat):Int))]:=by
 rw [zow,List.length_map,Nat.zero_add]
abbrev za9:V := .fn zk [.ptr 0 0,.ptr 1 0,.ptr 2 0,.ptr 3 0,.ptr 4 0]
abbrev zbj (f:List Nd) (out:V) (s:FSt):List Ob:=[.box [.map 5],.box [.d (dF f)],.box [za9],.box [.map 6],.box [out],.map (zG s.done),.map (zaj s.out 0)]
abbrev zbk (i:Int):List V:=[.d (.int .i64 i),.ptr 0 0,.ptr 1 0,.ptr 2 0,.ptr 3 0,.ptr 4 0]
abbrev zd9 (f:List Nd) (s:FSt):List (Option Ob):=[some (.box [.map 5]),some (.box [.d (dF f)]),some (.box [za9]),some (.box [.map 6]),some (.box [.own 8]),some (.map (zG s.done)),some (.map (zaj s.out 0)),none,some (.row 6 (s.out.map dNd))]
abbrev zft (f:List Nd) (s:FSt):List (Option Ob):=[some (.box [.map 5]),some (.box [.d (dF f)]),some (.box [za9]),some (.box [.map 6]),some (.box [.own 7]),some (.map (zG s.done)),some (.map (zaj s.out 0)),some (.row 6 (s.out.map dNd))]
theorem zin {op:Int} {x y:Bool} (hx:zaG op=x) (hy:zau op=y):Fn Tryz.prog T z8 [.d (.int .i64 op)] [] (.d (.tup [.agg [.bool x,.bool y,.bool (zag op),.bool (zT op),.bool (zY op),.bool (zU op),.int .i64 (zbf op)],.bool (zdl op)])) []:=by
 subst hx;subst hy
 exact zr6 op
theorem zaV (d:List (Nat×Nat)) (i r:Nat):zG (d++[(i,r)])=zG d++[(.int .i64 (i:Int),.int .i64 (r:Int))]:=by simp
theorem zei {x:Nd} {l:List Nd} {j:Nat} (h:l.idxOf? x=some j):zt (zaj l 0) (dNd x)=some (some (.int .i64 (j:Int))):=by
 rw [zpo,h];simp
theorem zcT {x:Nd} {l:List Nd} (h:l.idxOf? x=none):zt (zaj l 0) (dNd x)=some none:=by
 rw [zpo,h];rfl
theorem zz {d:List (Nat×Nat)} {i:Nat} (h:d.lookup i=none):zt (zG d) (.int .i64 (i:Int))=some none:=by
 rw [zsT,h];rfl
theorem zyY {f:List Nd} (hf:zbm f) {k:Nat} {s:FSt} (hk:k < f.length) (hd:s.done.lookup k=none) (hx:zaG (f.getD k default).op=false) (hy:zau (f.getD k default).op=false) :
  fin f (k+1) k s=((put s.out (f.getD k default)).1,⟨(put s.out (f.getD k default)).2,s.done++[(k,(put s.out (f.getD k default)).1)]⟩):=by
 have hn:=zdm.1 (zif hf hk)
 rw [fin,hd]
 simp only [hx,hy,cond_false]
 have e0:(((f.getD k default).y.toNat:Nat):Int)=(f.getD k default).y:=by rw [hn.2.2.2.2 hy];rfl
 have e1:(((f.getD k default).x.toNat:Nat):Int)=(f.getD k default).x:=by rw [hn.2.2.1 hx];rfl
 rw [e0,e1]
theorem zyZ {f:List Nd} (hf:zbm f) {k:Nat} {s:FSt} (hk:k < f.length) (hd:s.done.lookup k=none) {n:Nd} (hn:f.getD k default=n) (hx:zaG n.op=true) (hy:zau n.op=false) {r:Nat} {s1:FSt} (h1:fin f (n.x.toNat+1) n.x.toNat s=(r,s1)) :
  fin f (k+1) k s=((put s1.out ⟨n.op,n.i,n.e,n.g,(r:Int),n.y⟩).1,⟨(put s1.out ⟨n.op,n.i,n.e,n.g,(r:Int),n.y⟩).2,s1.done++[(k,(put s1.out ⟨n.op,n.i,n.e,n.g,(r:Int),n.y⟩).1)]⟩):=by
 subst hn
 have hn:=zdm.1 (zif hf hk)
 have e1:=zbQ hf hk hx
 rw [fin,hd]
 simp only [hx,hy,cond_false,cond_true]
 rw [zgP hf k ((f.getD k default).x.toNat+1) _ _ (by omega) (by omega) (by omega),h1]
 have e0:(((f.getD k default).y.toNat:Nat):Int)=(f.getD k default).y:=by rw [hn.2.2.2.2 hy];rfl
 simp only [e0]
theorem zy0 {f:List Nd} (hf:zbm f) {k:Nat} {s:FSt} (hk:k < f.length) (hd:s.done.lookup k=none) {n:Nd} (hn:f.getD k default=n) (hx:zaG n.op=true) (hy:zau n.op=true) {r r2:Nat} {s1 s2:FSt} (h1:fin f (n.x.toNat+1) n.x.toNat s=(r,s1)) (h2:fin f (n.y.toNat+1) n.y.toNat s1=(r2,s2)) :
  fin f (k+1) k s=((put s2.out ⟨n.op,n.i,n.e,n.g,(r:Int),(r2:Int)⟩).1,⟨(put s2.out ⟨n.op,n.i,n.e,n.g,(r:Int),(r2:Int)⟩).2,s2.done++[(k,(put s2.out ⟨n.op,n.i,n.e,n.g,(r:Int),(r2:Int)⟩).1)]⟩):=by
 subst hn
 have e1:=zbQ hf hk hx
 have e2:=zfv hf hk hy
 rw [fin,hd]
 simp only [hx,hy,cond_true]
 rw [zgP hf k ((f.getD k default).x.toNat+1) (f.getD k default).x.toNat s (by omega) (by omega) (by omega),h1]
 simp only
 rw [zgP hf k ((f.getD k default).y.toNat+1) (f.getD k default).y.toNat s1 (by omega) (by omega) (by omega),h2]
theorem zh2 {f:List Nd} (hf:zbm f) {j k:Nat} {s:FSt} (hj:j < k) (hjf:j < f.length) (hs:zkI f s) (hd:s.done.lookup k=none):zkI f (fin f (j+1) j s).2∧(fin f (j+1) j s).2.done.lookup k=none:=by
 obtain ⟨h1,h2,h3,l,h4,h5⟩:=ziH hf (j+1) j s (by omega) hjf hs
 refine ⟨h1,?_⟩
 rw [h4]
 exact zwp fun p hp=>by
  rcases List.mem_append.1 hp with hp|hp
  ·exact zrd hd p hp
  ·have:=h5 p hp;omega
theorem zj4 {f:List Nd} {s:FSt} (hs:zkI f s):s.out.length≤f.length:=by
 have h1:=hs.len
 have h2:=zsY hs.keys (n:=f.length) (fun x hx=>by obtain ⟨p,hp,rfl⟩:=List.mem_map.1 hx;exact hs.rng p hp)
 rw [List.length_map] at h2
 omega
theorem zK.objsE {P:Program} {M:Nat→Option Ob} {n f:Nat} {vs lvs:List V} {obs:List Ob} {y:D} {obs':List (Option Ob)} {K:V→Upd→Nat→Prop} (js:List Nat) (hf:Fn P T f lvs obs (.d y) obs') (ha:VPasses M js [] 20 lvs vs)
  (ho:zaJ M js [] obs js) (hnd:nodup js=true) (hsj:ze4 js (zO M vs)=true) (hle:js.length≤obs'.length) (u:Upd) (hu:zg9 js [] n obs' false=u)
  (hK:K (.d y) u (obs'.length - js.length)):zK (zcF P T) M n f vs K := .objs js hf ha ho hnd hsj hle (by rw [hu];exact hK)
end Go.Ab
namespace Go.Ab
open Go Go.Proofs
set_option maxRecDepth 10000
set_option maxHeartbeats 4000000
set_option maxHeartbeats 40000000
variable {T:Nat→Obj→Prop}
theorem zDW {f:List Nd} (hL:f.length≤1000) {k:Nat} {n:Nd} (hn:f[k]? = some n) {s:FSt} (hl:s.out.length≤1000) (hfd:zt (zG (FSt.done s)) (.int .i64 (k:Int))=some none) (hu:Fn Tryz.prog T z8 [.d (.int .i64 n.op)] [] (.d (.tup [.agg [.bool false,.bool false,.bool (zag n.op),.bool (zT n.op),.bool (zY n.op),.bool (zU n.op),.int .i64 (zbf n.op)],.bool (zdl n.op)])) []) {j:Nat} (hfn:zt (zaj (FSt.out s) 0) (dNd n)=some (some (.int .i64 (j:Int)))) :
  Fn Tryz.prog T zk (zbk (k:Int)) (zbj f (.own 7) s++[.row 6 (s.out.map dNd)]) (.d (.int .i64 (j:Int))) [some (.box [.map 5]),some (.box [.d (dF f)]),some (.box [za9]),some (.box [.map 6]),some (.box [.own 8]),some (.map (zG (FSt.done s)++[(.int .i64 (k:Int),.int .i64 (j:Int))])),some (.map (zaj (FSt.out s) 0)),none,some (.row 6 ((FSt.out s).map dNd))]:=by
 refine zP zn zV (by show 6≤68;decide) _ (fun e env mem n h=>h) ?_
 (repeat' ((conv=>whnf);first|refine vA ?_|refine vE ?_|refine vG ?_|refine vH ?_|refine vT ?_|refine vN ‹_› ?_|refine yD hu (by (repeat refine ⟨⟨rfl,rfl⟩,?_⟩);rfl) rfl ?_|refine zaX.mk _ ‹_› ?_));all_goals try conv=>whnf
 refine ⟨trivial,_,[(0,0),(1,1),(2,2),(3,3),(4,4),(5,5),(6,6),(8,7)],[],rfl,.inl (by (repeat' exact rfl)),⟨by rfl,by rfl,by rfl,trivial,by (repeat' first|exact trivial|exact rfl|refine And.intro ?_ ?_|refine ⟨_,rfl,?_⟩|exact of_decide_eq_true rfl)⟩,by (repeat' first|exact trivial|exact rfl|refine And.intro ?_ ?_|refine ⟨_,rfl,?_⟩)⟩
theorem zDX {f:List Nd} (hL:f.length≤1000) {k:Nat} {n:Nd} (hn:f[k]? = some n) {s:FSt} (hl:s.out.length≤1000) (hfd:zt (zG (FSt.done s)) (.int .i64 (k:Int))=some none) (hu:Fn Tryz.prog T z8 [.d (.int .i64 n.op)] [] (.d (.tup [.agg [.bool false,.bool false,.bool (zag n.op),.bool (zT n.op),.bool (zY n.op),.bool (zU n.op),.int .i64 (zbf n.op)],.bool (zdl n.op)])) []) (hfn:zt (zaj (FSt.out s) 0) (dNd n)=some none) :
  Fn Tryz.prog T zk (zbk (k:Int)) (zbj f (.own 7) s++[.row 6 (s.out.map dNd)]) (.d (.int .i64 ((((FSt.out s).map dNd).length:Nat):Int))) [some (.box [.map 5]),some (.box [.d (dF f)]),some (.box [za9]),some (.box [.map 6]),some (.box [.own 8]),some (.map (zG (FSt.done s)++[(.int .i64 (k:Int),.int .i64 ((((FSt.out s).map dNd).length:Nat):Int))])),some (.map (zaj (FSt.out s) 0++[(dNd n,.int .i64 ((((FSt.out s).map dNd).length:Nat):Int))])),none,some (.row 6 ((FSt.out s).map dNd++[dNd n]))]:=by
 refine zP zn zV (by show 6≤68;decide) _ (fun e env mem n h=>h) ?_
 (repeat' ((conv=>whnf);first|refine vA ?_|refine vH ?_|refine vJ fun hg=>?_|refine vT ?_|refine vN ‹_› ?_|(refine vP ?_ ?_;·(simp only [vM] at *;omega))|refine yD hu (by (repeat refine ⟨⟨rfl,rfl⟩,?_⟩);rfl) rfl ?_|refine zaX.mk _ ‹_› ?_));all_goals try conv=>whnf
 refine ⟨trivial,_,[(0,0),(1,1),(2,2),(3,3),(4,4),(5,5),(6,6),(8,11)],[],rfl,.inl (by (repeat' exact rfl)),⟨by rfl,by rfl,by rfl,trivial,by (repeat' first|exact trivial|exact rfl|refine And.intro ?_ ?_|refine ⟨_,rfl,?_⟩|exact of_decide_eq_true rfl)⟩,by (repeat' first|exact trivial|exact rfl|refine And.intro ?_ ?_|refine ⟨_,rfl,?_⟩)⟩
end Go.Ab
namespace Go.Ab
open Go Go.Proofs
set_option maxRecDepth 10000
set_option maxHeartbeats 4000000
set_option maxHeartbeats 40000000
variable {T:Nat→Obj→Prop}
theorem zDY {f:List Nd} (hL:f.length≤1000) {k:Nat} {n:Nd} (hn:f[k]? = some n) {s:FSt} (hl:s.out.length≤1000) (hfd:zt (zG (FSt.done s)) (.int .i64 (k:Int))=some none) (hu:Fn Tryz.prog T z8 [.d (.int .i64 n.op)] [] (.d (.tup [.agg [.bool true,.bool false,.bool (zag n.op),.bool (zT n.op),.bool (zY n.op),.bool (zU n.op),.int .i64 (zbf n.op)],.bool (zdl n.op)])) []) {r1:Nat} {s1:FSt} (hl1:s1.out.length≤1000) (c1:Fn Tryz.prog T zk (zbk n.x) (zbj f (.own 7) s++[.row 6 (s.out.map dNd)]) (.d (.int .i64 (r1:Int))) (zd9 f s1)) (hfd1:zt (zG s1.done) (.int .i64 (k:Int))=some none) {j:Nat} (hfn:zt (zaj s1.out 0) (dNd ⟨n.op,n.i,n.e,n.g,(r1:Int),n.y⟩)=some (some (.int .i64 (j:Int)))) :
  Fn Tryz.prog T zk (zbk (k:Int)) (zbj f (.own 7) s++[.row 6 (s.out.map dNd)]) (.d (.int .i64 (j:Int))) [some (.box [.map 5]),some (.box [.d (dF f)]),some (.box [za9]),some (.box [.map 6]),some (.box [.own 8]),some (.map (zG s1.done++[(.int .i64 (k:Int),.int .i64 (j:Int))])),some (.map (zaj s1.out 0)),none,some (.row 6 (s1.out.map dNd))]:=by
 refine zP zn zV (by show 6≤68;decide) _ (fun e env mem n h=>h) ?_
 (repeat' ((conv=>whnf);first|refine vA ?_|refine vG ?_|refine vT ?_|refine vN ‹_› ?_|refine yD hu (by (repeat refine ⟨⟨rfl,rfl⟩,?_⟩);rfl) rfl ?_|refine zaX.mk _ ‹_› ?_));all_goals try conv=>whnf
 refine zK.objsE [0,1,2,3,4,5,6,7] (c1) (by (repeat' first|exact rfl|refine And.intro ?_ ?_|refine ⟨_,rfl,?_⟩)) (by (repeat' first|exact rfl|refine And.intro ?_ ?_|refine ⟨_,rfl,?_⟩)) (by rfl) (by kernel_rfl) (by simp) [(0,some (.box [.map 5])),(1,some (.box [.d (dF f)])),(2,some (.box [za9])),(3,some (.box [.map 6])),(4,some (.box [.own 10])),(5,some (.map (zG s1.done))),(6,some (.map (zaj s1.out 0))),(7,none),(10,some (.row 6 (s1.out.map dNd)))] rfl ?_
 (repeat' ((conv=>whnf);first|refine vA ?_|refine vE ?_|refine vG ?_|refine vH ?_|refine vT ?_|refine zaX.mk _ ‹_› ?_));all_goals try conv=>whnf
 refine ⟨trivial,_,[(0,0),(1,1),(2,2),(3,3),(4,4),(5,5),(6,6),(8,10)],[],rfl,.inl (by (repeat' exact rfl)),⟨by rfl,by rfl,by rfl,trivial,by (repeat' first|exact trivial|exact rfl|refine And.intro ?_ ?_|refine ⟨_,rfl,?_⟩|exact of_decide_eq_true rfl)⟩,by (repeat' first|exact trivial|exact rfl|refine And.intro ?_ ?_|refine ⟨_,rfl,?_⟩)⟩
theorem zDZ {f:List Nd} (hL:f.length≤1000) {k:Nat} {n:Nd} (hn:f[k]? = some n) {s:FSt} (hl:s.out.length≤1000) (hfd:zt (zG (FSt.done s)) (.int .i64 (k:Int))=some none) (hu:Fn Tryz.prog T z8 [.d (.int .i64 n.op)] [] (.d (.tup [.agg [.bool true,.bool false,.bool (zag n.op),.bool (zT n.op),.bool (zY n.op),.bool (zU n.op),.int .i64 (zbf n.op)],.bool (zdl n.op)])) []) {r1:Nat} {s1:FSt} (hl1:s1.out.length≤1000) (c1:Fn Tryz.prog T zk (zbk n.x) (zbj f (.own 7) s++[.row 6 (s.out.map dNd)]) (.d (.int .i64 (r1:Int))) (zd9 f s1)) (hfd1:zt (zG s1.done) (.int .i64 (k:Int))=some none) (hfn:zt (zaj s1.out 0) (dNd ⟨n.op,n.i,n.e,n.g,(r1:Int),n.y⟩)=some none) :
  Fn Tryz.prog T zk (zbk (k:Int)) (zbj f (.own 7) s++[.row 6 (s.out.map dNd)]) (.d (.int .i64 (((s1.out.map dNd).length:Nat):Int))) [some (.box [.map 5]),some (.box [.d (dF f)]),some (.box [za9]),some (.box [.map 6]),some (.box [.own 8]),some (.map (zG s1.done++[(.int .i64 (k:Int),.int .i64 (((s1.out.map dNd).length:Nat):Int))])),some (.map (zaj s1.out 0++[(dNd ⟨n.op,n.i,n.e,n.g,(r1:Int),n.y⟩,.int .i64 (((s1.out.map dNd).length:Nat):Int))])),none,some (.row 6 (s1.out.map dNd++[dNd ⟨n.op,n.i,n.e,n.g,(r1:Int),n.y⟩]))]:=by
 refine zP zn zV (by show 6≤68;decide) _ (fun e env mem n h=>h) ?_
 (repeat' ((conv=>whnf);first|refine vA ?_|refine vG ?_|refine vT ?_|refine vN ‹_› ?_|refine yD hu (by (repeat refine ⟨⟨rfl,rfl⟩,?_⟩);rfl) rfl ?_|refine zaX.mk _ ‹_› ?_));all_goals try conv=>whnf
 refine zK.objsE [0,1,2,3,4,5,6,7] (c1) (by (repeat' first|exact rfl|refine And.intro ?_ ?_|refine ⟨_,rfl,?_⟩)) (by (repeat' first|exact rfl|refine And.intro ?_ ?_|refine ⟨_,rfl,?_⟩)) (by rfl) (by kernel_rfl) (by simp) [(0,some (.box [.map 5])),(1,some (.box [.d (dF f)])),(2,some (.box [za9])),(3,some (.box [.map 6])),(4,some (.box [.own 10])),(5,some (.map (zG s1.done))),(6,some (.map (zaj s1.out 0))),(7,none),(10,some (.row 6 (s1.out.map dNd)))] rfl ?_
 (repeat' ((conv=>whnf);first|refine vA ?_|refine vH ?_|refine vJ fun hg=>?_|refine vT ?_|(refine vP ?_ ?_;·(simp only [vM] at *;omega))|refine zaX.mk _ ‹_› ?_));all_goals try conv=>whnf
 refine ⟨trivial,_,[(0,0),(1,1),(2,2),(3,3),(4,4),(5,5),(6,6),(8,12)],[],rfl,.inl (by (repeat' exact rfl)),⟨by rfl,by rfl,by rfl,trivial,by (repeat' first|exact trivial|exact rfl|refine And.intro ?_ ?_|refine ⟨_,rfl,?_⟩|exact of_decide_eq_true rfl)⟩,by (repeat' first|exact trivial|exact rfl|refine And.intro ?_ ?_|refine ⟨_,rfl,?_⟩)⟩
end Go.Ab
namespace Go.Ab
open Go Go.Proofs
set_option maxRecDepth 10000
set_option maxHeartbeats 4000000
set_option maxHeartbeats 40000000
variable {T:Nat→Obj→Prop}
theorem zD0 {f:List Nd} (hL:f.length≤1000) {k:Nat} {n:Nd} (hn:f[k]? = some n) {s:FSt} (hl:s.out.length≤1000) (hfd:zt (zG (FSt.done s)) (.int .i64 (k:Int))=some none) (hu:Fn Tryz.prog T z8 [.d (.int .i64 n.op)] [] (.d (.tup [.agg [.bool true,.bool true,.bool (zag n.op),.bool (zT n.op),.bool (zY n.op),.bool (zU n.op),.int .i64 (zbf n.op)],.bool (zdl n.op)])) []) {r1:Nat} {s1:FSt} (hl1:s1.out.length≤1000) (c1:Fn Tryz.prog T zk (zbk n.x) (zbj f (.own 7) s++[.row 6 (s.out.map dNd)]) (.d (.int .i64 (r1:Int))) (zd9 f s1)) (hfd1:zt (zG s1.done) (.int .i64 (k:Int))=some none) {r2:Nat} {s2:FSt} (hl2:s2.out.length≤1000) (c2:Fn Tryz.prog T zk (zbk n.y) (zbj f (.own 7) s1++[.row 6 (s1.out.map dNd)]) (.d (.int .i64 (r2:Int))) (zd9 f s2)) (hfd2:zt (zG s2.done) (.int .i64 (k:Int))=some none) {j:Nat} (hfn:zt (zaj s2.out 0) (dNd ⟨n.op,n.i,n.e,n.g,(r1:Int),(r2:Int)⟩)=some (some (.int .i64 (j:Int)))) :
  Fn Tryz.prog T zk (zbk (k:Int)) (zbj f (.own 7) s++[.row 6 (s.out.map dNd)]) (.d (.int .i64 (j:Int))) [some (.box [.map 5]),some (.box [.d (dF f)]),some (.box [za9]),some (.box [.map 6]),some (.box [.own 8]),some (.map (zG s2.done++[(.int .i64 (k:Int),.int .i64 (j:Int))])),some (.map (zaj s2.out 0)),none,some (.row 6 (s2.out.map dNd))]:=by
 refine zP zn zV (by show 6≤68;decide) _ (fun e env mem n h=>h) ?_
 (repeat' ((conv=>whnf);first|refine vA ?_|refine vG ?_|refine vT ?_|refine vN ‹_› ?_|refine yD hu (by (repeat refine ⟨⟨rfl,rfl⟩,?_⟩);rfl) rfl ?_|refine zaX.mk _ ‹_› ?_));all_goals try conv=>whnf
 refine zK.objsE [0,1,2,3,4,5,6,7] (c1) (by (repeat' first|exact rfl|refine And.intro ?_ ?_|refine ⟨_,rfl,?_⟩)) (by (repeat' first|exact rfl|refine And.intro ?_ ?_|refine ⟨_,rfl,?_⟩)) (by rfl) (by kernel_rfl) (by simp) [(0,some (.box [.map 5])),(1,some (.box [.d (dF f)])),(2,some (.box [za9])),(3,some (.box [.map 6])),(4,some (.box [.own 10])),(5,some (.map (zG s1.done))),(6,some (.map (zaj s1.out 0))),(7,none),(10,some (.row 6 (s1.out.map dNd)))] rfl ?_
 (repeat' ((conv=>whnf);first|refine vA ?_|refine vG ?_|refine vT ?_));all_goals try conv=>whnf
 refine zK.objsE [0,1,2,3,4,5,6,10] (c2) (by (repeat' first|exact rfl|refine And.intro ?_ ?_|refine ⟨_,rfl,?_⟩)) (by (repeat' first|exact rfl|refine And.intro ?_ ?_|refine ⟨_,rfl,?_⟩)) (by rfl) (by kernel_rfl) (by simp) [(0,some (.box [.map 5])),(1,some (.box [.d (dF f)])),(2,some (.box [za9])),(3,some (.box [.map 6])),(4,some (.box [.own 11])),(5,some (.map (zG s2.done))),(6,some (.map (zaj s2.out 0))),(10,none),(11,some (.row 6 (s2.out.map dNd)))] rfl ?_
 (repeat' ((conv=>whnf);first|refine vA ?_|refine vE ?_|refine vG ?_|refine vT ?_|refine zaX.mk _ ‹_› ?_));all_goals try conv=>whnf
 refine ⟨trivial,_,[(0,0),(1,1),(2,2),(3,3),(4,4),(5,5),(6,6),(8,11)],[],rfl,.inl (by (repeat' exact rfl)),⟨by rfl,by rfl,by rfl,trivial,by (repeat' first|exact trivial|exact rfl|refine And.intro ?_ ?_|refine ⟨_,rfl,?_⟩|exact of_decide_eq_true rfl)⟩,by (repeat' first|exact trivial|exact rfl|refine And.intro ?_ ?_|refine ⟨_,rfl,?_⟩)⟩
theorem zD1 {f:List Nd} (hL:f.length≤1000) {k:Nat} {n:Nd} (hn:f[k]? = some n) {s:FSt} (hl:s.out.length≤1000) (hfd:zt (zG (FSt.done s)) (.int .i64 (k:Int))=some none) (hu:Fn Tryz.prog T z8 [.d (.int .i64 n.op)] [] (.d (.tup [.agg [.bool true,.bool true,.bool (zag n.op),.bool (zT n.op),.bool (zY n.op),.bool (zU n.op),.int .i64 (zbf n.op)],.bool (zdl n.op)])) []) {r1:Nat} {s1:FSt} (hl1:s1.out.length≤1000) (c1:Fn Tryz.prog T zk (zbk n.x) (zbj f (.own 7) s++[.row 6 (s.out.map dNd)]) (.d (.int .i64 (r1:Int))) (zd9 f s1)) (hfd1:zt (zG s1.done) (.int .i64 (k:Int))=some none) {r2:Nat} {s2:FSt} (hl2:s2.out.length≤1000) (c2:Fn Tryz.prog T zk (zbk n.y) (zbj f (.own 7) s1++[.row 6 (s1.out.map dNd)]) (.d (.int .i64 (r2:Int))) (zd9 f s2)) (hfd2:zt (zG s2.done) (.int .i64 (k:Int))=some none) (hfn:zt (zaj s2.out 0) (dNd ⟨n.op,n.i,n.e,n.g,(r1:Int),(r2:Int)⟩)=some none) :
  Fn Tryz.prog T zk (zbk (k:Int)) (zbj f (.own 7) s++[.row 6 (s.out.map dNd)]) (.d (.int .i64 (((s2.out.map dNd).length:Nat):Int))) [some (.box [.map 5]),some (.box [.d (dF f)]),some (.box [za9]),some (.box [.map 6]),some (.box [.own 8]),some (.map (zG s2.done++[(.int .i64 (k:Int),.int .i64 (((s2.out.map dNd).length:Nat):Int))])),some (.map (zaj s2.out 0++[(dNd ⟨n.op,n.i,n.e,n.g,(r1:Int),(r2:Int)⟩,.int .i64 (((s2.out.map dNd).length:Nat):Int))])),none,some (.row 6 (s2.out.map dNd++[dNd ⟨n.op,n.i,n.e,n.g,(r1:Int),(r2:Int)⟩]))]:=by
 refine zP zn zV (by show 6≤68;decide) _ (fun e env mem n h=>h) ?_
 (repeat' ((conv=>whnf);first|refine vA ?_|refine vG ?_|refine vT ?_|refine vN ‹_› ?_|refine yD hu (by (repeat refine ⟨⟨rfl,rfl⟩,?_⟩);rfl) rfl ?_|refine zaX.mk _ ‹_› ?_));all_goals try conv=>whnf
 refine zK.objsE [0,1,2,3,4,5,6,7] (c1) (by (repeat' first|exact rfl|refine And.intro ?_ ?_|refine ⟨_,rfl,?_⟩)) (by (repeat' first|exact rfl|refine And.intro ?_ ?_|refine ⟨_,rfl,?_⟩)) (by rfl) (by kernel_rfl) (by simp) [(0,some (.box [.map 5])),(1,some (.box [.d (dF f)])),(2,some (.box [za9])),(3,some (.box [.map 6])),(4,some (.box [.own 10])),(5,some (.map (zG s1.done))),(6,some (.map (zaj s1.out 0))),(7,none),(10,some (.row 6 (s1.out.map dNd)))] rfl ?_
 (repeat' ((conv=>whnf);first|refine vA ?_|refine vG ?_|refine vT ?_));all_goals try conv=>whnf
 refine zK.objsE [0,1,2,3,4,5,6,10] (c2) (by (repeat' first|exact rfl|refine And.intro ?_ ?_|refine ⟨_,rfl,?_⟩)) (by (repeat' first|exact rfl|refine And.intro ?_ ?_|refine ⟨_,rfl,?_⟩)) (by rfl) (by kernel_rfl) (by simp) [(0,some (.box [.map 5])),(1,some (.box [.d (dF f)])),(2,some (.box [za9])),(3,some (.box [.map 6])),(4,some (.box [.own 11])),(5,some (.map (zG s2.done))),(6,some (.map (zaj s2.out 0))),(10,none),(11,some (.row 6 (s2.out.map dNd)))] rfl ?_
 (repeat' ((conv=>whnf);first|refine vA ?_|refine vJ fun hg=>?_|refine vT ?_|(refine vP ?_ ?_;·(simp only [vM] at *;omega))|refine zaX.mk _ ‹_› ?_));all_goals try conv=>whnf
 refine ⟨trivial,_,[(0,0),(1,1),(2,2),(3,3),(4,4),(5,5),(6,6),(8,13)],[],rfl,.inl (by (repeat' exact rfl)),⟨by rfl,by rfl,by rfl,trivial,by (repeat' first|exact trivial|exact rfl|refine And.intro ?_ ?_|refine ⟨_,rfl,?_⟩|exact of_decide_eq_true rfl)⟩,by (repeat' first|exact trivial|exact rfl|refine And.intro ?_ ?_|refine ⟨_,rfl,?_⟩)⟩
end Go.Ab
