/- A part of the proofs of this seat: functions and their contracts. -/
import Derived.Test.YtkmhdnlmghaooaaGreatDoorMD
import Derived.Shelf.Strconv.Itoa0
import Derived.Sort.WalkA14
import Derived.Test.YtkmhdnlmghaooaaGreatDoorProg
import Derived.Calls
import Derived.Sort.LotD4
import Derived.WalkKit
import Derived.Maps.OwnRows
import Derived.Maps.RangeRun
import Derived.Shelf.Sort.Plain
import Derived.Sort.OwnSortedInts
import Derived.Sort.AssemblyPlain
import Derived.Deep.RegionLaw
import Derived.Deep.AppendLies
import Derived.Deep.DrawnRows
set_option linter.unusedVariables false
set_option linter.unusedSimpArgs false
set_option linter.unusedSectionVars false
namespace Go.Ab
open Go Go.Proofs
set_option maxRecDepth 10000
set_option maxHeartbeats 4000000
variable {T:Nat→Obj→Prop}
theorem zu6 (hR:zaK T) (p:PM) (hp:zaM p.rank) (hc0:zy p=0) (n:Nd) (hn:0≤n.g∧n.g < 9223372036854775808) (x y:BitVec 64) (h3:n.op=3→0≤n.i∧n.i < p.val.length) (h15:n.op=15→0≤n.i∧n.i < p.cell.length) :
  Fn Tryz.prog T zee [.d (dPM p),.d (dNd n),.d (.u64 x),.d (.u64 y)] [] (.d (.u64 (zcB p n.hd x y))) []:=by
 obtain ⟨op,i,e,g,nx,ny⟩:=n
 obtain ⟨G,rfl⟩ : ∃ G:Nat,g=(G:Int):=⟨g.toNat,by have:=hn.1;simp only at this;omega⟩
 exact zwN hR p hp hc0 op i e G (by have:=hn.2;simp only at this;omega) nx ny x y h3 h15
theorem zp7 {β:Type} (v:Hd→β→β→β) (d:β) (n:Nd) : ∀ (l:List Nd) (acc:List β),zam v d (l++[n]) acc=zam v d l acc++[v n.hd ((zam v d l acc).getD n.x.toNat d) ((zam v d l acc).getD n.y.toNat d)]
 | [],acc=>rfl
 | m::r,acc=>by rw [List.cons_append,zam,zam,zp7 v d n r]
theorem zv9 (p:PM):ztF (zcB p) where
 x h a b c hx:=by
  have : ¬(4≤h.op∧h.op≤21):=by simpa [zak] using hx
  unfold zcB
  repeat (rw [if_neg (show ¬h.op=4 by omega)])
  by_cases h1:h.op=1
  ·simp [h1]
  ·by_cases h3:h.op=3
   ·simp [h3]
   ·simp only [h1,h3,if_false,show ¬h.op=5 by omega,show ¬h.op=6 by omega,show ¬h.op=7 by omega,show ¬h.op=8 by omega,show ¬h.op=9 by omega,show ¬h.op=10 by omega,show ¬h.op=11 by omega,show ¬h.op=13 by omega,show ¬h.op=14 by omega,show ¬h.op=15 by omega]
 y h a b c hy:=by
  have : ¬(5≤h.op∧h.op≤8∨h.op=13∨h.op=14∨h.op=16∨h.op=19∨h.op=21):=by simpa [zae] using hy
  unfold zcB
  simp only [show ¬h.op=5 by omega,show ¬h.op=6 by omega,show ¬h.op=7 by omega,show ¬h.op=8 by omega,show ¬h.op=13 by omega,show ¬h.op=14 by omega,if_false]
noncomputable def zbN (p:PM) (f:List Nd):BitVec 64×Int :=
 if zy p≠0 then (0#64,zy p) else if zbh f≠0 then (0#64,zbh f) else if zaz .i64 (fun p q=>p &&& ~~~q) (uni zbj (cL f):Int) 59≠0 then (0#64,10) else
 if zdK f p.cell.length p.val.length=false then (0#64,2) else ((zam (zcB p) 0#64 (cL f) []).getD ((cL f).length - 1) 0#64,0)
abbrev dUE (x:BitVec 64×Int):D := .tup [.u64 x.1,.int .i64 x.2]
theorem zy4 {f:List Nd} {a b:Nat} (ha:a≤4) (hb:b≤8) (h:zdK f a b=true) {n:Nd} (hn:n∈cL f):(n.op=3→0≤n.i∧n.i < b)∧(zE n.op=true→0≤n.i∧n.i < a)∧(zH n.op=true→n.g.toNat < 2 ^ a):=by
 have hh:=ziS hn
 simp only [zdK,zeB,Bool.and_eq_true,decide_eq_true_eq,Int.toNat_natCast] at h
 obtain ⟨⟨-,h1⟩,h2⟩:=h
 have h1:=(zgV zbL).1 (h1.resolve_left (by omega)) n hn
 have h2:=(zgV zdJ).1 (h2.resolve_left (by omega)) n hn
 refine ⟨fun e=>?_,fun e=>?_,fun e=>?_⟩
 ·have e':z2 n.hd.op=true:=decide_eq_true e
  have h3:0≤n.i∧n.i≤7:=hh.fact e'
  rw [zdJ,if_pos e'] at h2
  have h2:2 ^ n.i.toNat < 2 ^ b:=h2
  have:=(Nat.pow_lt_pow_iff_right (by decide:1 < 2)).1 h2
  omega
 ·have h3:0≤n.i∧n.i≤3:=hh.agent e
  rw [zbL,if_pos (show zE n.hd.op=true from e)] at h1
  have h1:2 ^ n.i.toNat < 2 ^ a:=h1
  have:=(Nat.pow_lt_pow_iff_right (by decide:1 < 2)).1 h1
  omega
 ·have h3 : ¬ zE n.hd.op=true:=by
   have:11≤n.op∧n.op≤13:=by simpa [zH] using e
   simp only [zE,decide_eq_true_eq];show ¬(n.op=9∨n.op=10∨n.op=14∨n.op=15);omega
  rw [zbL,if_neg h3] at h1
  exact h1
theorem zwQ {n:Nd} (hh:zjM n.hd):0≤n.g∧n.g≤15:=by
 cases hg:zH n.op with
 | true=>have:1≤n.g∧n.g≤15:=hh.group hg;omega
 | false=>have:n.g=0:=hh.g0 hg;omega
theorem zzO {c:List Nd} (hc:zaN c) {k:Nat} {n:Nd} (h:c[k]? = some n) (hk:0 < k):(0≤n.x∧n.x < k)∧0≤n.y∧n.y < k:=by
 have h1:=zbX.1 (hc k n h)
 constructor
 ·cases hx:zak n.op with
  | true=>exact h1.2.1 hx
  | false=>have:=h1.2.2.1 hx;omega
 ·cases hy:zae n.op with
  | true=>exact h1.2.2.2.1 hy
  | false=>have:=h1.2.2.2.2 hy;omega
theorem zwG (hR:zaK T) (p:PM) (hp:zaM p.rank) (f:List Nd):Fn Tryz.prog T zgH [.d (dPM p),.d (dF f)] [] (.d (dUE (zbN p f))) []:=by
 have hlen:=zuK f
 have hok:=zs7 f
 refine zd zt zmH (by show 2≤71;decide) ?_
 (repeat' ((conv=>whnf);first|refine vA ?_|refine vE ?_|((first|refine vD ?_ ?_|refine vI ?_ ?_)<;>intro hc<;>try simp only [vL] at hc)|refine vJ fun hg=>?_|refine vT ?_|refine yD (zcP hR _ hp) ⟨⟨rfl,rfl⟩,rfl⟩ rfl ?_|refine yD (zhg _) ⟨⟨rfl,rfl⟩,rfl⟩ rfl ?_|refine yD (zry _) ⟨⟨rfl,rfl⟩,rfl⟩ rfl ?_|refine yD (ztc _ _ _) ⟨⟨rfl,rfl⟩,⟨rfl,rfl⟩,⟨rfl,rfl⟩,rfl⟩ rfl ?_|refine yN (zlN _) ⟨⟨rfl,rfl⟩,rfl⟩ ?_));all_goals try conv=>whnf
 ·have e:zbN p f=(0#64,zy p):=if_pos ‹_›
  rw [e];rfl
 ·have e:zbN p f=(0#64,zbh f):=by rw [zbN,if_neg (by omega),if_pos ‹_›]
  rw [e];rfl
 ·have e:zbN p f=(0#64,10):=by rw [zbN,if_neg (by omega),if_neg (by omega),if_pos ‹_›]
  rw [e];rfl
 ·have hc0:=‹zy p=0›
  have hf0:=‹zbh f=0›
  have hgd:=zB hc0
  have hfit:=‹zdK f _ _=true›
  have e:zbN p f=((zam (zcB p) 0#64 (cL f) []).getD ((cL f).length - 1) 0#64,0):=by rw [zbN,if_neg (by omega),if_neg (by omega),if_neg (by omega),if_neg (by simp [hfit])]
  have hpos:=(zeX hf0).1.pos
  rw [e]
  refine zA (fun ((k,zs):Nat×List D)=>[(2,.ptr 0 0),(8,.own 1),(37,.d (dF (cL f))),(38,.d (.int .i64 (((cL f).map dNd).length:Int))),(39,.d (.int .i64 ((k:Int))))]) (fun ((k,zs):Nat×List D)=>[(0,some (za1 p)),(1,some (.row 1 zs))]) 2 (fun ((k,zs):Nat×List D)=>k≤(cL f).length∧zs=(zam (zcB p) 0#64 ((cL f).take k) []).map D.u64) (fun ((k,zs):Nat×List D)=>(cL f).length - k) ((0,[])) [(0,0)]   [1] (⟨by simp,rfl⟩) (by (refine ⟨rfl,rfl,rfl,?_,?_⟩;repeat' first|exact trivial|exact rfl|exact ⟨_,rfl⟩|refine And.intro ?_ ?_|refine ⟨_,rfl,?_⟩|decide)) ?_
  rintro ⟨k,zs⟩ ⟨hk,hI⟩
  subst hI
  have hl:(zam (zcB p) 0#64 ((cL f).take k) []).length=k:=by rw [zfb];simp;omega
  by_cases hkl:k < (cL f).length
  ·obtain ⟨n,hn⟩ : ∃ n,(cL f)[k]? = some n:=⟨(cL f)[k],by simp [hkl]⟩
   have hnm:=List.mem_of_getElem? hn
   obtain ⟨f1,f2,-⟩:=zy4 hgd.n4 hgd.v8 hfit hnm
   have hgn:=zwQ (ziS hnm)
   have hst:zam (zcB p) 0#64 ((cL f).take (k+1)) []=zam (zcB p) 0#64 ((cL f).take k) []++[zcB p n.hd ((zam (zcB p) 0#64 ((cL f).take k) []).getD n.x.toNat 0#64) ((zam (zcB p) 0#64 ((cL f).take k) []).getD n.y.toNat 0#64)]:=by
    rw [List.take_add_one,hn];exact zp7 _ _ _ _ _
   have h15:n.op=15→0≤n.i∧n.i < p.cell.length:=fun e=>f2 (decide_eq_true (by omega))
   have hgn2:0≤n.g∧n.g < 9223372036854775808:=⟨hgn.1,by omega⟩
   have hxy:0 < k→(0≤n.x∧n.x < k)∧0≤n.y∧n.y < k:=fun h=>zzO hok hn h
   (repeat' ((conv=>whnf);first|refine vA ?_|(refine vF ?_ ?_<;>intro hc<;>try simp only [vL] at hc)|refine vJ fun hg=>?_|refine vT ?_|refine vN ‹_› ?_|(refine vQ ?_ fun x hx=>?_;·omega)|((first|refine vO ?_ ?_|refine vP ?_ ?_);·first|omega|(simp only [vM] at *;omega))|(refine vU ?_ ?_;·kernel_rfl)|refine yD (zu6 hR p hp hc0 n hgn2 _ _ f1 h15) (by (repeat refine ⟨⟨rfl,rfl⟩,?_⟩);rfl) rfl ?_));all_goals try conv=>whnf
   ·rename_i a ha
    have ea:(zam (zcB p) 0#64 ((cL f).take k) []).getD n.x.toNat 0#64=a:=by rw [List.getD,ha];rfl
    have eb:(zam (zcB p) 0#64 ((cL f).take k) []).getD n.y.toNat 0#64=x:=by rw [List.getD,hx];rfl
    rw [ea,eb] at hst
    refine ⟨(k+1,_),[(0,0),(1,4)],[],?_,?_,by (refine ⟨rfl,rfl,rfl,?_,?_⟩;repeat' first|exact trivial|exact rfl|refine And.intro ?_ ?_|refine ⟨_,rfl,?_⟩|decide)⟩
    ·exact ⟨hkl,by rw [hst,List.map_append];rfl⟩
    ·((simp only [vM] at *;omega))
   ·have h0:zam (zcB p) 0#64 ((cL f).take k) []=[]:=List.length_eq_zero_iff.1 (by omega)
    rw [h0] at hst
    rw [h0]
    refine ⟨(k+1,_),[(0,0),(1,4)],[],?_,?_,by (refine ⟨rfl,rfl,rfl,?_,?_⟩;repeat' first|exact trivial|exact rfl|refine And.intro ?_ ?_|refine ⟨_,rfl,?_⟩|decide)⟩
    ·exact ⟨hkl,by rw [hst];rfl⟩
    ·((simp only [vM] at *;omega))
   ·omega
  ·(repeat' ((conv=>whnf);first|refine vA ?_|(refine vF ?_ ?_<;>intro hc<;>try simp only [vL] at hc)|refine vJ fun hg=>?_|refine vT ?_|(refine vQ ?_ fun x hx=>?_;·first|omega|(simp only [vM] at *;omega))|((first|refine vO ?_ ?_|refine vP ?_ ?_);·first|omega|(simp only [vM] at *;omega))|(refine vU ?_ ?_;·kernel_rfl)|fail));all_goals try conv=>whnf
   ·omega
   ·omega
   ·have ek:k=(cL f).length:=by omega
    rw [ek,List.take_length] at hx hl
    rw [show ((((zam (zcB p) 0#64 (cL f) []).map D.u64).length:Int) - 1).toNat=(cL f).length - 1 by rw [List.length_map];omega] at hx
    rw [List.getD,hx];rfl
 ·have e:zbN p f=(0#64,2):=by rw [zbN,if_neg (by omega),if_neg (by omega),if_neg (by omega),if_pos ‹_›]
  rw [e];rfl
end Go.Ab
namespace Go.Ab
open Go
theorem zpB {p p':Nat→Bool} (hi : ∀ w,p w=true→p' w=true) : ∀ l:List Nat,(l.filter p).length≤(l.filter p').length∧((∃ w∈l,p w=false∧p' w=true)→(l.filter p).length < (l.filter p').length)
 | []=>⟨Nat.le_refl _,fun ⟨w,h,_⟩=>by cases h⟩
 | x::l=>by
  obtain ⟨h1,h2⟩:=zpB hi l
  cases hp:p x with
  | true =>
   rw [List.filter_cons_of_pos hp,List.filter_cons_of_pos (hi x hp)]
   refine ⟨by simpa using h1,fun ⟨w,hw,h3,h4⟩=>?_⟩
   rcases List.mem_cons.1 hw with rfl|hw
   ·rw [hp] at h3;cases h3
   ·have:=h2 ⟨w,hw,h3,h4⟩;simpa using this
  | false =>
   rw [List.filter_cons_of_neg (by simp [hp])]
   cases hp':p' x with
   | true =>
    rw [List.filter_cons_of_pos hp',List.length_cons]
    exact ⟨by omega,fun _=>by omega⟩
   | false =>
    rw [List.filter_cons_of_neg (by simp [hp'])]
    refine ⟨h1,fun ⟨w,hw,h3,h4⟩=>?_⟩
    rcases List.mem_cons.1 hw with rfl|hw
    ·rw [hp'] at h4;cases h4
    ·exact h2 ⟨w,hw,h3,h4⟩
end Go.Ab
namespace Go.Ab
open Go Go.Proofs
set_option maxRecDepth 10000
set_option maxHeartbeats 4000000
variable {T:Nat→Obj→Prop}
def zV (m:KM):Int :=
 if m.W < 1∨64 < m.W then 2 else if 4 < m.rel.length∨8 < m.val.length then 8 else if m.rel.any (fun r=>decide ((r.length:Int)≠m.W)) then 3 else if m.val.any (bad m.W) then 2 else if m.rel.any (fun r=>r.any (bad m.W)) then 2 else 0
structure zcC (m:KM):Prop where
 w1:1≤m.W
 w2:m.W≤64
 n4:m.rel.length≤4
 v8:m.val.length≤8
 len : ∀ r∈m.rel,(r.length:Int)=m.W
 val : ∀ s∈m.val,bad m.W s=false
 rel : ∀ r∈m.rel,∀ s∈r,bad m.W s=false
theorem za4 {m:KM} (h:zV m=0):zcC m:=by
 unfold zV at h
 split at h
 ·cases h
 ·split at h
  ·cases h
  ·split at h
   ·cases h
   ·split at h
    ·cases h
    ·split at h
     ·cases h
     ·rename_i h1 h2 h3 h4 h5
      refine ⟨by omega,by omega,by omega,by omega,fun r hr=>?_,fun s hs=>?_,fun r hr s hs=>?_⟩
      ·simp only [List.any_eq_true,not_exists,not_and] at h3;simpa using h3 r hr
      ·simp only [List.any_eq_true,not_exists,not_and] at h4;simpa using h4 s hs
      ·simp only [List.any_eq_true,not_exists,not_and] at h5;simpa using h5 r hr s hs
def zbD (l:List (BitVec 64)) (w:Nat):Nat→Nat
 | 0=>0
 | k+1=>zbD l w k+if (l.getD k 0#64).getLsbD w=true then 2 ^ k else 0
theorem zrq (l:List (BitVec 64)) (w:Nat) : ∀ k,zbD l w k < 2 ^ k
 | 0=>by simp [zbD]
 | k+1=>by
  have:=zrq l w k
  have h2:=Nat.two_pow_pos k
  rw [zbD,Nat.pow_succ]
  split<;>omega
theorem zkd (l:List (BitVec 64)) (w:Nat) {i:Nat} : ∀ k,(zbD l w k).testBit i=true↔i < k∧(l.getD i 0#64).getLsbD w=true
 | 0=>by simp [zbD]
 | k+1=>by
  have hlt:=zrq l w k
  have ih:=zkd l w (i:=i) k
  have e:zbD l w (k+1)=2 ^ k * (if (l.getD k 0#64).getLsbD w=true then 1 else 0)+zbD l w k:=by
   rw [zbD];split<;>omega
  rw [e,Nat.testBit_two_pow_mul_add _ hlt]
  by_cases h:i < k
  ·rw [if_pos h,ih]
   exact ⟨fun ⟨a,b⟩=>⟨by omega,b⟩,fun ⟨a,b⟩=>⟨h,b⟩⟩
  ·rw [if_neg h]
   by_cases h2:i=k
   ·subst h2
    rw [Nat.sub_self]
    split
    ·rename_i hb;exact ⟨fun _=>⟨by omega,hb⟩,fun _=>by decide⟩
    ·rename_i hb;exact ⟨fun h=>by simp at h,fun h=>absurd h.2 hb⟩
   ·constructor
    ·intro h3
     exfalso
     obtain ⟨m,hm⟩ : ∃ m,i - k=m+1:=⟨i - k - 1,by omega⟩
     rw [hm,Nat.testBit_succ] at h3
     split at h3<;>simp at h3
    ·rintro ⟨a,-⟩;omega
end Go.Ab
namespace Go.Ab
structure Ren (n:Nat) (f:Nat→Nat):Prop where
 lt : ∀ w,w < n→f w < n
 inj : ∀ v w,v < n→w < n→f v=f w→v=w
abbrev zov:=List (Nat→Nat→Bool)
end Go.Ab
namespace Go.Ab
def zqM (l:List Nat) (R:zov):zov:=R.map fun r=>fun i j=>r (l.getD i 0) (l.getD j 0)
def zuk (l:List Nat) (fa:Nat→Int):Nat→Int:=fun i=>fa (l.getD i 0)
theorem zwS {l:List Nat} {i:Nat} (h:i < l.length):l.getD i 0∈l:=by
 rw [List.getD,List.getElem?_eq_getElem h];exact List.getElem_mem h
end Go.Ab
namespace Go.Ab
theorem zet {n:Nat} (hn:n≤64) {f:Nat→Bool} {w:Nat} : (zF f n).getLsbD w=true↔w < n∧f w=true:=by
 rw [zes];simp only [Bool.and_eq_true,decide_eq_true_eq]
 exact ⟨fun h=>⟨h.1.2,h.2⟩,fun h=>⟨⟨by omega,h.1⟩,h.2⟩⟩
def zaj (m:KM):zov:=m.rel.map fun r=>fun v w=>rb r v w
def zoU (m:KM) (w:Nat):Int:=(zbD m.val w m.val.length:Int)
def zbH (s:BitVec 64) (l:List Nat):BitVec 64:=zF (fun i=>s.getLsbD (l.getD i 0)) l.length
def zdf (m:KM) (l:List Nat):KM:=⟨l.length,m.val.map fun s=>zbH s l,m.rel.map fun r=>l.map fun w=>zbH (r.getD w 0#64) l⟩
theorem zjf {s:BitVec 64} {l:List Nat} (hl:l.length≤64) {i:Nat} : (zbH s l).getLsbD i=true↔i < l.length∧s.getLsbD (l.getD i 0)=true:=zet hl
theorem zeV {n:Int} {s:BitVec 64} (h:0≤n):bad n s=false ↔ ∀ i,s.getLsbD i=true→i < n.toNat:=by
 rw [zfs h]
 exact ⟨fun k i hi=>by have:=k i hi;omega,fun k i hi=>by have:=k i hi;omega⟩
theorem zt8 {m:KM} (h:zcC m):zV m=0:=by
 obtain ⟨h1,h2,h3,h4,h5,h6,h7⟩:=h
 unfold zV
 rw [if_neg (by omega),if_neg (by omega),if_neg,if_neg,if_neg]
 ·simp only [List.any_eq_true,not_exists,not_and]
  intro r hr s hs e
  rw [h7 r hr s hs] at e;cases e
 ·simp only [List.any_eq_true,not_exists,not_and]
  intro s hs e
  rw [h6 s hs] at e;cases e
 ·simp only [List.any_eq_true,not_exists,not_and,decide_eq_true_eq]
  intro r hr e
  exact e (h5 r hr)
theorem zwr {m:KM} (hm:zcC m) {l:List Nat} (h1:1≤l.length) (h2:l.length≤64):zcC (zdf m l) where
 w1:=by show (1:Int)≤(l.length:Int);omega
 w2:=by show (l.length:Int)≤64;omega
 n4:=by have:=hm.n4;simpa [zdf] using this
 v8:=by have:=hm.v8;simpa [zdf] using this
 len:=fun r hr=>by
  obtain ⟨r',-,rfl⟩:=List.mem_map.1 hr
  simp [zdf]
 val:=fun s hs=>by
  obtain ⟨s',-,rfl⟩:=List.mem_map.1 hs
  rw [zeV (by show (0:Int)≤(l.length:Int);omega)]
  intro i hi
  exact ((zjf h2).1 hi).1
 rel:=fun r hr s hs=>by
  obtain ⟨r',-,rfl⟩:=List.mem_map.1 hr
  obtain ⟨w,-,rfl⟩:=List.mem_map.1 hs
  rw [zeV (by show (0:Int)≤(l.length:Int);omega)]
  intro i hi
  exact ((zjf h2).1 hi).1
theorem zmY (m:KM):(zaj m).length=m.rel.length:=by simp [zaj]
theorem zxW {m:KM} {l:List Nat} (h2:l.length≤64) {i:Nat} {r r':Nat→Nat→Bool} (h:(zaj (zdf m l))[i]? = some r) (h':(zqM l (zaj m))[i]? = some r') {v w:Nat} (hv:v < l.length) (hw:w < l.length):r v w=r' v w:=by
 unfold zaj zdf at h
 unfold zqM zaj at h'
 rw [List.map_map,List.getElem?_map,Option.map_eq_some_iff] at h
 rw [List.map_map,List.getElem?_map,Option.map_eq_some_iff] at h'
 obtain ⟨a,ha,rfl⟩:=h
 obtain ⟨b,hb,rfl⟩:=h'
 rw [ha] at hb;cases hb
 show rb (l.map fun w=>zbH (a.getD w 0#64) l) v w=rb a (l.getD v 0) (l.getD w 0)
 unfold rb
 rw [show (l.map fun w=>zbH (a.getD w 0#64) l).getD v 0#64=zbH (a.getD (l.getD v 0) 0#64) l by
  simp [List.getD,List.getElem?_map,List.getElem?_eq_getElem hv]]
 rw [Bool.eq_iff_iff,zjf h2]
 exact ⟨fun h=>h.2,fun h=>⟨hw,h⟩⟩
theorem znI (vl:List (BitVec 64)) {l:List Nat} (h2:l.length≤64) {i:Nat} (hi:i < l.length) : ∀ k,zbD (vl.map fun s=>zbH s l) i k=zbD vl (l.getD i 0) k
 | 0=>rfl
 | k+1=>by
  rw [zbD,zbD,znI vl h2 hi k]
  have e:((vl.map fun s=>zbH s l).getD k 0#64).getLsbD i=(vl.getD k 0#64).getLsbD (l.getD i 0):=by
   simp only [List.getD,List.getElem?_map]
   cases hk:vl[k]? with
   | none=>simp
   | some s =>
    show (zbH s l).getLsbD i=s.getLsbD (l.getD i 0)
    rw [Bool.eq_iff_iff,zjf h2]
    exact ⟨fun h=>h.2,fun h=>⟨hi,h⟩⟩
  rw [e]
theorem zxU {m:KM} {l:List Nat} (h2:l.length≤64) {i:Nat} (hi:i < l.length):zoU (zdf m l) i=zuk l (zoU m) i:=by
 unfold zoU zuk zdf
 rw [List.length_map,znI _ h2 hi]
theorem zuS {a b:List (BitVec 64)} {w:Nat} (hl:a.length=b.length) (h:zbD a w a.length=zbD b w b.length) (i:Nat):(a.getD i 0#64).getLsbD w=(b.getD i 0#64).getLsbD w:=by
 by_cases hi:i < a.length
 ·have h1:=zkd a w (i:=i) a.length
  have h2:=zkd b w (i:=i) b.length
  rw [h] at h1
  rw [Bool.eq_iff_iff]
  exact ⟨fun e=>(h2.1 (h1.2 ⟨hi,e⟩)).2,fun e=>(h1.1 (h2.2 ⟨by omega,e⟩)).2⟩
 ·rw [List.getD,List.getD,List.getElem?_eq_none (by omega),List.getElem?_eq_none (by omega)]
theorem zi2 {l:List (BitVec 64)} {W:Int} (hW:0≤W) (h : ∀ s∈l,bad W s=false) (i w:Nat) (hw:(l.getD i 0#64).getLsbD w=true):w < W.toNat:=by
 cases hi:l[i]? with
 | none=>rw [List.getD,hi] at hw;simp at hw
 | some s =>
  rw [List.getD,hi] at hw
  exact (zeV hW).1 (h s (List.mem_of_getElem? hi)) w hw
theorem ztg {α:Type} {l:List α} {i:Nat} {d:α} (h:i < l.length):l[i]? = some (l.getD i d):=by simp [List.getD,h]
theorem zfJ {α:Type} {a b:List α} {d:α} (hl:a.length=b.length) (h : ∀ i,i < a.length→a.getD i d=b.getD i d):a=b:=by
 refine List.ext_getElem hl fun i h1 h2=>?_
 have:=h i h1
 rw [List.getD,List.getD,List.getElem?_eq_getElem h1,List.getElem?_eq_getElem h2] at this
 exact this
theorem zze {a b:KM} (ga:zcC a) (gb:zcC b) (hW:a.W=b.W) (hv:a.val.length=b.val.length) (hr:a.rel.length=b.rel.length)
  (hf : ∀ w,w < a.W.toNat→zoU a w=zoU b w)
  (hR : ∀ (i:Nat) r r',(zaj a)[i]? = some r→(zaj b)[i]? = some r' → ∀ v w,v < a.W.toNat→w < a.W.toNat→r v w=r' v w):a=b:=by
 have w1:=ga.w1
 have e1:a.val=b.val:=zfJ (d:=0#64) hv fun i hi=>by
  refine BitVec.eq_of_getLsbD_eq fun w _=>?_
  by_cases hw:w < a.W.toNat
  ·exact zuS hv (Int.ofNat_inj.1 (hf w hw)) i
  ·have h1:=fun h=>hw (zi2 (by omega) ga.val i w h)
   have h2:=fun h=>hw (by have:=zi2 (by omega) gb.val i w h;omega)
   rw [Bool.eq_iff_iff]
   exact ⟨fun h=>absurd h h1,fun h=>absurd h h2⟩
 have e2:a.rel=b.rel:=zfJ (d:=[]) hr fun i hi=>by
  have hi2:i < b.rel.length:=by omega
  have g1:=ga.len _ (List.getElem_mem hi)
  have g2:=gb.len _ (List.getElem_mem hi2)
  have f1:=ga.rel _ (List.getElem_mem hi)
  have f2:=gb.rel _ (List.getElem_mem hi2)
  have hR:=hR i (fun v w=>rb a.rel[i] v w) (fun v w=>rb b.rel[i] v w) (by simp [zaj,hi]) (by simp [zaj,hi2])
  rw [show a.rel.getD i []=a.rel[i] by simp [List.getD,hi],show b.rel.getD i []=b.rel[i] by simp [List.getD,hi2]]
  generalize a.rel[i]=x at g1 f1 hR
  generalize b.rel[i]=y at g2 f2 hR
  refine zfJ (d:=0#64) (by omega) fun v hv=>BitVec.eq_of_getLsbD_eq fun w _=>?_
  by_cases hw:w < a.W.toNat
  ·exact hR v w (by omega) hw
  ·have h1:=fun h=>hw (zi2 (by omega) f1 v w h)
   have h2:=fun h=>hw (by have:=zi2 (by omega) f2 v w h;omega)
   rw [Bool.eq_iff_iff]
   exact ⟨fun h=>absurd h h1,fun h=>absurd h h2⟩
 cases a;cases b;simp only at hW e1 e2;subst hW e1 e2;rfl
def zwd:KM:=⟨0,[],[]⟩
end Go.Ab
namespace Go.Ab
open Go Go.Proofs
set_option maxRecDepth 10000
set_option maxHeartbeats 4000000
variable {T:Nat→Obj→Prop}
theorem ztd (n:Int) (h:0≤n):Fn Tryz.prog T zlH [.d (.int .i64 n)] [] (.d (.u64 (zM n))) []:=by
 refine zd zt zsQ (by show 1≤8;decide) ?_
 (repeat' ((conv=>whnf);first|refine vA ?_|(refine vF ?_ ?_<;>intro hc<;>try simp only [vL] at hc)|refine vT ?_|(refine vP ?_ ?_;·omega)|refine vY ?_));all_goals try conv=>whnf
 ·simp [zM, *]
 ·rw [zM,if_neg (by omega)];rfl
theorem zx7 (l:List (BitVec 64)) (g:Nat) (y:D) (p:BitVec 64→Bool) (hF : ∀ x,Fn Tryz.prog T g [.d (.u64 x),.d y] [] (.d (.bool (p x))) []):Fn Tryz.prog T zbM [.d (dU l),.d (.fn g [y])] [] (.d (.int .i64 (zcf p l))) []:=by
 refine zd zt zdY (by show 2≤19;decide) ?_
 (repeat' ((conv=>whnf);first|refine vA ?_|refine vJ fun hg=>?_|refine vT ?_));all_goals try conv=>whnf
 refine zar (fun (k:Nat)=>[(0,.d (dU l)),(1,.d (.fn g [y])),(7,.d (.int .i64 ((l.map D.u64).length:Int))),(8,.d (.int .i64 ((k:Int))))]) (fun (k:Nat)=>k≤l.length ∧ ∀ (i:Nat) x,i < k→l[i]? = some x→p x=false) (fun (k:Nat)=>l.length - k) (0) (⟨by simp,fun i x h=>by omega⟩) (by (repeat' first|exact trivial|exact rfl|refine And.intro ?_ ?_)) ?_
 rintro k ⟨hk,hI⟩
 (repeat' ((conv=>whnf);first|refine vA ?_|((first|refine vF ?_ ?_|refine vI ?_ ?_)<;>intro hc<;>try simp only [vL] at hc)|refine vT ?_|(refine vQ ?_ fun x hx=>?_;·omega)|(refine vO ?_ ?_;·omega)|refine vX ?_|refine yD (hF _) (by (repeat refine ⟨⟨rfl,rfl⟩,?_⟩);rfl) rfl ?_));all_goals try conv=>whnf
 ·rw [zfy hx ‹_› hI]
 ·exact ⟨k+1,[],[],⟨by (omega),fun i z hi hz=>by
   by_cases e:i=k
   ·subst e;rw [hx] at hz;cases hz;assumption
   ·exact hI i z (by omega) hz⟩,by (omega),by (refine ⟨rfl,rfl,rfl,?_,?_⟩;repeat' first|exact trivial|exact rfl|refine And.intro ?_ ?_)⟩
 ·rw [zf3 fun i x hi hx=>hI i x (by omega) hx]
theorem zwH (l:List (List (BitVec 64))) (g:Nat) (y:D) (p:List (BitVec 64)→Bool) (hF : ∀ x,Fn Tryz.prog T g [.d (dU x),.d y] [] (.d (.bool (p x))) []):Fn Tryz.prog T zbw [.d (dUU l),.d (.fn g [y])] [] (.d (.int .i64 (zcf p l))) []:=by
 refine zd zt zdB (by show 2≤19;decide) ?_
 (repeat' ((conv=>whnf);first|refine vA ?_|refine vJ fun hg=>?_|refine vT ?_));all_goals try conv=>whnf
 refine zar (fun (k:Nat)=>[(0,.d (dUU l)),(1,.d (.fn g [y])),(7,.d (.int .i64 ((l.map dU).length:Int))),(8,.d (.int .i64 ((k:Int))))]) (fun (k:Nat)=>k≤l.length ∧ ∀ (i:Nat) x,i < k→l[i]? = some x→p x=false) (fun (k:Nat)=>l.length - k) (0) (⟨by simp,fun i x h=>by omega⟩) (by (repeat' first|exact trivial|exact rfl|refine And.intro ?_ ?_)) ?_
 rintro k ⟨hk,hI⟩
 (repeat' ((conv=>whnf);first|refine vA ?_|((first|refine vF ?_ ?_|refine vI ?_ ?_)<;>intro hc<;>try simp only [vL] at hc)|refine vT ?_|(refine vQ ?_ fun x hx=>?_;·omega)|(refine vO ?_ ?_;·omega)|refine vX ?_|refine yD (hF _) (by (repeat refine ⟨⟨rfl,rfl⟩,?_⟩);rfl) rfl ?_));all_goals try conv=>whnf
 ·rw [zfy hx ‹_› hI]
 ·exact ⟨k+1,[],[],⟨by (omega),fun i z hi hz=>by
   by_cases e:i=k
   ·subst e;rw [hx] at hz;cases hz;assumption
   ·exact hI i z (by omega) hz⟩,by (omega),by (refine ⟨rfl,rfl,rfl,?_,?_⟩;repeat' first|exact trivial|exact rfl|refine And.intro ?_ ?_)⟩
 ·rw [zf3 fun i x hi hx=>hI i x (by omega) hx]
theorem zpE {α:Type} {p:α→Bool} {l:List α} : decide (0≤zcf p l)=l.any p:=by
 rw [Bool.eq_iff_iff,decide_eq_true_eq,zrs,List.any_eq_true]
theorem zsN (n:Int) (h:0≤n) (s:BitVec 64):Fn Tryz.prog T zcD [.d (.u64 s),.d (.box [.int .i64 n])] [] (.d (.bool (bad n s))) []:=by
 refine zd zt zlA (by show 2≤9;decide) ?_
 (repeat' ((conv=>whnf);first|refine vT ?_|refine vZ ?_|refine yD (ztd n h) ⟨⟨rfl,rfl⟩,rfl⟩ rfl ?_));all_goals try conv=>whnf
 rfl
theorem zlO (l:List (BitVec 64)) (n:Int) (h:0≤n):Fn Tryz.prog T zhd [.d (dU l),.d (.int .i64 n)] [] (.d (.bool (l.any (bad n)))) []:=by
 have c1:Fn Tryz.prog T zbq [.d (dU l),.d (.fn zcD [.box [.int .i64 n]])] [] (.d (.bool (l.any (bad n)))) []:=by
  refine zd zt zdp (by show 2≤9;decide) ?_
  (repeat' ((conv=>whnf);first|refine vT ?_|refine vZ ?_|refine yD (zx7 l _ _ (bad n) (zsN n h)) ⟨⟨rfl,rfl⟩,⟨rfl,rfl⟩,rfl⟩ rfl ?_));all_goals try conv=>whnf
  exact zpE
 refine zd zt zn5 (by show 2≤8;decide) ?_
 (repeat' ((conv=>whnf);first|refine vT ?_|refine vZ ?_|refine yD c1 (by (repeat refine ⟨⟨rfl,rfl⟩,?_⟩);rfl) rfl ?_));all_goals try conv=>whnf
abbrev bKM (m:KM):D := .box [.int .i64 m.W,dU m.val,dUU m.rel]
theorem zki (m:KM):Fn Tryz.prog T zjt [.d (dKM m)] [] (.d (.int .i64 (zV m))) []:=by
 have c1:0≤m.W → ∀ x:List (BitVec 64),Fn Tryz.prog T zdm [.d (dU x),.d (bKM m)] [] (.d (.bool (x.any (bad m.W)))) []:=fun h x=>by
  refine zd zt zn1 (by show 2≤8;decide) ?_
  (repeat' ((conv=>whnf);first|refine vT ?_|refine vZ ?_|refine yD (zlO x m.W h) ⟨⟨rfl,rfl⟩,⟨rfl,rfl⟩,rfl⟩ rfl ?_));all_goals try conv=>whnf
 have c2:0≤m.W→Fn Tryz.prog T zbg [.d (dUU m.rel),.d (.fn zdm [bKM m])] [] (.d (.bool (m.rel.any fun x=>x.any (bad m.W)))) []:=fun h=>by
  refine zd zt zdc (by show 2≤9;decide) ?_
  (repeat' ((conv=>whnf);first|refine vT ?_|refine vZ ?_|refine yD (zwH m.rel _ _ (fun x=>x.any (bad m.W)) (c1 h)) ⟨⟨rfl,rfl⟩,⟨rfl,rfl⟩,rfl⟩ rfl ?_));all_goals try conv=>whnf
  exact zpE
 refine zd zt zqt (by show 1≤47;decide) ?_
 (repeat' ((conv=>whnf);first|refine vA ?_|(refine vF ?_ ?_<;>intro hc<;>try simp only [vL] at hc)|refine vJ fun hg=>?_|refine vT ?_|refine vX ?_));all_goals try conv=>whnf
 ·rw [zV,if_pos (by omega)]
 ·rw [zV,if_pos (by omega)]
 ·rw [zV,if_neg (by omega),if_pos (by omega)]
 ·rw [zV,if_neg (by omega),if_pos (by omega)]
 ·have e0:zV m=if m.rel.any (fun r=>decide ((r.length:Int)≠m.W)) then 3 else if m.val.any (bad m.W) then 2 else if m.rel.any (fun r=>r.any (bad m.W)) then 2 else 0:=by rw [zV,if_neg (by omega),if_neg (by omega)]
  refine zA (fun (k:Nat)=>[(1,.ptr 0 0),(24,.d (dUU m.rel)),(25,.d (.int .i64 ((m.rel.map dU).length:Int))),(26,.d (.int .i64 ((k:Int))))]) (fun (k:Nat)=>[(0,some (znl m))]) 1 (fun (k:Nat)=>k≤m.rel.length∧m.rel.any (fun r=>decide ((r.length:Int)≠m.W))=(m.rel.drop k).any (fun r=>decide ((r.length:Int)≠m.W))) (fun (k:Nat)=>m.rel.length - k) (0) [(0,0)] [] (⟨by simp,rfl⟩) (by (refine ⟨rfl,rfl,rfl,?_,?_⟩;repeat' first|exact trivial|exact rfl|refine And.intro ?_ ?_|refine ⟨_,rfl,?_⟩|decide)) ?_
  rintro k ⟨hk,hI⟩
  (repeat' ((conv=>whnf);first|refine vA ?_|((first|refine vD ?_ ?_|refine vF ?_ ?_)<;>intro hc<;>try simp only [vL] at hc)|refine vJ fun hg=>?_|refine vT ?_|(refine vQ ?_ fun x hx=>?_;·omega)|(refine vO ?_ ?_;·omega)|refine vX ?_));all_goals try conv=>whnf
  ·rw [e0,if_pos (by rw [hI,zaG hx,List.any_cons,decide_eq_true (by simpa using ‹_›)];rfl)]
  ·exact ⟨k+1,[(0,0)],[],⟨by (omega),by rw [hI,zaG hx,List.any_cons,decide_eq_false (by simpa using ‹_›)];rfl⟩,by (omega),by (refine ⟨rfl,rfl,rfl,?_,?_⟩;repeat' first|exact trivial|exact rfl|refine And.intro ?_ ?_|refine ⟨_,rfl,?_⟩|decide)⟩
  ·have h1:m.rel.any (fun r=>decide ((r.length:Int)≠m.W))=false:=by rw [hI,List.drop_eq_nil_of_le (by omega)];rfl
   rw [h1,if_neg (by decide)] at e0
   have co:=zlO (T:=T) m.val m.W (by omega)
   have c2:=c2 (by omega)
   (repeat' ((conv=>whnf);first|(refine vI ?_ ?_<;>intro hc)|refine vT ?_|refine vX ?_|refine yD co ⟨⟨rfl,rfl⟩,⟨rfl,rfl⟩,rfl⟩ rfl ?_|refine yD c2 (by (repeat refine ⟨⟨rfl,rfl⟩,?_⟩);rfl) rfl ?_));all_goals try conv=>whnf
   ·rw [e0,if_pos ‹_›]
   ·rw [e0,if_neg (by simp [‹m.val.any (bad m.W)=false›]),if_pos ‹_›]
   ·rw [e0,if_neg (by simp [‹m.val.any (bad m.W)=false›]),if_neg (by simp [‹(m.rel.any fun x=>x.any (bad m.W))=false›])]
abbrev dN (l:List Nat):D:=dI (l.map fun (x:Nat)=>(x:Int))
theorem zsL (hT:zma T) (s:BitVec 64):Fn Tryz.prog T zhc [.d (.u64 s)] [] (.d (dN (zZ s))) []:=by
 refine zd zt zn4 (by show 1≤16;decide) ?_
 (repeat' ((conv=>whnf);first|refine vA ?_|refine vT ?_));all_goals try conv=>whnf
 refine zA (fun ((r,zs):BitVec 64×List D)=>[(0,.d (.u64 (r))),(3,.own 0)]) (fun ((r,zs):BitVec 64×List D)=>[(0,some (.row 1 zs))]) 1 (fun ((r,zs):BitVec 64×List D) => ∃ l:List Nat,zs=l.map (fun (x:Nat)=>D.int .i64 (x:Int))∧zZ s=l++zZ r) (fun ((r,zs):BitVec 64×List D)=>(zZ r).length) ((s,[])) []   [0] (⟨[],rfl,rfl⟩) (by (refine ⟨rfl,rfl,rfl,?_,?_⟩;repeat' first|exact trivial|exact rfl|exact ⟨_,rfl⟩|refine And.intro ?_ ?_|decide)) ?_
 rintro ⟨r,zs⟩ ⟨l,rfl,hI⟩
 by_cases hr:r=0#64
 ·subst hr
  (repeat' ((conv=>whnf);first|refine vA ?_|refine vH ?_|refine vT ?_));all_goals try conv=>whnf
  rw [hI,zsu,List.append_nil]
  show some (D.arr 1 _)=some (D.arr 1 _)
  rw [List.map_map];rfl
 ·have hb:=zst r hr
  have hl:=congrArg List.length hI
  have hlen:(zZ s).length≤64:=by unfold zZ;have:=List.length_filter_le (fun i=>s.getLsbD i) (List.range 64);simpa using this
  rw [List.length_append] at hl
  (repeat' ((conv=>whnf);first|refine vA ?_|(refine vD ?_ ?_<;>intro hc)|refine vT ?_|(refine vP ?_ ?_;·(simp only [vM] at *;omega))|refine yD (hT r) (by (repeat refine ⟨⟨rfl,rfl⟩,?_⟩);rfl) rfl ?_));all_goals try conv=>whnf
  ·refine ⟨(r&&&(r - 1#64),_),[(0,2)],[],?_,?_,by (refine ⟨rfl,rfl,rfl,?_,?_⟩;repeat' first|exact trivial|exact rfl|refine And.intro ?_ ?_|refine ⟨_,rfl,?_⟩|decide)⟩
   ·exact ⟨l++[Lib.ctz 64 r.toNat],by simp,by rw [hI,hb];simp⟩
   ·show (zZ (r&&&(r - 1#64))).length < (zZ r).length
    rw [hb];simp
  ·exact absurd ‹r=0› hr
theorem zrE (s:BitVec 64) (l:List Nat) (hl:l.length≤64):Fn Tryz.prog T zka [.d (.u64 s),.d (dN l)] [] (.d (.u64 (zbH s l))) []:=by
 refine zd zt zrP (by show 2≤25;decide) ?_
 (repeat' ((conv=>whnf);first|refine vA ?_|refine vJ fun hg=>?_|refine vT ?_));all_goals try conv=>whnf
 refine zar (fun ((k,o):Nat×BitVec 64)=>[(0,.d (.u64 (s))),(5,.d (.u64 (o))),(8,.d (dN l)),(9,.d (.int .i64 (((l.map fun (x:Nat)=>(x:Int)).map (D.int .i64)).length:Int))),(10,.d (.int .i64 ((k:Int))))]) (fun ((k,o):Nat×BitVec 64)=>k≤l.length∧o=zF (fun i=>s.getLsbD (l.getD i 0)) k) (fun ((k,o):Nat×BitVec 64)=>l.length - k) ((0,0#64)) (⟨by simp,rfl⟩) (by (repeat' first|exact trivial|exact rfl|refine And.intro ?_ ?_)) ?_
 rintro ⟨k,o⟩ ⟨hk,hI⟩
 by_cases hkl:k < l.length
 ·have e1:(l.map fun (x:Nat)=>(x:Int))[k]? = some ((l.getD k 0:Nat):Int):=by simp [hkl]
  (repeat' ((conv=>whnf);first|refine vA ?_|(refine vF ?_ ?_<;>intro hc<;>try simp only [vL] at hc)|refine vT ?_|refine vN ‹_› ?_|((first|refine vO ?_ ?_|refine vP ?_ ?_);·omega)|refine vY ?_));all_goals try conv=>whnf
  ·refine ⟨(k+1,_),[],[],?_,?_,by (refine ⟨rfl,rfl,rfl,?_,?_⟩;repeat' first|exact trivial|exact rfl|refine And.intro ?_ ?_)⟩
   ·refine ⟨by omega,?_⟩
    rw [zF,hI]
    show _|||(s >>> (l.getD k 0)&&&1#64) <<< k=_
    by_cases hb:s.getLsbD (l.getD k 0)=true
    ·rw [(zoy _ _).2 hb,if_pos hb]
    ·rw [(zmd _ _).2 (by simpa using hb),if_neg hb,BitVec.zero_shiftLeft,BitVec.or_zero]
   ·((simp only [vM] at *;omega))
  ·omega
 ·(repeat' ((conv=>whnf);first|refine vA ?_|(refine vF ?_ ?_<;>intro hc<;>try simp only [vL] at hc)|refine vT ?_|(refine vQ ?_ fun x hx=>?_;·omega)|((first|refine vO ?_ ?_|refine vP ?_ ?_);·omega)|refine vY ?_));all_goals try conv=>whnf
  ·omega
  ·rw [hI,show k=l.length by omega];rfl
theorem zyn {l:List Nat} {k:Nat} (h:k < l.length):(l.map fun (x:Nat)=>(x:Int))[k]? = some ((l.getD k 0:Nat):Int):=by simp [h]
abbrev zpb (l:List Nat):Nat:=((l.map fun (x:Nat)=>(x:Int)).map (D.int .i64)).length
theorem zye (l:List Nat):zpb l=l.length:=by simp [zpb]
theorem zt1 (m:KM) (l:List Nat) (hl:l.length≤64) (hr : ∀ r∈m.rel,∀ w∈l,w < r.length) (hv:m.val.length≤8) (hrl:m.rel.length≤4):Fn Tryz.prog T zeK [.d (dKM m),.d (dN l)] [] (.d (dKM (zdf m l))) []:=by
 refine zd zt zn3 (by show 2≤63;decide) ?_
 (repeat' ((conv=>whnf);first|refine vA ?_|refine vJ fun hg=>?_|refine vT ?_));all_goals try conv=>whnf
 refine zA (fun ((k,zs):Nat×List D)=>[(1,.d (dN l)),(2,.ptr 0 0),(4,.ptr 1 0),(5,.ptr 2 0),(17,.d (dU m.val)),(18,.d (.int .i64 ((m.val.map D.u64).length:Int))),(19,.d (.int .i64 ((k:Int))))]) (fun ((k,zs):Nat×List D)=>[(0,some (znl m)),(1,some (.box [.d (.int .i64 0),.nils 1,.nils 1])),(2,some (.box [.d (.int .i64 (zpb l:Int)),.own 3,.nils 1])),(3,some (.row 1 zs))]) 4 (fun ((k,zs):Nat×List D)=>k≤m.val.length∧zs=(m.val.take k).map fun s=>D.u64 (zbH s l)) (fun ((k,zs):Nat×List D)=>m.val.length - k) ((0,[])) [(0,0),(1,1),(2,2)]   [3] (⟨by simp,by simp⟩) (by (refine ⟨rfl,rfl,rfl,?_,?_⟩;repeat' first|exact trivial|exact rfl|exact ⟨_,rfl⟩|refine And.intro ?_ ?_|refine ⟨_,rfl,?_⟩|decide)) ?_
 rintro ⟨k,zs⟩ ⟨hk,hz⟩
 have hzl:zs.length≤8:=by rw [hz];simp;omega
 by_cases hkl:k < m.val.length
 ·obtain ⟨s,hs⟩ : ∃ s,m.val[k]? = some s:=⟨_,List.getElem?_eq_getElem hkl⟩
  (repeat' ((conv=>whnf);first|refine vA ?_|(refine vF ?_ ?_<;>intro hc<;>try simp only [vL] at hc)|refine vJ fun hg=>?_|refine vT ?_|refine vN ‹_› ?_|((first|refine vO ?_ ?_|refine vP ?_ ?_);·first|omega|(simp only [vM] at *;omega))|(refine vU ?_ ?_;·kernel_rfl)|refine yD (zrE s l hl) ⟨⟨rfl,rfl⟩,⟨rfl,rfl⟩,rfl⟩ rfl ?_));all_goals try conv=>whnf
  ·refine ⟨(k+1,_),[(0,0),(1,1),(2,2),(3,5)],[],?_,?_,by (refine ⟨rfl,rfl,rfl,?_,?_⟩;repeat' first|exact trivial|exact rfl|refine And.intro ?_ ?_|refine ⟨_,rfl,?_⟩|decide)⟩
   ·exact ⟨by omega,by rw [List.take_add_one,hs,hz];simp⟩
   ·((simp only [vM] at *;omega))
  all_goals omega
 ·have hzz:zs=m.val.map fun s=>D.u64 (zbH s l):=by rw [hz,List.take_of_length_le (by omega)]
  clear hz
  subst hzz
  (repeat' ((conv=>whnf);first|refine vA ?_|(refine vF ?_ ?_<;>intro hc<;>try simp only [vL] at hc)|refine vJ fun hg=>?_|refine vT ?_|(refine vQ ?_ fun x hx=>?_;·omega)|fail));all_goals try conv=>whnf
  ·omega
  refine zA (fun ((k,zs):Nat×List D)=>[(1,.d (dN l)),(4,.ptr 1 0),(5,.ptr 2 0),(33,.d (dUU m.rel)),(34,.d (.int .i64 ((m.rel.map dU).length:Int))),(35,.d (.int .i64 ((k:Int))))]) (fun ((k,zs):Nat×List D)=>[(1,some (.box [.d (.int .i64 0),.nils 1,.nils 1])),(2,some (.box [.d (.int .i64 (zpb l:Int)),.own 3,.own 4])),(3,some (.row 1 (m.val.map fun s=>D.u64 (zbH s l)))),(4,some (.row 1 zs))]) 5 (fun ((k,zs):Nat×List D)=>k≤m.rel.length∧zs=(m.rel.take k).map fun r=>dU (l.map fun w=>zbH (r.getD w 0#64) l)) (fun ((k,zs):Nat×List D)=>m.rel.length - k) ((0,[])) [(1,1),(2,2),(3,3)]   [4] (⟨by simp,by simp⟩) (by (refine ⟨rfl,rfl,rfl,?_,?_⟩;repeat' first|exact trivial|exact rfl|exact ⟨_,rfl⟩|refine And.intro ?_ ?_|refine ⟨_,rfl,?_⟩|decide)) ?_
  rintro ⟨k,zs⟩ ⟨hk,hz⟩
  have hzl:zs.length≤4:=by rw [hz];simp;omega
  by_cases hkl:k < m.rel.length
  ·obtain ⟨r,hrr⟩ : ∃ r,m.rel[k]? = some r:=⟨_,List.getElem?_eq_getElem hkl⟩
   have hrw:=hr r (List.mem_of_getElem? hrr)
   (repeat' ((conv=>whnf);first|refine vA ?_|(refine vF ?_ ?_<;>intro hc<;>try simp only [vL] at hc)|refine vJ fun hg=>?_|refine vT ?_|refine vN ‹_› ?_));all_goals try conv=>whnf
   ·refine zA (fun ((j,ys):Nat×List D)=>[(1,.d (dN l)),(4,.ptr 1 0),(5,.ptr 2 0),(9,.d (dU r)),(10,.own 5),(33,.d (dUU m.rel)),(34,.d (.int .i64 ((m.rel.map dU).length:Int))),(35,.d (.int .i64 ((k:Int)))),(39,.d (dN l)),(40,.d (.int .i64 (((l.map fun (x:Nat)=>(x:Int)).map (D.int .i64)).length:Int))),(41,.d (.int .i64 ((j:Int))))]) (fun ((j,ys):Nat×List D)=>[(1,some (.box [.d (.int .i64 0),.nils 1,.nils 1])),(2,some (.box [.d (.int .i64 (zpb l:Int)),.own 3,.own 4])),(3,some (.row 1 (m.val.map fun s=>D.u64 (zbH s l)))),(4,some (.row 1 zs)),(5,some (.row 1 ys))]) 6 (fun ((j,ys):Nat×List D)=>j≤l.length∧ys=(l.take j).map fun w=>D.u64 (zbH (r.getD w 0#64) l)) (fun ((j,ys):Nat×List D)=>l.length - j) ((0,[])) [(1,1),(2,2),(3,3),(4,4)]   [5] (⟨by simp,by simp⟩) (by (refine ⟨rfl,rfl,rfl,?_,?_⟩;repeat' first|exact trivial|exact rfl|exact ⟨_,rfl⟩|refine And.intro ?_ ?_|refine ⟨_,rfl,?_⟩|decide)) ?_
    rintro ⟨j,ys⟩ ⟨hj,hy⟩
    have hyl:ys.length≤64:=by rw [hy];simp;omega
    by_cases hjl:j < l.length
    ·have e1:=zyn hjl
     have e2:=hrw _ (zwS hjl)
     have e3:r[l.getD j 0]? = some (r.getD (l.getD j 0) 0#64):=ztg e2
     (repeat' ((conv=>whnf);first|refine vA ?_|(refine vF ?_ ?_<;>intro hc<;>try simp only [vL] at hc)|refine vT ?_|refine vN ‹_› ?_|((first|refine vO ?_ ?_|refine vP ?_ ?_);·first|omega|(simp only [vM] at *;omega))|refine yD (zrE (r.getD (l.getD j 0) 0#64) l hl) ⟨⟨rfl,rfl⟩,⟨rfl,rfl⟩,rfl⟩ rfl ?_));all_goals try conv=>whnf
     ·refine ⟨(j+1,_),[(1,1),(2,2),(3,3),(4,4),(5,7)],[],?_,?_,by (refine ⟨rfl,rfl,rfl,?_,?_⟩;repeat' first|exact trivial|exact rfl|refine And.intro ?_ ?_|refine ⟨_,rfl,?_⟩|decide)⟩
      ·exact ⟨by omega,by rw [List.take_add_one,hy,ztg (d:=0) hjl];simp⟩
      ·((simp only [vM] at *;omega))
     ·omega
    ·(repeat' ((conv=>whnf);first|refine vA ?_|(refine vF ?_ ?_<;>intro hc<;>try simp only [vL] at hc)|refine vT ?_|(refine vQ ?_ fun x hx=>?_;·omega)|((first|refine vO ?_ ?_|refine vS ?_ fun x hx=>?_|refine vP ?_ ?_);·first|omega|(simp only [vM] at *;omega))|fail));all_goals try conv=>whnf
     ·omega
     ·have hyy:ys=l.map fun w=>D.u64 (zbH (r.getD w 0#64) l):=by rw [hy,List.take_of_length_le (by omega)]
      refine ⟨(k+1,_),[(1,1),(2,2),(3,3),(4,7)],[],?_,?_,by (refine ⟨rfl,rfl,rfl,?_,?_⟩;repeat' first|exact trivial|exact rfl|refine And.intro ?_ ?_|refine ⟨_,rfl,?_⟩|decide)⟩
      ·refine ⟨by omega,?_⟩
       rw [List.take_add_one,hrr,hz,hyy];simp
      ·((simp only [vM] at *;omega))
   all_goals omega
  ·(repeat' ((conv=>whnf);first|refine vA ?_|(refine vF ?_ ?_<;>intro hc<;>try simp only [vL] at hc)|refine vJ fun hg=>?_|refine vT ?_|(refine vQ ?_ fun x hx=>?_;·omega)|fail));all_goals try conv=>whnf
   ·omega
   ·have hzz:zs=m.rel.map fun r=>dU (l.map fun w=>zbH (r.getD w 0#64) l):=by rw [hz,List.take_of_length_le (by omega)]
    subst hzz
    refine congrArg some (show D.agg [.int .i64 (zpb l:Int),.arr 1 (m.val.map fun s=>D.u64 (zbH s l)),.arr 1 (m.rel.map fun r=>dU (l.map fun w=>zbH (r.getD w 0#64) l))]=dKM (zdf m l) from ?_)
    rw [zye]
    simp [zdf,Function.comp_def]
theorem zwT {m:KM} (hc:zV m=0) {l:List Nat} (h : ∀ w∈l,w < m.W.toNat) : ∀ r∈m.rel,∀ w∈l,w < r.length:=fun r hr w hw=>by
 have hg:=za4 hc
 have:=hg.len r hr
 have:=h w hw
 have:=hg.w1
 omega
theorem zsI {m:KM} (hc:zV m=0) {l:List Nat} (hl:l.length≤64) (h : ∀ w∈l,w < m.W.toNat):Fn Tryz.prog T zeK [.d (dKM m),.d (dN l)] [] (.d (dKM (zdf m l))) [] :=
 zt1 m l hl (zwT hc h) (za4 hc).v8 (za4 hc).n4
theorem ztM (s:BitVec 64):(zZ s).length≤64:=by
 unfold zZ;have:=List.length_filter_le (fun i=>s.getLsbD i) (List.range 64);simpa using this
theorem zrN {m:KM} (hc:zV m=0) {s:BitVec 64} (hs : ∀ v,s.getLsbD v=true→v < m.W.toNat):s &&& ~~~(zM m.W)=0#64:=by
 have w1:=(za4 hc).w1
 have:=(zeV (n:=m.W) (s:=s) (by omega)).2 hs
 simpa [bad] using this
theorem zrD (hT:zma T) {m:KM} (hk0:zV m=0) {s:BitVec 64} (h0:s≠0#64) (hs : ∀ v,s.getLsbD v=true→v < m.W.toNat):Fn Tryz.prog T zgL [.d (dKM m),.d (.u64 s)] [] (.d (.tup [dKM (zdf m (zZ s)),dN (zZ s),.int .i64 0])) []:=by
 have w1:=(za4 hk0).w1
 have h1:=zrN hk0 hs
 have cc:=zki (T:=T) m
 rw [hk0] at cc
 refine zd zt zmN (by show 2≤31;decide) ?_
 (repeat' ((conv=>whnf);first|refine vA ?_|refine vH ?_|((first|refine vD ?_ ?_|refine vF ?_ ?_)<;>intro hc)|refine vT ?_|refine yD cc ⟨⟨rfl,rfl⟩,rfl⟩ rfl ?_|refine yD (ztd m.W (by omega)) ⟨⟨rfl,rfl⟩,rfl⟩ rfl ?_|refine yN (zsL hT s) ⟨⟨rfl,rfl⟩,rfl⟩ ?_|refine yN (zsI hk0 (ztM s) (fun w hw=>hs w (zn8.1 hw))) (by (repeat refine ⟨⟨rfl,rfl⟩,?_⟩);rfl) ?_));all_goals try conv=>whnf
 ·exact absurd h1 ‹_›
 ·exact absurd ‹s=0› h0
 ·rfl
end Go.Ab
namespace Go.Ab
open Go Go.Proofs
set_option maxRecDepth 10000
set_option maxHeartbeats 4000000
variable {T:Nat→Obj→Prop}
theorem zjx (a b:List (BitVec 64)):Fn Tryz.prog T zdT [.d (dU a),.d (dU b)] [] (.d (.bool (a==b))) []:=by
 refine zd zt zg1 (by show 2≤26;decide) ?_
 (repeat' ((conv=>whnf);first|refine vA ?_|(refine vD ?_ ?_<;>intro hc<;>try simp only [vL] at hc)|refine vJ fun hg=>?_|refine vT ?_|refine vZ ?_));all_goals try conv=>whnf
 ·have:a≠b:=fun e=>hc (by rw [e])
  simp [this]
 ·refine zar (fun (k:Nat)=>[(0,.d (dU a)),(1,.d (dU b)),(5,.d (.int .i64 ((k:Int))))]) (fun (k:Nat)=>k≤a.length∧(a==b)=(a.drop k==b.drop k)) (fun (k:Nat)=>a.length - k) (0) (⟨by simp,by simp⟩) (by (repeat' first|exact trivial|exact rfl|refine And.intro ?_ ?_)) ?_
  rintro k ⟨hk,hI⟩
  (repeat' ((conv=>whnf);first|refine vA ?_|((first|refine vD ?_ ?_|refine vF ?_ ?_)<;>intro hc<;>try simp only [vL] at hc)|refine vJ fun hg=>?_|refine vT ?_|(refine vQ ?_ fun x hx=>?_;·omega)|(refine vO ?_ ?_;·omega)|(refine vU ?_ ?_;·kernel_rfl)|refine vZ ?_));all_goals try conv=>whnf
  ·rw [hI,zaG ‹a[k]? = some _›,zaG ‹b[k]? = some _›];simp [hc]
  ·exact ⟨k+1,[],[],⟨by (omega),by rw [hI,zaG ‹a[k]? = some _›,zaG ‹b[k]? = some _›];simp [hc]⟩,by (omega),by (refine ⟨rfl,rfl,rfl,?_,?_⟩;repeat' first|exact trivial|exact rfl|refine And.intro ?_ ?_)⟩
  ·rw [hI,List.drop_eq_nil_of_le (by omega),List.drop_eq_nil_of_le (by omega)];rfl
theorem zzF (a b:KM):Fn Tryz.prog T zeT [.d (dKM a),.d (dKM b)] [] (.d (.bool (decide (a=b)))) []:=by
 have no:(a.W≠b.W∨a.val≠b.val∨a.rel≠b.rel)→false=decide (a=b):=fun h=>by
  rw [decide_eq_false];rintro rfl;simp at h
 refine zd zt zjL (by show 2≤47;decide) ?_
 (repeat' ((conv=>whnf);first|refine vA ?_|refine vE ?_|((first|refine vD ?_ ?_|refine vI ?_ ?_)<;>intro hc<;>try simp only [vL] at hc)|refine vJ fun hg=>?_|refine vT ?_|refine vZ ?_|refine yD (zjx _ _) ⟨⟨rfl,rfl⟩,⟨rfl,rfl⟩,rfl⟩ rfl ?_));all_goals try conv=>whnf
 ·exact no (.inl ‹_›)
 ·exact no (.inr (.inr fun e=>by have:=congrArg List.length e;omega))
 ·have e1:a.val=b.val:=by simpa using ‹(a.val==b.val)=true›
  refine zA (fun (k:Nat)=>[(2,.ptr 0 0),(3,.ptr 1 0),(5,.d (.int .i64 ((k:Int))))]) (fun (k:Nat)=>[(0,some (znl a)),(1,some (znl b))]) 2 (fun (k:Nat)=>k≤a.rel.length∧(a.rel==b.rel)=(a.rel.drop k==b.rel.drop k)) (fun (k:Nat)=>a.rel.length - k) (0) [(0,0),(1,1)] [] (⟨by simp,by simp⟩) (by (refine ⟨rfl,rfl,rfl,?_,?_⟩;repeat' first|exact trivial|exact rfl|refine And.intro ?_ ?_|refine ⟨_,rfl,?_⟩|decide)) ?_
  rintro k ⟨hk,hI⟩
  (repeat' ((conv=>whnf);first|refine vA ?_|refine vE ?_|((first|refine vF ?_ ?_|refine vI ?_ ?_)<;>intro hc<;>try simp only [vL] at hc)|refine vJ fun hg=>?_|refine vT ?_|(refine vQ ?_ fun x hx=>?_;·omega)|(refine vO ?_ ?_;·omega)|(refine vU ?_ ?_;·kernel_rfl)|refine vZ ?_|refine yD (zjx _ _) ⟨⟨rfl,rfl⟩,⟨rfl,rfl⟩,rfl⟩ rfl ?_));all_goals try conv=>whnf
  ·exact ⟨k+1,[(0,0),(1,1)],[],⟨by (omega),by rw [hI,zaG ‹a.rel[k]? = some _›,zaG ‹b.rel[k]? = some _›];simp_all⟩,by (omega),by (refine ⟨rfl,rfl,rfl,?_,?_⟩;repeat' first|exact trivial|exact rfl|refine And.intro ?_ ?_|refine ⟨_,rfl,?_⟩|decide)⟩
  ·refine no (.inr (.inr fun e=>?_))
   have g1:=‹a.rel[k]? = some _›
   rw [e,hx] at g1
   cases g1
   have:=‹(_==_)=false›
   simp at this
  ·rw [List.drop_eq_nil_of_le (by omega),List.drop_eq_nil_of_le (by omega)] at hI
   have e2:a.rel=b.rel:=by simpa using hI
   rw [decide_eq_true]
   cases a;cases b;simp_all
 ·exact no (.inr (.inl fun e=>by
   have:=‹(a.val==b.val)=false›
   rw [e] at this;simp at this))
end Go.Ab
namespace Go.Proofs
def Tryz.lays129_ren:Go.Shelf.Ren:=⟨fun|129=>144|n=>n,fun|53=>29|3=>3|4=>4|46=>38|5=>5|9=>9|n=>n,fun|n=>n⟩
theorem Tryz.lays129:Go.Proofs.Lays.n129 Tryz.prog Tryz.lays129_ren := {
 mixed:=by kernel_rfl
 f129:=Tryz.func144.trans (congrArg some (by kernel_rfl))
 t3:=Tryz.underlying3
 a3:=Tryz.isAgg3
 z3:=Tryz.sizeOf3
 v3:=Tryz.zeroValue3
 t4:=Tryz.underlying4
 a4:=Tryz.isAgg4
 z4:=Tryz.sizeOf4
 v4:=Tryz.zeroValue4
 t5:=Tryz.underlying5
 a5:=Tryz.isAgg5
 z5:=Tryz.sizeOf5
 v5:=Tryz.zeroValue5
 t9:=Tryz.underlying9
 a9:=Tryz.isAgg9
 z9:=Tryz.sizeOf9
 v9:=Tryz.zeroValue9
 t46:=Tryz.underlying38
 a46:=Tryz.isAgg38
 z46:=Tryz.sizeOf38
 v46:=Tryz.zeroValue38
 t53:=Tryz.underlying29
 a53:=Tryz.isAgg29
 z53:=Tryz.sizeOf29
 v53:=Tryz.zeroValue29 }
end Go.Proofs
namespace Go.Ab
open Go Go.Proofs
set_option maxRecDepth 10000
set_option maxHeartbeats 4000000
variable {T:Nat→Obj→Prop}
theorem ztO:zct Tryz.prog zfV:=⟨_,Tryz.func144,by kernel_rfl,by kernel_rfl⟩
theorem zwI (x:BitVec 64):Fn Tryz.prog T zfV [.d (.u64 x)] [] (.d (.int .i64 (Sort.bitsLen x.toNat:Int))) []:=by
 refine zte (ds:=[.u64 x]) ztO fun w args hw hsz hargs=>?_
 obtain ⟨X,hX⟩:=hargs 0 (by simp)
 have ha:args = #[.int .u64 (x.toNat:Int)]:=by
  have h0:args.getD 0 undef = .int .u64 (x.toNat:Int):=by
   generalize args.getD 0 undef=y at hX
   cases hX;rfl
  obtain ⟨l⟩:=args
  match l,hsz with
  | [y],_=>rw [← h0];rfl
 rw [ha]
 have:=Any.bits_Len64 Tryz.lays129 (x.toNat:Int) w (by omega) (by have:=x.isLt;omega)
 refine this.mono fun e w' he=>⟨_,he.1,he.2,fun X=>?_⟩
 rw [Int.toNat_natCast,Go.Proofs.bitLen_eq _ x.isLt]
 exact .int _ _ (by decide)
theorem zy6 (x:BitVec 64):Fn Tryz.prog T zdl [.d (.u64 x)] [] (.d (.int .i64 (Sort.bitsLen x.toNat:Int))) []:=by
 refine zd zt zn0 (by show 1≤8;decide) ?_
 (repeat' ((conv=>whnf);first|refine vT ?_|refine vX ?_|refine yD (zwI _) ⟨⟨rfl,rfl⟩,rfl⟩ rfl ?_));all_goals try conv=>whnf
end Go.Ab
namespace Go.Ab
open Go Go.Proofs
set_option maxRecDepth 10000
set_option maxHeartbeats 4000000
variable {T:Nat→Obj→Prop}
section
open Go.Sort
variable {α:Type} [Inhabited α] (lt:α→α→Bool)
def ze8 (d:Array α) (a b p lim:Nat) (wb wp:Bool):Array α :=
 if a > 0∧lt d[a - 1]! d[p]! = false then pdq lt (partitionEqual lt d a b p).2 (partitionEqual lt d a b p).1 b lim wb wp
 else if (partition lt d a b p).1 - a < b - (partition lt d a b p).1 then
  pdq lt (pdq lt (partition lt d a b p).2.2 a (partition lt d a b p).1 lim true true) ((partition lt d a b p).1+1) b lim (decide ((partition lt d a b p).1 - a ≥ (b - a) / 8)) (partition lt d a b p).2.1
 else pdq lt (pdq lt (partition lt d a b p).2.2 ((partition lt d a b p).1+1) b lim true true) a (partition lt d a b p).1 lim (decide (b - (partition lt d a b p).1 ≥ (b - a) / 8)) (partition lt d a b p).2.1
def zr7 (d:Array α) (a b p lim:Nat) (wb wp:Bool) (hint:Hint):Array α :=
 if wb=true∧wp=true∧hint = .increasing then (if (partialInsertionSort lt d a b).2=true then (partialInsertionSort lt d a b).1 else ze8 lt (partialInsertionSort lt d a b).1 a b p lim wb wp)
 else ze8 lt d a b p lim wb wp
def zmV (d:Array α) (a b lim:Nat) (wb wp:Bool):Array α :=
 if (choosePivot lt d a b).2 = .decreasing then zr7 lt (reverseRange d a b) a b ((b - 1) - ((choosePivot lt d a b).1 - a)) lim wb wp .increasing
 else zr7 lt d a b (choosePivot lt d a b).1 lim wb wp (choosePivot lt d a b).2
variable {lt}
theorem zlY {d:Array α} {a b p:Nat} (hab:a < b) (hb:b≤d.size):a < (partitionEqual lt d a b p).1∧(partitionEqual lt d a b p).1≤b∧(partitionEqual lt d a b p).2.size=d.size:=by
 obtain ⟨h1,h2,h3,_⟩:=partEqLoop_spec lt a b (b - 1+1 - (a+1)) (a+1) (b - 1) (Sort.swp d a p) (Nat.le_refl _) (by omega) (by omega) (by omega) (by rw [Ab.swp_size];exact hb) (fun t _ _=>by omega) (fun t _ _=>by omega)
 exact ⟨h1,h2,by rw [show (partitionEqual lt d a b p).2=(partEqLoop lt a (a+1) (b - 1) (Sort.swp d a p)).2 from rfl,h3.1,Ab.swp_size]⟩
theorem zxd (hS:SWO lt) {d:Array α} {a b p lim:Nat} {wb wp:Bool} (ha:a≤p) (hp:p < b) (hb:b≤d.size) :
  (if a > 0 && !lt d[a - 1]! d[p]! then
   match partitionEqual lt d a b p with
   | (mid,d4)=>if _h:a < mid∧mid≤b then pdq lt d4 mid b lim wb wp else d4
  else
   match partition lt d a b p with
   | (mid,ap,d4) =>
    if _h:a≤mid∧mid < b then
     if mid - a < b - mid then pdq lt (pdq lt d4 a mid lim true true) (mid+1) b lim (decide (mid - a ≥ (b - a) / 8)) ap
     else pdq lt (pdq lt d4 (mid+1) b lim true true) a mid lim (decide (b - mid ≥ (b - a) / 8)) ap
    else d4)=ze8 lt d a b p lim wb wp:=by
 obtain ⟨e1,e2,_⟩:=zlY (lt:=lt) (p:=p) (show a < b by omega) hb
 obtain ⟨q1,q2,_⟩:=partition_holds lt hS d a b p ha hp hb
 unfold ze8
 by_cases h:a > 0∧lt d[a - 1]! d[p]! = false
 ·rw [if_pos h,if_pos (by simpa using h)]
  exact dif_pos ⟨e1,e2⟩
 ·rw [if_neg h,if_neg (by simpa using h)]
  exact dif_pos ⟨q1,q2⟩
theorem ziC : ∀ {j:Nat} {d:Array α},(Sort.shiftDown lt j d).size=d.size
 | 0,d=>rfl
 | j+1,d=>by
  unfold Sort.shiftDown
  split
  ·rfl
  ·rw [ziC,Ab.swp_size]
theorem zkP {b:Nat} : ∀ (n j:Nat) (d:Array α),b - j≤n→(Sort.shiftUp lt b j d).size=d.size
 | 0,j,d,h=>by rw [Sort.shiftUp,if_neg (by omega)]
 | n+1,j,d,h=>by
  rw [Sort.shiftUp]
  split
  ·split
   ·rfl
   ·rw [zkP n _ _ (by omega),Ab.swp_size]
  ·rfl
theorem zod {a b:Nat} : ∀ (s i:Nat) (d:Array α),(Sort.partialIns lt a b s i d).1.size=d.size
 | 0,i,d=>rfl
 | s+1,i,d=>by
  rw [Sort.partialIns_succ]
  split
  ·rfl
  ·split
   ·rfl
   ·rw [zod s]
    unfold Sort.fixUp Sort.fixDown
    split<;>split<;>simp [zkP _ _ _ (Nat.le_refl _),ziC,Ab.swp_size]
theorem zkG {a b:Nat} {d:Array α} : (Sort.partialInsertionSort lt d a b).1.size=d.size:=zod _ _ _
theorem zzh (hS:SWO lt) {d:Array α} {a b limit:Nat} {wb wp:Bool} (h12 : ¬b - a≤12) (h0:limit≠0) (hb:b≤d.size) :
  pdq lt d a b limit wb wp=if wb=true then zmV lt d a b limit wb wp else zmV lt (breakPatterns d a b) a b (limit - 1) wb wp:=by
 have key : ∀ (d1:Array α) (lim:Nat),d1.size=d.size →
   (if (if (wb&&wp&&decide ((if (choosePivot lt d1 a b).2 = .decreasing then Hint.increasing else (choosePivot lt d1 a b).2) = .increasing))=true then partialInsertionSort lt (if (choosePivot lt d1 a b).2 = .decreasing then reverseRange d1 a b else d1) a b else ((if (choosePivot lt d1 a b).2 = .decreasing then reverseRange d1 a b else d1),false)).2=true then
    (if (wb&&wp&&decide ((if (choosePivot lt d1 a b).2 = .decreasing then Hint.increasing else (choosePivot lt d1 a b).2) = .increasing))=true then partialInsertionSort lt (if (choosePivot lt d1 a b).2 = .decreasing then reverseRange d1 a b else d1) a b else ((if (choosePivot lt d1 a b).2 = .decreasing then reverseRange d1 a b else d1),false)).1
   else ze8 lt (if (wb&&wp&&decide ((if (choosePivot lt d1 a b).2 = .decreasing then Hint.increasing else (choosePivot lt d1 a b).2) = .increasing))=true then partialInsertionSort lt (if (choosePivot lt d1 a b).2 = .decreasing then reverseRange d1 a b else d1) a b else ((if (choosePivot lt d1 a b).2 = .decreasing then reverseRange d1 a b else d1),false)).1 a b
    (if (choosePivot lt d1 a b).2 = .decreasing then (b - 1) - ((choosePivot lt d1 a b).1 - a) else (choosePivot lt d1 a b).1) lim wb wp)=zmV lt d1 a b lim wb wp:=by
  intro d1 lim _
  unfold zmV zr7
  by_cases hc:(choosePivot lt d1 a b).2 = .decreasing
  ·simp only [hc,if_true]
   by_cases hw:wb=true∧wp=true
   ·simp [hw.1,hw.2]
   ·have:(wb&&wp)=false:=by
     cases wb<;>cases wp<;>simp_all
    simp [this,hw]
  ·simp only [hc,if_false]
   by_cases hw:wb=true∧wp=true∧(choosePivot lt d1 a b).2 = .increasing
   ·simp [hw.1,hw.2.1,hw.2.2]
   ·have:(wb&&wp&&decide ((choosePivot lt d1 a b).2 = .increasing))=false:=by
     cases wb<;>cases wp<;>simp_all
    simp only [this,Bool.false_eq_true,if_false,if_neg hw]
 have fin : ∀ (d1:Array α) (lim:Nat),PermIn a b d d1→(let c:=choosePivot lt d1 a b
  let d2:=if c.2 = .decreasing then reverseRange d1 a b else d1
  let pivot:=if c.2 = .decreasing then (b - 1) - (c.1 - a) else c.1
  let hint:=if c.2 = .decreasing then Hint.increasing else c.2
  let pi:=if wb&&wp&&hint = .increasing then partialInsertionSort lt d2 a b else (d2,false)
  if pi.2 then pi.1 else
  let d3:=pi.1
  if a > 0 && !lt d3[a - 1]! d3[pivot]! then
   match partitionEqual lt d3 a b pivot with
   | (mid,d4)=>if _h:a < mid∧mid≤b then pdq lt d4 mid b lim wb wp else d4
  else
   match partition lt d3 a b pivot with
   | (mid,ap,d4) =>
    if _h:a≤mid∧mid < b then
     if mid - a < b - mid then pdq lt (pdq lt d4 a mid lim true true) (mid+1) b lim (decide (mid - a ≥ (b - a) / 8)) ap
     else pdq lt (pdq lt d4 (mid+1) b lim true true) a mid lim (decide (b - mid ≥ (b - a) / 8)) ap
    else d4)=zmV lt d1 a b lim wb wp:=by
  intro d1 lim hp1
  rw [← key d1 lim hp1.1]
  have hc:=choosePivot_holds lt d1 a b (by omega)
  have hpv:=pivot_range hc.1 hc.2 ((choosePivot lt d1 a b).2 = .decreasing)
  have hr:(if (choosePivot lt d1 a b).2 = .decreasing then reverseRange d1 a b else d1).size=d.size:=by
   split
   ·rw [(reverseRange_holds d1 a b (by omega) (by rw [hp1.1];exact hb)).1,hp1.1]
   ·exact hp1.1
  refine ite_congr rfl (fun _=>rfl) fun _=>zxd hS ?_ ?_ ?_
  ·exact hpv.1
  ·exact hpv.2
  ·by_cases hw:(wb&&wp&&decide ((if (choosePivot lt d1 a b).2 = .decreasing then Hint.increasing else (choosePivot lt d1 a b).2) = .increasing))=true
   ·rw [if_pos hw,zkG,hr];exact hb
   ·rw [if_neg hw]
    show b≤(if (choosePivot lt d1 a b).2 = .decreasing then reverseRange d1 a b else d1).size
    rw [hr];exact hb
 rw [Sort.pdq,if_neg h12,if_neg h0]
 cases wb with
 | true=>exact fin d limit (permIn_refl d a b)
 | false=>exact fin (breakPatterns d a b) (limit - 1) (breakPatterns_holds d a b (by omega) hb)
theorem zpQ {a b:Nat} : ∀ (n i:Nat) (d:Array α),b - i≤n→(Sort.insOuter lt a b i d).size=d.size
 | 0,i,d,h=>by rw [Ab.insOuter_stop (by omega)]
 | n+1,i,d,h=>by
  by_cases h1:i < b
  ·rw [Ab.insOuter_step h1,zpQ n _ _ (by omega),Ab.insInner_size]
  ·rw [Ab.insOuter_stop h1]
theorem zr8 {first:Nat} : ∀ (k:Nat) (d:Array α),(Sort.heapPop lt first k d).size=d.size
 | 0,d=>rfl
 | k+1,d=>by rw [Sort.heapPop,zr8 k,Ab.siftDown_size,Ab.swp_size]
theorem zxc (hS:SWO lt) : ∀ (N:Nat) (d:Array α) (a b limit:Nat) (wb wp:Bool),b - a≤N→a≤b→b≤d.size→(pdq lt d a b limit wb wp).size=d.size:=by
 intro N
 induction N using Nat.strongRecOn with
 | _ N ih =>
 intro d a b limit wb wp hN hab hb
 by_cases h12:b - a≤12
 ·rw [Sort.pdq,if_pos h12];exact zpQ _ _ _ (Nat.le_refl _)
 by_cases h0:limit=0
 ·rw [Sort.pdq,if_neg h12,if_pos h0,Sort.heapSort,zr8,Ab.build_size]
 have tail : ∀ (u:Array α) (p lim:Nat),u.size=d.size→a≤p→p < b→(ze8 lt u a b p lim wb wp).size=d.size:=by
  intro u p lim hu h1 h2
  obtain ⟨e1,e2,e3⟩:=zlY (lt:=lt) (p:=p) (show a < b by omega) (show b≤u.size by omega)
  obtain ⟨q1,q2,q3,_⟩:=partition_holds lt hS u a b p h1 h2 (by omega)
  unfold ze8
  split
  ·rw [ih (b - (partitionEqual lt u a b p).1) (by omega) _ _ _ _ _ _ (Nat.le_refl _) e2 (by omega),e3,hu]
  ·split
   ·rw [ih (b - ((partition lt u a b p).1+1)) (by omega) _ _ _ _ _ _ (Nat.le_refl _) (by omega) (by rw [ih ((partition lt u a b p).1 - a) (by omega) _ _ _ _ _ _ (Nat.le_refl _) q1 (by rw [q3.1];omega),q3.1];omega),
     ih ((partition lt u a b p).1 - a) (by omega) _ _ _ _ _ _ (Nat.le_refl _) q1 (by rw [q3.1];omega),q3.1,hu]
   ·rw [ih ((partition lt u a b p).1 - a) (by omega) _ _ _ _ _ _ (Nat.le_refl _) (by omega) (by rw [ih (b - ((partition lt u a b p).1+1)) (by omega) _ _ _ _ _ _ (Nat.le_refl _) (by omega) (by rw [q3.1];omega),q3.1];omega),
     ih (b - ((partition lt u a b p).1+1)) (by omega) _ _ _ _ _ _ (Nat.le_refl _) (by omega) (by rw [q3.1];omega),q3.1,hu]
 have goD : ∀ (u:Array α) (p lim:Nat) (hint:Hint),u.size=d.size→a≤p→p < b→(zr7 lt u a b p lim wb wp hint).size=d.size:=by
  intro u p lim hint hu h1 h2
  unfold zr7
  split
  ·split
   ·rw [zkG,hu]
   ·exact tail _ _ _ (by rw [zkG,hu]) h1 h2
  ·exact tail _ _ _ hu h1 h2
 have goC : ∀ (u:Array α) (lim:Nat),u.size=d.size→(zmV lt u a b lim wb wp).size=d.size:=by
  intro u lim hu
  have hc:=choosePivot_holds lt u a b (by omega)
  unfold zmV
  split
  ·refine goD _ _ _ _ (by rw [(reverseRange_holds u a b hab (by omega)).1,hu]) (by omega) (by omega)
  ·exact goD _ _ _ _ hu hc.1 hc.2
 rw [zzh hS h12 h0 hb]
 split
 ·exact goC _ _ rfl
 ·exact goC _ _ (breakPatterns_holds d a b hab hb).1
end
end Go.Ab
namespace Go.Ab
open Go Go.Proofs
set_option maxRecDepth 10000
set_option maxHeartbeats 4000000
section
variable {α:Type} [Inhabited α] [DecidableEq α]
def ddA (d:Array α):Nat→List α
 | 0=>[]
 | n+1=>if 0 < n∧d[n]! = d[n - 1]! then ddA d n else ddA d n++[d[n]!]
def Steps (d:Array α):Prop := ∀ j,0 < j→j < d.size→d[j]! ≠ d[j - 1]!
theorem zv5 {d:Array α} {n:Nat} (h:n < d.size):d.toList.take (n+1)=d.toList.take n++[d[n]!]:=by
 rw [List.take_add_one,zxV h];rfl
theorem zoQ {d:Array α} : ∀ {n:Nat},n≤d.size→(∀ j,0 < j→j < n→d[j]! ≠ d[j - 1]!)→ddA d n=d.toList.take n
 | 0,_,_=>rfl
 | n+1,h,hs=>by
  rw [ddA,if_neg (fun hh=>hs n hh.1 (by omega) hh.2),zoQ (by omega) (fun j h0 h1=>hs j h0 (by omega)),zv5 (by omega)]
theorem zwD {d:Array α} {k:Nat} (h0:0 < k) (h1:k < d.size) (hk : ∀ j,0 < j→j < k→d[j]! ≠ d[j - 1]!) (he:d[k]! = d[k - 1]!):d.toList.take k=ddA d (k+1):=by
 rw [ddA,if_pos ⟨h0,he⟩,zoQ (by omega) hk]
theorem zxn {e:Array α} {a:Nat} {x:α} (h:a < e.size):(e.setIfInBounds a x).toList.take (a+1)=e.toList.take a++[x]:=by
 have hl:a < e.toList.length:=by simpa using h
 rw [Array.toList_setIfInBounds,List.take_add_one,List.getElem?_set_self hl,List.take_set_of_le (Nat.le_refl a)];rfl
theorem zyt {e:Array α} {a j:Nat} {x:α} (h:a≠j):(e.setIfInBounds a x)[j]! = e[j]! := by
 simp [getElem!_def,Array.getElem?_setIfInBounds_ne h]
theorem zx2 {d:Array α} {n:Nat} (h:0 < n) (he:d[n]! = d[n - 1]!):ddA d (n+1)=ddA d n:=by rw [ddA,if_pos ⟨h,he⟩]
theorem zyS {d:Array α} {n:Nat} (he:d[n]! ≠ d[n - 1]!):ddA d (n+1)=ddA d n++[d[n]!]:=by rw [ddA,if_neg (fun h=>he h.2)]
theorem zx1 {enc:α→D} {e:Array α} {z:D} {a n:Nat} (h:a≤e.size):((List.take a (e.toList.map enc))++(List.replicate n z++List.drop (a+n) (e.toList.map enc))).take a=(e.toList.take a).map enc:=by
 rw [List.take_append_of_le_length (by simp;omega),List.take_take,Nat.min_self,List.map_take]
end
end Go.Ab
namespace Go.Ab
open Go Go.Proofs
set_option maxRecDepth 10000
set_option maxHeartbeats 4000000
def zi7:List D→Option (List Int)
 | []=>some []
 | .int .i64 n::r=>match zi7 r with
  | some l=>some (n::l)
  | none=>none
 | _=>none
theorem zgO : ∀ {ds:List D} {l:List Int},zi7 ds=some l→ds=l.map (D.int .i64)
 | [],l,h=>by cases h;rfl
 | .int .i64 n::r,l,h=>by
  unfold zi7 at h
  split at h
  ·rename_i l' h';cases h;rw [zgO h'];rfl
  ·cases h
variable {T:Nat→Obj→Prop}
end Go.Ab
namespace Go.Ab
open Go Go.Proofs
set_option maxRecDepth 10000
set_option maxHeartbeats 4000000
variable {T:Nat→Obj→Prop}
abbrev zzU (x:KM×List Int×Int):D := .tup [dKM x.1,dI x.2.1,.int .i64 x.2.2]
end Go.Ab
namespace Go.Ab
def zcR (R:zov) (a:Nat) (w u:Nat):Prop := ∃ r,R[a]? = some r∧r w u=true
def ze9 (n:Nat) (R:zov) (g:Nat) (w u:Nat):Prop:=u < n ∧ ∃ a,g.testBit a=true∧zcR R a w u
inductive CPt (S:Nat→Nat→Prop) (c:Nat→Prop):Nat→Nat→Prop where
 | one {v u:Nat} : S v u→c u→CPt S c v u
 | more {v x u:Nat} : CPt S c v x→S x u→c u→CPt S c v u
def zzl (n:Nat) (R:zov) (fc:Nat→Nat→Prop) (h:Hd) (X Y:Nat→Prop) (w:Nat):Prop :=
 if h.op=1 then True else if h.op=3 then fc h.i.toNat w else if h.op=4 then ¬X w else if h.op=5 then X w∧Y w else if h.op=6 then X w∨Y w else if h.op=7 then (X w→Y w) else if h.op=8 then (X w↔Y w) else
 if h.op=9 then ∀ u,u < n→zcR R h.i.toNat w u→X u else if h.op=10 then ∃ u,u < n∧zcR R h.i.toNat w u∧X u else if h.op=11 then ∀ u,ze9 n R h.g.toNat w u→X u else
 if h.op=12 then ∀ u,u < n→(∀ a,h.g.toNat.testBit a=true→zcR R a w u)→X u else if h.op=13 then ∀ u,CPt (ze9 n R h.g.toNat) X w u→Y u else False
end Go.Ab
namespace Go.Ab
open Go Go.Proofs
set_option maxRecDepth 10000
set_option maxHeartbeats 4000000
variable {T:Nat→Obj→Prop}
def zeb (r:List (BitVec 64)) (s:BitVec 64):BitVec 64:=zF (fun w=>decide (r.getD w 0#64 &&& ~~~s=0#64)) r.length
theorem zfz {r:List (BitVec 64)} (s:BitVec 64) (hc0:zag r=0):Fn Tryz.prog T zh2 [.d (dU r),.d (.u64 s)] [] (.d (.u64 (zeb r s))) []:=by
 have hl:=(zbt.1 hc0).1
 have crc:=zlP (T:=T) r
 rw [hc0] at crc
 refine zd zt zo8 (by show 2≤30;decide) ?_
 (repeat' ((conv=>whnf);first|refine vA ?_|refine vJ fun hg=>?_|refine vT ?_));all_goals try conv=>whnf
 refine zT.data (crc) (by (repeat refine ⟨⟨rfl,rfl⟩,?_⟩);rfl) rfl ?_
 (repeat' ((conv=>whnf);first|refine vA ?_|refine vH ?_|refine vJ fun hg=>?_|refine vT ?_));all_goals try conv=>whnf
 refine zar (fun ((k,o):Nat×BitVec 64)=>[(0,.d (dU r)),(1,.d (.u64 (s))),(5,.d (.u64 (o))),(13,.d (.int .i64 ((r.map D.u64).length:Int))),(14,.d (.int .i64 ((k:Int))))]) (fun ((k,o):Nat×BitVec 64)=>k≤r.length∧o=zF (fun w=>decide (r.getD w 0#64 &&& ~~~s=0#64)) k) (fun ((k,o):Nat×BitVec 64)=>r.length - k) ((0,0#64)) (⟨by omega,rfl⟩) (by (repeat' first|exact trivial|exact rfl|refine And.intro ?_ ?_)) ?_
 rintro ⟨k,o⟩ ⟨hk,ho⟩
 (repeat' ((conv=>whnf);first|refine vA ?_|(refine vF ?_ ?_<;>intro hc<;>try simp only [vL] at hc)|refine vT ?_|(refine vQ ?_ fun x hx=>?_;·omega)|((first|refine vO ?_ ?_|refine vP ?_ ?_);·omega)|refine vY ?_));all_goals try conv=>whnf
 ·refine ⟨(k+1,_),[],[],?_,?_,by (refine ⟨rfl,rfl,rfl,?_,?_⟩;repeat' first|exact trivial|exact rfl|refine And.intro ?_ ?_)⟩
  ·refine ⟨by (omega),?_⟩
   have hrk:r.getD k 0#64=x:=by simp [List.getD,hx]
   rw [zF,if_pos (decide_eq_true (by rw [hrk];exact hc)),← ho];rfl
  ·((simp only [vM] at *;omega))
 ·refine ⟨(k+1,o),[],[],?_,?_,by (refine ⟨rfl,rfl,rfl,?_,?_⟩;repeat' first|exact trivial|exact rfl|refine And.intro ?_ ?_)⟩
  ·refine ⟨by (omega),?_⟩
   have hrk:r.getD k 0#64=x:=by simp [List.getD,hx]
   rw [zF,if_neg (by rw [hrk,decide_eq_true_eq];exact hc),← ho]
  ·((simp only [vM] at *;omega))
 ·obtain rfl:k=r.length:=by omega
  rw [ho];rfl
def zms (r:List (BitVec 64)) (s:BitVec 64):BitVec 64:=zM r.length &&& ~~~(zeb r (~~~s))
theorem zqr {r:List (BitVec 64)} (s:BitVec 64) (hc0:zag r=0):Fn Tryz.prog T zfw [.d (dU r),.d (.u64 s)] [] (.d (.u64 (zms r s))) []:=by
 have crc:=zlP (T:=T) r
 rw [hc0] at crc
 have cra:=zhh (T:=T) ((r.map D.u64).length:Int) (by omega)
 have crb:=zfz (T:=T) (r:=r) (~~~s) hc0
 refine zd zt zku (by show 2≤18;decide) ?_
 (repeat' ((conv=>whnf);first|refine vA ?_|refine vJ fun hg=>?_|refine vT ?_));all_goals try conv=>whnf
 refine zT.data (crc) (by (repeat refine ⟨⟨rfl,rfl⟩,?_⟩);rfl) rfl ?_
 (repeat' ((conv=>whnf);first|refine vH ?_|refine vJ fun hg=>?_|refine vT ?_|refine vY ?_|refine yD cra ⟨⟨rfl,rfl⟩,rfl⟩ rfl ?_|refine yD crb ⟨⟨rfl,rfl⟩,⟨rfl,rfl⟩,rfl⟩ rfl ?_));all_goals try conv=>whnf
 rw [zms,List.length_map]
def zwg (r:List (BitVec 64)) (c s:BitVec 64) (w:Nat):Prop := ∀ u,CPt (fun a b=>rb r a b=true) (fun u=>c.getLsbD u=true) w u→s.getLsbD u=true
noncomputable def zmq (r:List (BitVec 64)) (c s:BitVec 64):BitVec 64:=zF (fun w => @decide (zwg r c s w) (Classical.propDecidable _)) r.length
theorem CPt.pre {S:Nat→Nat→Prop} {c:Nat→Prop} {w u v:Nat} (h1:S w u) (h2:c u) (h:CPt S c u v):CPt S c w v:=by
 induction h with
 | one a b=>exact .more (.one h1 h2) a b
 | more _ a b ih=>exact .more ih a b
theorem zme {r:List (BitVec 64)} {s:BitVec 64} (hl:r.length≤64) {w:Nat} : (zeb r s).getLsbD w=true↔w < r.length ∧ ∀ u,rb r w u=true→s.getLsbD u=true:=by
 unfold zeb
 rw [zet hl,decide_eq_true_eq,zss];rfl
def zhx (r:List (BitVec 64)) (c s o:BitVec 64):BitVec 64:=zeb r ((zM r.length &&& ~~~c)|||(s&&&o))
theorem zed {r:List (BitVec 64)} {c s o:BitVec 64} (hc0:zag r=0) {w:Nat} : (zhx r c s o).getLsbD w=true↔w < r.length ∧ ∀ u,rb r w u=true→c.getLsbD u=true→s.getLsbD u=true∧o.getLsbD u=true:=by
 obtain ⟨hl,hin⟩:=zbt.1 hc0
 unfold zhx
 rw [zme hl]
 refine and_congr Iff.rfl (forall_congr' fun u=>forall_congr' fun hu=>?_)
 have hul:=hin w u hu
 have ha:(zM r.length).getLsbD u=true:=by rw [zbT (by omega) (by omega),decide_eq_true_eq];omega
 rw [BitVec.getLsbD_or,BitVec.getLsbD_and,BitVec.getLsbD_and,BitVec.getLsbD_not,ha,decide_eq_true (show u < 64 by omega)]
 cases c.getLsbD u<;>simp
structure zhv (r:List (BitVec 64)) (c s o:BitVec 64):Prop where
 sup : ∀ w,w < r.length→zwg r c s w→o.getLsbD w=true
 dec : ∀ w,(zhx r c s o).getLsbD w=true→o.getLsbD w=true
 ins : ∀ w,o.getLsbD w=true→w < r.length
theorem zhv.start {r:List (BitVec 64)} (c s:BitVec 64) (hc0:zag r=0):zhv r c s (zM r.length):=by
 obtain ⟨hl,hin⟩:=zbt.1 hc0
 have ha : ∀ w,w < r.length→(zM r.length).getLsbD w=true:=fun w hw=>by rw [zbT (by omega) (by omega),decide_eq_true_eq];omega
 refine ⟨fun w hw _=>ha w hw,fun w h=>ha w ((zed hc0).1 h).1,fun w h=>?_⟩
 have hw64:w < 64:=by
  refine Nat.lt_of_not_le fun h2=>?_
  rw [BitVec.getLsbD_of_ge _ _ h2] at h;exact absurd h (by decide)
 rw [zbT (by omega) hw64,decide_eq_true_eq] at h
 omega
theorem zhv.next {r:List (BitVec 64)} {c s o:BitVec 64} (hc0:zag r=0) (h:zhv r c s o):zhv r c s (zhx r c s o):=by
 obtain ⟨hl,hin⟩:=zbt.1 hc0
 refine ⟨fun w hw hp=>(zed hc0).2 ⟨hw,fun u hu hcu=>⟨hp u (.one hu hcu),h.sup u (hin w u hu) fun v hv=>hp v (hv.pre hu hcu)⟩⟩,fun w hw=>?_,fun w hw=>((zed hc0).1 hw).1⟩
 obtain ⟨h1,h2⟩:=(zed hc0).1 hw
 exact (zed hc0).2 ⟨h1,fun u hu hcu=>⟨(h2 u hu hcu).1,h.dec u (h2 u hu hcu).2⟩⟩
theorem zhv.done {r:List (BitVec 64)} {c s o:BitVec 64} (hc0:zag r=0) (h:zhv r c s o) (e:zhx r c s o=o):o=zmq r c s:=by
 obtain ⟨hl,hin⟩:=zbt.1 hc0
 refine BitVec.eq_of_getLsbD_eq fun w _=>?_
 rw [Bool.eq_iff_iff,zmq,zet hl,@decide_eq_true_eq _ (Classical.propDecidable _)]
 constructor
 ·intro hw
  refine ⟨h.ins w hw,fun u hu=>?_⟩
  have key : ∀ u,CPt (fun a b=>rb r a b=true) (fun u=>c.getLsbD u=true) w u→s.getLsbD u=true∧o.getLsbD u=true:=fun u hu=>by
   induction hu with
   | one a b=>rw [← e] at hw;exact ((zed hc0).1 hw).2 _ a b
   | more _ a b ih =>
    have:=ih.2
    rw [← e] at this
    exact ((zed hc0).1 this).2 _ a b
  exact (key u hu).1
 ·rintro ⟨h1,h2⟩
  exact h.sup w h1 h2
theorem zhv.less {r:List (BitVec 64)} {c s o:BitVec 64} (h:zhv r c s o) (e:zhx r c s o≠o):(zZ (zhx r c s o)).length < (zZ o).length:=by
 unfold zZ
 refine (zpB (fun i hi=>h.dec i hi) _).2 ?_
 refine Classical.byContradiction fun hn=>e (BitVec.eq_of_getLsbD_eq fun i hi=>?_)
 cases ho:o.getLsbD i with
 | true =>
  cases hf:(zhx r c s o).getLsbD i with
  | true=>rfl
  | false=>exact absurd ⟨i,List.mem_range.2 hi,hf,ho⟩ hn
 | false =>
  cases hf:(zhx r c s o).getLsbD i with
  | true=>rw [h.dec i hf] at ho;cases ho
  | false=>rfl
theorem zu1 {r:List (BitVec 64)} (c s:BitVec 64) (hc0:zag r=0):Fn Tryz.prog T zgG [.d (dU r),.d (.u64 (zM r.length)),.d (.u64 c),.d (.u64 s)] [] (.d (.u64 (zmq r c s))) []:=by
 have cb:=fun x=>zfz (T:=T) (r:=r) x hc0
 refine zd zt zmG (by show 4≤26;decide) ?_
 (repeat' ((conv=>whnf);refine vT ?_));all_goals try conv=>whnf
 refine zar (fun (o:BitVec 64)=>[(0,.d (dU r)),(1,.d (.u64 ((zM r.length)))),(2,.d (.u64 (c))),(3,.d (.u64 (s))),(9,.d (.u64 (o)))]) (fun (o:BitVec 64)=>zhv r c s o) (fun (o:BitVec 64)=>(zZ o).length) (zM r.length) (.start c s hc0) (by (repeat' first|exact trivial|exact rfl|refine And.intro ?_ ?_)) ?_
 rintro o hI
 (repeat' ((conv=>whnf);first|refine vA ?_|(refine vF ?_ ?_<;>intro hc)|refine vT ?_|refine vY ?_|refine yD (cb _) (by (repeat refine ⟨⟨rfl,rfl⟩,?_⟩);rfl) rfl ?_));all_goals try conv=>whnf
 ·exact hI.done hc0 hc
 ·refine ⟨zhx r c s o,[],[],?_,?_,by (refine ⟨rfl,rfl,rfl,?_,?_⟩;repeat' first|exact trivial|exact rfl|refine And.intro ?_ ?_)⟩
  ·exact hI.next hc0
  ·exact hI.less hc
end Go.Ab
namespace Go.Ab
open Go Go.Proofs
set_option maxRecDepth 10000
set_option maxHeartbeats 4000000
variable {T:Nat→Obj→Prop}
def zla (m:KM) (i v:Nat):BitVec 64:=(m.rel.getD i []).getD v 0#64
end Go.Ab
namespace Go.Ab
open Go
theorem zvC {m:KM} {i v u:Nat} {r:Nat→Nat→Bool} (h:(zaj m)[i]? = some r):(zla m i v).getLsbD u=r v u:=by
 unfold zaj at h
 rw [List.getElem?_map,Option.map_eq_some_iff] at h
 obtain ⟨s,hs,rfl⟩:=h
 unfold zla rb
 simp [List.getD,hs]
theorem zi3 {m:KM} (g:zcC m) {i v u:Nat} (h:(zla m i v).getLsbD u=true):u < m.W.toNat:=by
 have w1:=g.w1
 unfold zla at h
 by_cases hi:i < m.rel.length
 ·by_cases hv:v < (m.rel[i]).length
  ·have e:(m.rel.getD i []).getD v 0#64=(m.rel[i])[v]:=by simp [List.getD,hi,hv]
   rw [e] at h
   exact (zeV (by omega)).1 (g.rel _ (List.getElem_mem hi) _ (List.getElem_mem hv)) u h
  ·simp [List.getD,hi,hv] at h
 ·simp [List.getD,hi] at h
end Go.Ab
namespace Go.Ab
open Go Go.Proofs
set_option maxRecDepth 10000
set_option maxHeartbeats 4000000
variable {T:Nat→Obj→Prop}
theorem zuX (l:List (BitVec 64)) (h:l≠[]) (hl:l.length≤1000):Fn Tryz.prog T za9 [.d (dU l)] [] (.own 0) [some (.row 1 (l.map D.u64))]:=by
 refine zan zt zcj (by show 1≤8;decide) _ (fun e env mem n h=>h) ?_
 (repeat' ((conv=>whnf);first|refine vA ?_|refine vB fun b hb=>?_|refine vE ?_|(refine vF ?_ ?_<;>intro hc)|refine vT ?_|(refine vP ?_ ?_;·(simp only [vM] at *;omega))|fail));all_goals try conv=>whnf
 ·refine ⟨trivial,_,[(0,1)],[],rfl,.inl (by (repeat' exact rfl)),⟨by rfl,by rfl,by rfl,trivial,by (repeat' first|exact trivial|exact rfl|refine And.intro ?_ ?_|refine ⟨_,rfl,?_⟩|exact of_decide_eq_true rfl)⟩,by (repeat' exact trivial)⟩
 ·exact absurd (List.map_eq_nil_iff.1 (hb (by simpa using hc))) h
end Go.Ab
namespace Go.Ab
open Go Go.Proofs
set_option maxRecDepth 10000
set_option maxHeartbeats 4000000
variable {T:Nat→Obj→Prop}
def zzX (op:BitVec 64→BitVec 64→BitVec 64) (n:Nat):Option (List (BitVec 64))→List (BitVec 64)→Option (List (BitVec 64))
 | none,r=>some r
 | some a,r=>some ((List.range n).map fun w=>op (a.getD w 0#64) (r.getD w 0#64))
def zaq (op:BitVec 64→BitVec 64→BitVec 64) (m:KM) (g:Nat):Nat→Option (List (BitVec 64))
 | 0=>none
 | k+1=>if g.testBit k=true then zzX op m.W.toNat (zaq op m g k) (m.rel.getD k []) else zaq op m g k
def zzY:Option (List (BitVec 64))→V
 | none => .nils 1
 | some _ => .own 0
def zzW:Option (List (BitVec 64))→List D
 | none=>[]
 | some r=>r.map D.u64
theorem zqK {g k:Nat} (hg:g < 2 ^ 63) (hk:k≤64):zaz .i64 (fun p q=>p&&&q) ((g:Int).fdiv (2 ^ (min ((k:Nat):Int).toNat IntKind.i64.bits))) 1=0↔g.testBit k=false:=by
 have e1:min ((k:Nat):Int).toNat IntKind.i64.bits=k:=Nat.min_eq_left (show k≤64 from hk)
 have h1:g >>> k < 2 ^ 63:=Nat.lt_of_le_of_lt (by rw [Nat.shiftRight_eq_div_pow];exact Nat.div_le_self _ _) hg
 rw [e1,zpm,show (1:Int)=((1:Nat):Int) from rfl,zq1 h1 (by decide)]
 rw [Nat.testBit,Nat.and_one_is_mod,Nat.one_and_eq_mod_two,bne_eq_false_iff_eq]
 omega
theorem zk4 {op:BitVec 64→BitVec 64→BitVec 64} {m:KM} (hg:zcC m) {g:Nat} : ∀ {k:Nat} {r:List (BitVec 64)},k≤m.rel.length→zaq op m g k=some r→r.length=m.W.toNat
 | 0,_,_,h=>by cases h
 | k+1,r,hk,h=>by
  rw [zaq] at h
  split at h
  ·cases hz:zaq op m g k with
   | none =>
    rw [hz] at h
    have e:m.rel.getD k []=r:=Option.some.inj h
    have:=hg.len r (by rw [← e,List.getD,List.getElem?_eq_getElem (by omega)];exact List.getElem_mem _)
    omega
   | some a =>
    rw [hz] at h
    have e:=Option.some.inj h
    rw [← e];simp
  ·exact zk4 hg (by omega) h
theorem zpH {m:KM} (hk0:zV m=0) {f:Nat} {op:BitVec 64→BitVec 64→BitVec 64} (hop : ∀ x y,Fn Tryz.prog T f [.d (.u64 x),.d (.u64 y)] [] (.d (.u64 (op x y))) []) {g:Nat} (hg1:1≤g) (hg2:(g:Int) < 2 ^ m.rel.length):Fn Tryz.prog T zhX [.d (dKM m),.d (.int .i64 (g:Int)),.d (.fn f [])] [] (.d (dU ((zaq op m g m.rel.length).getD []))) []:=by
 have gm:=za4 hk0
 have w1:=gm.w1
 have w2:=gm.w2
 have n4:=gm.n4
 have ck:=zki (T:=T) m
 rw [hk0] at ck
 refine zd zt zo3 (by show 3≤64;decide) ?_
 have hg63:g < 2 ^ 63:=by
  have h4:(2:Nat) ^ m.rel.length≤2 ^ 4:=Nat.pow_le_pow_right (by decide) n4
  have h6:(2:Nat) ^ 63=9223372036854775808:=by decide
  have h7:((2 ^ m.rel.length:Nat):Int)=(2:Int) ^ m.rel.length:=by simp
  omega
 have hpw : ∀ k:Nat,k≤4→inR .i64 (1 * 2 ^ min ((k:Nat):Int).toNat IntKind.i64.bits:Int)∧(1 * 2 ^ min ((k:Nat):Int).toNat IntKind.i64.bits:Int)=2 ^ k:=fun k hk=>by
  match k,hk with
  | 0,_=>exact ⟨by decide,by decide⟩
  | 1,_=>exact ⟨by decide,by decide⟩
  | 2,_=>exact ⟨by decide,by decide⟩
  | 3,_=>exact ⟨by decide,by decide⟩
  | 4,_=>exact ⟨by decide,by decide⟩
 (repeat' ((conv=>whnf);first|refine vA ?_|refine vH ?_|(refine vF ?_ ?_<;>intro hc<;>try simp only [vL] at hc)|refine vJ fun hg=>?_|refine vT ?_|((first|refine vO ?_ ?_|refine vP ?_ ?_);·omega)|refine yD ck ⟨⟨rfl,rfl⟩,rfl⟩ rfl ?_));all_goals try conv=>whnf
 ·exfalso;omega
 ·have hp1:=hpw (m.rel.map dU).length (by rw [List.length_map];exact n4)
  have hp2:=hp1.2
  rw [List.length_map] at hp2
  refine ziG.fit hp1.1 ?_
  (repeat' ((conv=>whnf);first|refine vA ?_|(refine vF ?_ ?_<;>intro hc<;>try simp only [vL] at hc)|refine vJ fun hg=>?_|refine vT ?_));all_goals try conv=>whnf
  ·exfalso;rw [hp2] at hc;omega
  refine zA (fun ((k,z):Nat×Option (List (BitVec 64)))=>[(1,.d (.int .i64 ((g:Int)))),(2,.d (.fn f [])),(7,zzY z),(27,.d (dUU m.rel)),(28,.d (.int .i64 ((m.rel.map dU).length:Int))),(29,.d (.int .i64 ((k:Int))))]) (fun ((k,z):Nat×Option (List (BitVec 64)))=>[(0,some (.row 1 (zzW z)))]) 1 (fun ((k,z):Nat×Option (List (BitVec 64)))=>k≤m.rel.length∧z=zaq op m g k) (fun ((k,z):Nat×Option (List (BitVec 64)))=>m.rel.length - k) ((0,none)) []   [0] (⟨by omega,rfl⟩) (by (refine ⟨rfl,rfl,rfl,?_,?_⟩;repeat' first|exact trivial|exact rfl|exact ⟨_,rfl⟩|refine And.intro ?_ ?_|decide)) ?_
  rintro ⟨k,z⟩ ⟨hk,hz⟩
  by_cases hkl:k < m.rel.length
  ·cases z with
   | none =>
    (repeat' ((conv=>whnf);first|refine vA ?_|(refine vF ?_ ?_<;>intro hc<;>try simp only [vL] at hc)|refine vT ?_|(refine vQ ?_ fun x hx=>?_;·omega)|((first|refine vO ?_ ?_|refine vP ?_ ?_);·omega)|fail));all_goals try conv=>whnf
    ·have hb0:=(zqK hg63 (by omega)).1 hc
     refine ⟨(k+1,none),[] ,  [0],?_,?_,by (refine ⟨rfl,rfl,rfl,?_,?_⟩;repeat' first|exact trivial|exact rfl|exact ⟨_,rfl⟩|refine And.intro ?_ ?_|decide)⟩
     ·exact ⟨by (omega),by rw [zaq,if_neg (by rw [hb0];decide),hz]⟩
     ·((simp only [vM] at *;omega))
    ·have hb0:=mt (zqK (k:=k) hg63 (by omega)).2 ‹¬_›
     have hxl:=gm.len _ (List.mem_of_getElem? hx)
     refine zT.res (zuX x (fun e=>by subst e;simp at hxl;omega) (by omega)) (by (repeat refine ⟨⟨rfl,rfl⟩,?_⟩);rfl) ?_
     (repeat' ((conv=>whnf);first|refine vT ?_|(refine vO ?_ ?_;·omega)|fail));all_goals try conv=>whnf
     refine ⟨(k+1,some x),[(0,1)],[],?_,?_,by (refine ⟨rfl,rfl,rfl,?_,?_⟩;repeat' first|exact trivial|exact rfl|refine And.intro ?_ ?_|refine ⟨_,rfl,?_⟩|decide)⟩
     ·refine ⟨by (omega),?_⟩
      have hxk:m.rel.getD k []=x:=by simp [List.getD,hx]
      rw [zaq,if_pos (by simpa using hb0),← hz,hxk];rfl
     ·((simp only [vM] at *;omega))
    ·exfalso;omega
   | some a =>
    have hal:=zk4 gm hk hz.symm
    (repeat' ((conv=>whnf);first|refine vA ?_|refine vB fun b hb=>?_|refine vE ?_|(refine vF ?_ ?_<;>intro hc<;>try simp only [vL] at hc)|refine vJ fun hg=>?_|refine vT ?_|(refine vQ ?_ fun x hx=>?_;·omega)|((first|refine vO ?_ ?_|refine vP ?_ ?_);·omega)|fail));all_goals try conv=>whnf
    ·have hb0:=(zqK hg63 (by omega)).1 hc
     refine ⟨(k+1,some a),[(0,0)],[],?_,?_,by (refine ⟨rfl,rfl,rfl,?_,?_⟩;repeat' first|exact trivial|exact rfl|refine And.intro ?_ ?_|refine ⟨_,rfl,?_⟩|decide)⟩
     ·exact ⟨by (omega),by rw [zaq,if_neg (by rw [hb0];decide),hz]⟩
     ·((simp only [vM] at *;omega))
    ·have hb0:=mt (zqK (k:=k) hg63 (by omega)).2 ‹¬_›
     have hxl:=gm.len _ (List.mem_of_getElem? hx)
     have hxk:m.rel.getD k []=x:=by simp [List.getD,hx]
     refine zA (fun ((j,zs):Nat×List D)=>[(1,.d (.int .i64 ((g:Int)))),(2,.d (.fn f [])),(7,.own 0),(9,.d (dU x)),(27,.d (dUU m.rel)),(28,.d (.int .i64 ((m.rel.map dU).length:Int))),(29,.d (.int .i64 ((k:Int)))),(44,.d (.int .i64 (((a.map D.u64).length:Int)))),(45,.d (.int .i64 ((j:Int))))]) (fun ((j,zs):Nat×List D)=>[(0,some (.row 1 zs))]) 1 (fun ((j,zs):Nat×List D)=>j≤m.W.toNat∧zs=(List.range m.W.toNat).map fun w=>D.u64 (if w < j then op (a.getD w 0#64) (x.getD w 0#64) else a.getD w 0#64)) (fun ((j,zs):Nat×List D)=>m.W.toNat - j) ((0,a.map D.u64)) [(0,0)] [] (⟨by omega,by
      refine List.ext_getElem (by simp [hal]) fun i h1 h2=>?_
      have:i < a.length:=by simpa using h1
      simp [List.getD,this]⟩) (by (refine ⟨rfl,rfl,rfl,?_,?_⟩;repeat' first|exact trivial|exact rfl|refine And.intro ?_ ?_|refine ⟨_,rfl,?_⟩|decide)) ?_
     rintro ⟨j,zs⟩ ⟨hj,hzs⟩
     by_cases hjl:j < m.W.toNat
     ·subst hzs
      (repeat' ((conv=>whnf);first|refine vA ?_|(refine vF ?_ ?_<;>intro hc<;>try simp only [vL] at hc)|refine vT ?_|(refine vQ ?_ fun x hx=>?_;·first|omega|(simp only [vM] at *;omega))|((first|refine vO ?_ ?_|refine vP ?_ ?_);·first|omega|(simp only [vM] at *;omega))|(refine vU ?_ ?_;·kernel_rfl)|refine yD (hop _ _) (by (repeat refine ⟨⟨rfl,rfl⟩,?_⟩);rfl) rfl ?_));all_goals try conv=>whnf
      ·rename_i xn hxn
       rw [Int.toNat_natCast] at hxn
       have hxe:=zkn hxn
       subst hxe
       have hxj:(m.rel.getD k []).getD xn 0#64=x:=by rw [hxk];simp [List.getD,hx]
       refine ⟨(xn+1,_),[(0,0)],[],?_,?_,by (refine ⟨rfl,rfl,rfl,?_,?_⟩;repeat' first|exact trivial|exact rfl|refine And.intro ?_ ?_|refine ⟨_,rfl,?_⟩|decide)⟩
       ·refine ⟨by (omega),(zeu _).trans (z1 fun u hu=>?_)⟩
        rw [Int.toNat_natCast,if_neg (Nat.lt_irrefl _)]
        by_cases e:u=xn
        ·subst e
         rw [if_pos rfl,if_pos (by omega)]
         rw [hxk] at hxj
         rw [hxj]
        ·rw [if_neg e]
         by_cases e2:u < xn
         ·rw [if_pos e2,if_pos (by omega)]
         ·rw [if_neg e2,if_neg (by omega)]
       ·((simp only [vM] at *;omega))
      ·exfalso;omega
     ·obtain rfl:j=m.W.toNat:=by omega
      obtain rfl:zs=((List.range m.W.toNat).map fun w=>op (a.getD w 0#64) (x.getD w 0#64)).map D.u64:=by
       rw [hzs,List.map_map]
       exact z1 fun u hu=>by rw [if_pos hu];rfl
      clear hzs
      (repeat' ((conv=>whnf);first|refine vA ?_|(refine vF ?_ ?_<;>intro hc<;>try simp only [vL] at hc)|refine vT ?_|(refine vQ ?_ fun x hx=>?_;·omega)|((first|refine vO ?_ ?_|refine vP ?_ ?_);·omega)|fail));all_goals try conv=>whnf
      ·exfalso;omega
      ·refine ⟨(k+1,some ((List.range m.W.toNat).map fun w=>op (a.getD w 0#64) (x.getD w 0#64))),[(0,0)],[],?_,?_,by (refine ⟨rfl,rfl,rfl,?_,?_⟩;repeat' first|exact trivial|exact rfl|refine And.intro ?_ ?_|refine ⟨_,rfl,?_⟩|decide)⟩
       ·refine ⟨by (omega),?_⟩
        rw [zaq,if_pos (by simpa using hb0),← hz,hxk];rfl
       ·((simp only [vM] at *;omega))
    ·exfalso
     have hnil:a.map D.u64=[]:=hb (by simpa using hc)
     rw [List.map_eq_nil_iff] at hnil
     rw [hnil] at hal
     simp at hal;omega
    ·exfalso;omega
  ·obtain rfl:k=m.rel.length:=by omega
   cases z with
   | none =>
    (repeat' ((conv=>whnf);first|refine vA ?_|(refine vF ?_ ?_<;>intro hc<;>try simp only [vL] at hc)|refine vT ?_|(refine vQ ?_ fun x hx=>?_;·omega)|((first|refine vO ?_ ?_|refine vP ?_ ?_);·omega)|fail));all_goals try conv=>whnf
    all_goals first|(exfalso;omega)|skip
    rw [← hz];rfl
   | some a =>
    (repeat' ((conv=>whnf);first|refine vA ?_|refine vB fun b hb=>?_|refine vE ?_|(refine vF ?_ ?_<;>intro hc<;>try simp only [vL] at hc)|refine vJ fun hg=>?_|refine vT ?_|(refine vQ ?_ fun x hx=>?_;·omega)|((first|refine vO ?_ ?_|refine vP ?_ ?_);·omega)|fail));all_goals try conv=>whnf
    all_goals first|(exfalso;omega)|skip
    rw [← hz];rfl
theorem zu4 {m:KM} (hk0:zV m=0) {g:Nat} (hg1:1≤g) (hg2:(g:Int) < 2 ^ m.rel.length):Fn Tryz.prog T zju [.d (dKM m),.d (.int .i64 (g:Int))] [] (.d (dU ((zaq (fun x y=>x|||y) m g m.rel.length).getD []))) []:=by
 have h1 : ∀ x y,Fn Tryz.prog T zeJ [.d (.u64 x),.d (.u64 y)] [] (.d (.u64 (x|||y))) []:=fun x y=>by
  refine zd zt zn2 (by show 2≤8;decide) ?_
  (repeat' ((conv=>whnf);first|refine vT ?_|refine vY ?_));all_goals try conv=>whnf
 have c1:=zpH (T:=T) hk0 h1 hg1 hg2
 refine zd zt zqu (by show 2≤8;decide) ?_
 (repeat' ((conv=>whnf);first|refine vT ?_|refine yN c1 ⟨⟨rfl,rfl⟩,⟨rfl,rfl⟩,⟨rfl,rfl⟩,rfl⟩ ?_));all_goals try conv=>whnf
 rfl
theorem zwM {m:KM} (hk0:zV m=0) {g:Nat} (hg1:1≤g) (hg2:(g:Int) < 2 ^ m.rel.length):Fn Tryz.prog T zj9 [.d (dKM m),.d (.int .i64 (g:Int))] [] (.d (dU ((zaq (fun x y=>x&&&y) m g m.rel.length).getD []))) []:=by
 have h1 : ∀ x y,Fn Tryz.prog T ze1 [.d (.u64 x),.d (.u64 y)] [] (.d (.u64 (x&&&y))) []:=fun x y=>by
  refine zd zt zo2 (by show 2≤8;decide) ?_
  (repeat' ((conv=>whnf);first|refine vT ?_|refine vY ?_));all_goals try conv=>whnf
 have c1:=zpH (T:=T) hk0 h1 hg1 hg2
 refine zd zt zrO (by show 2≤8;decide) ?_
 (repeat' ((conv=>whnf);first|refine vT ?_|refine yN c1 ⟨⟨rfl,rfl⟩,⟨rfl,rfl⟩,⟨rfl,rfl⟩,rfl⟩ ?_));all_goals try conv=>whnf
 rfl
end Go.Ab
namespace Go.Ab
open Go Go.Proofs
set_option maxRecDepth 10000
set_option maxHeartbeats 4000000
variable {T:Nat→Obj→Prop}
theorem zi1 {op:BitVec 64→BitVec 64→BitVec 64} {m:KM} {g:Nat} : ∀ {k:Nat},(∃ i,i < k∧g.testBit i=true) → ∃ r,zaq op m g k=some r
 | 0,⟨i,hi,_⟩=>absurd hi (by omega)
 | k+1,⟨i,hi,hb⟩=>by
  rw [zaq]
  by_cases h:g.testBit k=true
  ·rw [if_pos h]
   cases zaq op m g k with
   | none=>exact ⟨_,rfl⟩
   | some a=>exact ⟨_,rfl⟩
  ·rw [if_neg h]
   exact zi1 ⟨i,by
    rcases Nat.lt_or_ge i k with h2|h2
    ·exact h2
    ·have:i=k:=by omega
     subst this;exact absurd hb h,hb⟩
theorem zjS {g n:Nat} (h1:1≤g) (h2:g < 2 ^ n) : ∃ i,i < n∧g.testBit i=true:=by
 obtain ⟨i,hi⟩:=Nat.exists_testBit_of_ne_zero (x:=g) (by omega)
 refine ⟨i,Nat.lt_of_not_le fun hn=>?_,hi⟩
 rw [Nat.testBit_lt_two_pow (Nat.lt_of_lt_of_le h2 (Nat.pow_le_pow_right (by decide) hn))] at hi
 exact absurd hi (by decide)
def zc2 (m:KM) (i:Int):List (BitVec 64):=m.rel.getD i.toNat []
def zdh (m:KM) (g:Int):List (BitVec 64):=(zaq (fun x y=>x|||y) m g.toNat m.rel.length).getD []
def zhD (m:KM) (g:Int):List (BitVec 64):=(zaq (fun x y=>x&&&y) m g.toNat m.rel.length).getD []
theorem zrJ {op:BitVec 64→BitVec 64→BitVec 64} {m:KM} (hg:zcC m) (hop : ∀ (x y:BitVec 64) i,(op x y).getLsbD i=true→x.getLsbD i=true∨y.getLsbD i=true) {g:Nat} : ∀ {k:Nat} {r:List (BitVec 64)},k≤m.rel.length→zaq op m g k=some r→zjN r
 | 0,_,_,h=>by cases h
 | k+1,r,hk,h=>by
  have w1:=hg.w1
  have hin:zjN (m.rel.getD k []):=fun v w hb=>by
   have hm:m.rel.getD k []∈m.rel:=by rw [List.getD,List.getElem?_eq_getElem (by omega)];exact List.getElem_mem _
   have:=hg.len _ hm
   have:=zi3 hg (i:=k) (v:=v) hb
   omega
  rw [zaq] at h
  split at h
  ·cases hz:zaq op m g k with
   | none =>
    rw [hz] at h
    have e:m.rel.getD k []=r:=Option.some.inj h
    rw [← e];exact hin
   | some a =>
    have hal:=zk4 hg (by omega) hz
    have ha:=zrJ hg hop (by omega) hz
    rw [hz] at h
    have e:=Option.some.inj h
    intro v w hb
    rw [← e,List.length_map,List.length_range]
    rw [← e] at hb
    unfold rb at hb
    by_cases hv:v < m.W.toNat
    ·rw [List.getD,List.getElem?_map,List.getElem?_range hv] at hb
     rcases hop _ _ _ hb with h1|h1
     ·have:=ha v w h1;omega
     ·have:=hin v w h1
      have hm:m.rel.getD k []∈m.rel:=by rw [List.getD,List.getElem?_eq_getElem (by omega)];exact List.getElem_mem _
      have:=hg.len _ hm
      omega
    ·rw [List.getD,List.getElem?_eq_none (by simp;omega)] at hb
     simp at hb
  ·exact zrJ hg hop (by omega) h
theorem zia {op:BitVec 64→BitVec 64→BitVec 64} {m:KM} (hk0:zV m=0) (hop : ∀ (x y:BitVec 64) i,(op x y).getLsbD i=true→x.getLsbD i=true∨y.getLsbD i=true) {g:Nat} (h1:1≤g) (h2:g < 2 ^ m.rel.length):zag ((zaq op m g m.rel.length).getD [])=0∧((zaq op m g m.rel.length).getD []).length=m.W.toNat:=by
 have hg:=za4 hk0
 have w2:=hg.w2
 obtain ⟨r,hr⟩:=zi1 (op:=op) (m:=m) (zjS h1 h2)
 have hl:=zk4 hg (Nat.le_refl _) hr
 rw [hr]
 exact ⟨zbt.2 ⟨by show r.length≤64;omega,zrJ hg hop (Nat.le_refl _) hr⟩,hl⟩
theorem zui : ∀ (x y:BitVec 64) (i:Nat),(x|||y).getLsbD i=true→x.getLsbD i=true∨y.getLsbD i=true:=fun x y i h=>by
 rwa [BitVec.getLsbD_or,Bool.or_eq_true] at h
theorem zuC : ∀ (x y:BitVec 64) (i:Nat),(x&&&y).getLsbD i=true→x.getLsbD i=true∨y.getLsbD i=true:=fun x y i h=>by
 rw [BitVec.getLsbD_and,Bool.and_eq_true] at h
 exact .inl h.1
noncomputable def zaR (m:KM) (h:Hd) (x y:BitVec 64):BitVec 64×Bool :=
 if h.op=1 then (zM m.W,true) else if h.op=2 then (0#64,true) else if h.op=3 then (if (m.val.length:Int)≤h.i then (0#64,false) else (m.val.getD h.i.toNat 0#64,true)) else
 if h.op=4 then (zM m.W &&& ~~~x,true) else if h.op=5 then (x&&&y,true) else if h.op=6 then (x|||y,true) else if h.op=7 then (zM m.W &&& ~~~x|||y,true) else if h.op=8 then (zM m.W &&& ~~~(x ^^^ y),true) else
 if h.op=9 then (if (m.rel.length:Int)≤h.i then (0#64,false) else (zeb (zc2 m h.i) x,true)) else if h.op=10 then (if (m.rel.length:Int)≤h.i then (0#64,false) else (zms (zc2 m h.i) x,true)) else
 if h.op=11 then (if (2:Int) ^ m.rel.length≤h.g then (0#64,false) else (zeb (zdh m h.g) x,true)) else if h.op=12 then (if (2:Int) ^ m.rel.length≤h.g then (0#64,false) else (zeb (zhD m h.g) x,true)) else
 if h.op=13 then (if (2:Int) ^ m.rel.length≤h.g then (0#64,false) else (zmq (zdh m h.g) x y,true)) else (0#64,false)
end Go.Ab
namespace Go.Ab
open Go Go.Proofs
set_option maxRecDepth 10000
set_option maxHeartbeats 4000000
variable {T:Nat→Obj→Prop}
theorem zwn {W:Int} (h1:1≤W) (h2:W≤64):(18446744073709551615#64) >>> (64 - W).toNat=zM W:=by
 apply BitVec.eq_of_getLsbD_eq
 intro i hi
 rw [zbT (by omega) hi,BitVec.getLsbD_ushiftRight,show (18446744073709551615#64)=BitVec.allOnes 64 from rfl,BitVec.getLsbD_allOnes,Bool.eq_iff_iff]
 simp only [decide_eq_true_eq]
 omega
theorem zu2 {m:KM} (hk0:zV m=0) (op i e:Int) (g:Nat) (nx ny:Int) (s t:BitVec 64) (h3:op=3∨op=9∨op=10→0≤i) (hg1:11≤op∧op≤13→1≤g) :
  Fn Tryz.prog T zeI [.d (dKM m),.d (.agg [.int .i64 op,.int .i64 i,.int .i64 e,.int .i64 (g:Int),.int .i64 nx,.int .i64 ny]),.d (.u64 s),.d (.u64 t)] [] (.d (.tup [.u64 (zaR m ⟨op,i,e,(g:Int)⟩ s t).1,.bool (zaR m ⟨op,i,e,(g:Int)⟩ s t).2])) []:=by
 have gm:=za4 hk0
 have w1:=gm.w1
 have w2:=gm.w2
 have n4:=gm.n4
 have hsh:=zwn w1 w2
 refine zd zt znV (by show 4≤129;decide) ?_
 have hrow : ∀ {r:List (BitVec 64)},m.rel[i.toNat]? = some r→0≤i→i < m.rel.length→zag r=0∧zc2 m i=r:=fun {r} h h0 h1=>by
  have e:zc2 m i=r:=by unfold zc2;rw [List.getD,h];rfl
  have hm:=List.mem_of_getElem? h
  have h2:=gm.len _ hm
  refine ⟨zbt.2 ⟨by show r.length≤64;omega,fun v w hb=>?_⟩,e⟩
  rw [← e] at hb
  have:w < m.W.toNat:=zi3 gm (i:=i.toNat) (v:=v) hb
  omega
 have cgx:=fun h1 h2=>zu4 (T:=T) hk0 (g:=g) h1 h2
 have cmx:=fun h1 h2=>zwM (T:=T) hk0 (g:=g) h1 h2
 have hp2:(1 * 2 ^ min ((m.rel.length:Nat):Int).toNat IntKind.i64.bits:Int)=(2:Int) ^ m.rel.length:=by
  rw [show min ((m.rel.length:Nat):Int).toNat IntKind.i64.bits=m.rel.length from Nat.min_eq_left (show m.rel.length≤64 by omega)];omega
 have key : ∀ {a:BitVec 64×Bool} {o:Option D},o=some (D.tup [.u64 a.1,.bool a.2]) → ∀ {b:BitVec 64×Bool},a=b→o=some (D.tup [.u64 b.1,.bool b.2]):=fun h b e=>e▸h
 have hp1:inR .i64 (1 * 2 ^ min ((m.rel.map dU).length:Int).toNat IntKind.i64.bits:Int):=by
  rw [List.length_map]
  have:m.rel.length=0∨m.rel.length=1∨m.rel.length=2∨m.rel.length=3∨m.rel.length=4:=by omega
  rcases this with h|h|h|h|h<;>rw [h]<;>decide
 have hl2:(m.rel.map dU).length=m.rel.length:=List.length_map ..
 have hgg:11≤op∧op≤13→(g:Int) < 2 ^ m.rel.length→1≤g∧(g:Int) < 2 ^ m.rel.length:=fun h1 h2=>⟨hg1 h1,h2⟩
 have hgn:(g:Int) < 2 ^ m.rel.length→g < 2 ^ m.rel.length:=fun h=>by
  have:((2 ^ m.rel.length:Nat):Int)=(2:Int) ^ m.rel.length:=by simp
  omega
 have hgr:1≤g→(g:Int) < 2 ^ m.rel.length→zag (zdh m (g:Int))=0:=fun h1 h2=>(zia hk0 zui h1 (hgn h2)).1
 have hgl:1≤g→(g:Int) < 2 ^ m.rel.length→(((zdh m (g:Int)).length:Nat):Int)=m.W:=fun h1 h2=>by
  have:=(zia hk0 zui h1 (hgn h2)).2
  rw [show (zdh m (g:Int)).length=m.W.toNat from this];omega
 have hmr:1≤g→(g:Int) < 2 ^ m.rel.length→zag (zhD m (g:Int))=0:=fun h1 h2=>(zia hk0 zuC h1 (hgn h2)).1
 (repeat' ((conv=>whnf);first|refine vA ?_|(refine vF ?_ ?_<;>intro hc<;>try simp only [vL] at hc)|refine vJ fun hg=>?_|refine vT ?_|((first|refine vO ?_ ?_|refine vS ?_ fun x hx=>?_|refine vP ?_ ?_);·omega)|(refine vU ?_ ?_;·kernel_rfl)|fail));all_goals try conv=>whnf
 all_goals first|(exfalso;omega)|(simp only [zaR, *,if_true,if_false];rfl)|skip
 ·refine key (a:=(zM m.W,true)) (by rw [← hsh];rfl) ?_
  simp only [zaR, *,if_true]
 ·refine key (a:=(x,true)) rfl ?_
  simp only [zaR, *,if_true,if_false,show ¬(m.val.length:Int)≤i by omega,List.getD];simp
 ·refine key (a:=(zM m.W &&& ~~~s,true)) (by rw [← hsh];rfl) ?_
  simp only [zaR, *,if_true,if_false];simp
 ·refine key (a:=(zM m.W &&& ~~~s|||t,true)) (by rw [← hsh];rfl) ?_
  simp only [zaR, *,if_true,if_false];simp
 ·refine key (a:=(zM m.W &&& ~~~(s ^^^ t),true)) (by rw [← hsh];rfl) ?_
  simp only [zaR, *,if_true,if_false];simp
 ·obtain ⟨r1,r2⟩:=hrow hx (by omega) (by omega)
  refine zT.data (zfz (r:=x) s r1) (by (repeat refine ⟨⟨rfl,rfl⟩,?_⟩);rfl) rfl ?_
  (repeat' ((conv=>whnf);refine vT ?_));all_goals try conv=>whnf
  refine key (a:=(zeb x s,true)) rfl ?_
  simp only [zaR, *,if_true,if_false,show ¬(m.rel.length:Int)≤i by omega];simp
 ·obtain ⟨r1,r2⟩:=hrow hx (by omega) (by omega)
  refine zT.data (zqr (r:=x) s r1) (by (repeat refine ⟨⟨rfl,rfl⟩,?_⟩);rfl) rfl ?_
  (repeat' ((conv=>whnf);refine vT ?_));all_goals try conv=>whnf
  refine key (a:=(zms x s,true)) rfl ?_
  have h10:op=10:=by omega
  subst h10
  rw [show zaR m ⟨10,i,e,(g:Int)⟩ s t=(zms (zc2 m i) s,true) from if_neg (show ¬(m.rel.length:Int)≤i by omega),r2]
 ·refine ziG.fit hp1 ?_
  (repeat' ((conv=>whnf);first|refine vA ?_|(refine vF ?_ ?_<;>intro hc<;>try simp only [vL] at hc)|refine vT ?_|(refine vU ?_ ?_;·kernel_rfl)|fail));all_goals try conv=>whnf
  all_goals first|(exfalso;omega)|skip
  ·refine key (a:=(0#64,false)) rfl ?_
   obtain rfl:op=11:=by omega
   exact (if_pos (show (2:Int) ^ m.rel.length≤(g:Int) by rw [← hp2];assumption)).symm
  ·obtain ⟨g1,g2⟩:=hgg (by omega) (by rw [← hp2];assumption)
   have c1:=cgx g1 g2
   have r1:=hgr g1 g2
   change Fn _ _ _ _ _ (.d (dU (zdh m (g:Int)))) _ at c1
   generalize hG:zdh m (g:Int)=G at c1 r1
   refine zT.dataN (c1) (by (repeat refine ⟨⟨rfl,rfl⟩,?_⟩);rfl) ?_
   (repeat' ((conv=>whnf);first|refine vA ?_|(refine vF ?_ ?_<;>intro hc)|refine vT ?_));all_goals try conv=>whnf
   all_goals first|(exfalso;omega)|skip
   refine zT.data (zfz (r:=G) s r1) (by (repeat refine ⟨⟨rfl,rfl⟩,?_⟩);rfl) rfl ?_
   (repeat' ((conv=>whnf);refine vT ?_));all_goals try conv=>whnf
   subst hG
   refine key (a:=(zeb (zdh m (g:Int)) s,true)) rfl ?_
   obtain rfl:op=11:=by omega
   exact (if_neg (show ¬(2:Int) ^ m.rel.length≤(g:Int) by omega)).symm
 ·refine ziG.fit hp1 ?_
  (repeat' ((conv=>whnf);first|refine vA ?_|(refine vF ?_ ?_<;>intro hc<;>try simp only [vL] at hc)|refine vT ?_|(refine vU ?_ ?_;·kernel_rfl)|fail));all_goals try conv=>whnf
  all_goals first|(exfalso;omega)|skip
  ·refine key (a:=(0#64,false)) rfl ?_
   obtain rfl:op=12:=by omega
   exact (if_pos (show (2:Int) ^ m.rel.length≤(g:Int) by rw [← hp2];assumption)).symm
  ·obtain ⟨g1,g2⟩:=hgg (by omega) (by rw [← hp2];assumption)
   have c1:=cmx g1 g2
   have r1:=hmr g1 g2
   change Fn _ _ _ _ _ (.d (dU (zhD m (g:Int)))) _ at c1
   generalize hG:zhD m (g:Int)=G at c1 r1
   refine zT.dataN (c1) (by (repeat refine ⟨⟨rfl,rfl⟩,?_⟩);rfl) ?_
   (repeat' ((conv=>whnf);refine vT ?_));all_goals try conv=>whnf
   all_goals first|(exfalso;omega)|skip
   refine zT.data (zfz (r:=G) s r1) (by (repeat refine ⟨⟨rfl,rfl⟩,?_⟩);rfl) rfl ?_
   (repeat' ((conv=>whnf);refine vT ?_));all_goals try conv=>whnf
   subst hG
   refine key (a:=(zeb (zhD m (g:Int)) s,true)) rfl ?_
   obtain rfl:op=12:=by omega
   exact (if_neg (show ¬(2:Int) ^ m.rel.length≤(g:Int) by omega)).symm
 ·refine ziG.fit hp1 ?_
  (repeat' ((conv=>whnf);first|refine vA ?_|(refine vF ?_ ?_<;>intro hc<;>try simp only [vL] at hc)|refine vT ?_|(refine vU ?_ ?_;·kernel_rfl)|fail));all_goals try conv=>whnf
  all_goals first|(exfalso;omega)|skip
  ·refine key (a:=(0#64,false)) rfl ?_
   obtain rfl:op=13:=by omega
   exact (if_pos (show (2:Int) ^ m.rel.length≤(g:Int) by rw [← hp2];assumption)).symm
  ·obtain ⟨g1,g2⟩:=hgg (by omega) (by rw [← hp2];assumption)
   have c1:=cgx g1 g2
   have r1:=hgr g1 g2
   have l1:=hgl g1 g2
   change Fn _ _ _ _ _ (.d (dU (zdh m (g:Int)))) _ at c1
   generalize hG:zdh m (g:Int)=G at c1 r1 l1
   refine zT.dataN (c1) (by (repeat refine ⟨⟨rfl,rfl⟩,?_⟩);rfl) ?_
   (repeat' ((conv=>whnf);first|refine vA ?_|(refine vF ?_ ?_<;>intro hc)|refine vT ?_));all_goals try conv=>whnf
   all_goals first|(exfalso;omega)|skip
   have hcm:=zu1 (T:=T) (r:=G) s t r1
   rw [l1,← hsh] at hcm
   refine zT.data (hcm) (by (repeat refine ⟨⟨rfl,rfl⟩,?_⟩);rfl) rfl ?_
   (repeat' ((conv=>whnf);refine vT ?_));all_goals try conv=>whnf
   subst hG
   refine key (a:=(zmq (zdh m (g:Int)) s t,true)) rfl ?_
   obtain rfl:op=13:=by omega
   exact (if_neg (show ¬(2:Int) ^ m.rel.length≤(g:Int) by omega)).symm
 all_goals skip
end Go.Ab
namespace Go.Ab
open Go Go.Proofs
set_option maxRecDepth 10000
set_option maxHeartbeats 4000000
variable {T:Nat→Obj→Prop}
theorem zop {β:Type} (v:Hd→β→β→β) (d:β) (n:Nd) : ∀ (l:List Nd) (acc:List β),zam v d (l++[n]) acc=zam v d l acc++[v n.hd ((zam v d l acc).getD n.x.toNat d) ((zam v d l acc).getD n.y.toNat d)]
 | [],acc=>rfl
 | m::r,acc=>by rw [List.cons_append,zam,zam,zop v d n r]
theorem zmC {α:Type} (l:List α) (n:Nat) (d:α) (i:Nat):(l++List.replicate n d).getD i d=l.getD i d:=by
 rcases Nat.lt_or_ge i l.length with h|h
 ·simp [List.getD,List.getElem?_append_left h]
 ·rw [List.getD,List.getElem?_append_right h,List.getD,List.getElem?_eq_none h]
  rcases Nat.lt_or_ge (i - l.length) n with h2|h2
  ·rw [List.getElem?_replicate,if_pos h2];rfl
  ·rw [List.getElem?_eq_none (by simpa using h2)]
noncomputable def vnK (m:KM) (h:Hd) (a b:BitVec 64×Bool):BitVec 64×Bool :=
 if (4≤h.op→a.2=true)∧(5≤h.op∧h.op≤8∨h.op=13→b.2=true) then zaR m h a.1 b.1 else (0#64,false)
noncomputable def zX (m:KM) (f:List Nd) (k:Nat):List (BitVec 64×Bool):=zam (vnK m) (0#64,false) (f.take k) []++List.replicate (f.length - k) (0#64,false)
theorem zvJ (m:KM) (f:List Nd) {k:Nat} (hk:k≤f.length):(zX m f k).length=f.length:=by
 unfold zX
 rw [List.length_append,zfb,List.length_replicate,List.length_take];simp;omega
theorem zur (m:KM) {f:List Nd} {k:Nat} {n:Nd} (hn:f[k]? = some n):zX m f (k+1)=(zX m f k).set k (vnK m n.hd ((zX m f k).getD n.x.toNat (0#64,false)) ((zX m f k).getD n.y.toNat (0#64,false))):=by
 have hk:k < f.length:=(List.getElem?_eq_some_iff.1 hn).1
 have hl:(zam (vnK m) (0#64,false) (f.take k) []).length=k:=by rw [zfb];simp;omega
 have e:f.length - k=(f.length - (k+1))+1:=by omega
 unfold zX
 rw [zmC,zmC,List.take_add_one,hn,show (some n).toList=[n] from rfl,zop,e,List.replicate_succ,List.set_append_right _ _ (by omega),hl,Nat.sub_self,List.set_cons_zero,List.append_assoc]
 rfl
theorem zol (m:KM) (f:List Nd):zX m f 0=List.replicate f.length (0#64,false):=rfl
theorem zvI (m:KM) (f:List Nd):zX m f f.length=zam (vnK m) (0#64,false) f []:=by
 unfold zX
 rw [List.take_length,Nat.sub_self];simp
def zby (m:KM) (f:List Nd):Int :=
 if zV m≠0 then zV m else if zbh f≠0 then zbh f else if zaz .i64 (fun p q=>p &&& ~~~q) (uni zbj (cL f):Int) 15≠0 then 10 else if zdK f m.rel.length m.val.length=false then 2 else 0
theorem zix {m:KM} {f:List Nd} (h:zby m f=0):zV m=0∧zbh f=0∧zaz .i64 (fun p q=>p &&& ~~~q) (uni zbj (cL f):Int) 15=0∧zdK f m.rel.length m.val.length=true:=by
 unfold zby at h
 split at h
 ·contradiction
 ·split at h
  ·contradiction
  ·split at h
   ·cases h
   ·split at h
    ·cases h
    ·rename_i h1 h2 h3 h4
     exact ⟨by omega,by omega,by omega,by simpa using h4⟩
noncomputable def zhr (m:KM) (f:List Nd):List (BitVec 64):=if zby m f≠0 then [] else (zam (vnK m) (0#64,false) f []).map Prod.fst
noncomputable def zas (m:KM) (f:List Nd):BitVec 64×Int:=if zby m f≠0 then (0#64,zby m f) else (((zam (vnK m) (0#64,false) f []).getD (f.length - 1) (0#64,false)).1,0)
theorem zf7 {m:KM} {f:List Nd} (h:zby m f≠0):zas m f=(0#64,zby m f):=if_pos h
theorem zsK (m:KM) (f:List Nd):Fn Tryz.prog T zfP [.d (dKM m),.d (dF f)] [] (.d (.int .i64 (zby m f))) []:=by
 refine zd zt zlt (by show 2≤30;decide) ?_
 (repeat' ((conv=>whnf);first|refine vA ?_|refine vE ?_|((first|refine vD ?_ ?_|refine vI ?_ ?_)<;>intro hc<;>try simp only [vL] at hc)|refine vJ fun hg=>?_|refine vT ?_|refine vX ?_|refine yD (zki _) ⟨⟨rfl,rfl⟩,rfl⟩ rfl ?_|refine yD (zhg _) ⟨⟨rfl,rfl⟩,rfl⟩ rfl ?_|refine yD (zry _) ⟨⟨rfl,rfl⟩,rfl⟩ rfl ?_|refine yD (ztc _ _ _) ⟨⟨rfl,rfl⟩,⟨rfl,rfl⟩,⟨rfl,rfl⟩,rfl⟩ rfl ?_));all_goals try conv=>whnf
 ·have e:zby m f=zV m:=if_pos ‹_›
  rw [e]
 ·have e:zby m f=zbh f:=by rw [zby,if_neg (by omega),if_pos ‹_›]
  rw [e]
 ·have e:zby m f=10:=by rw [zby,if_neg (by omega),if_neg (by omega),if_pos ‹_›]
  rw [e]
 ·have e:zby m f=0:=by rw [zby,if_neg (by omega),if_neg (by omega),if_neg (by omega),if_neg (by simp [*])]
  rw [e]
 ·have e:zby m f=2:=by rw [zby,if_neg (by omega),if_neg (by omega),if_neg (by omega),if_pos ‹_›]
  rw [e]
theorem zt3 {m:KM} (hk0:zV m=0) {n:Nd} {k:Int} (hn:zdD n k=0) (s t:BitVec 64) :
  Fn Tryz.prog T zeI [.d (dKM m),.d (dNd n),.d (.u64 s),.d (.u64 t)] [] (.d (.tup [.u64 (zaR m n.hd s t).1,.bool (zaR m n.hd s t).2])) []:=by
 have hh:=(zbX.1 hn).1
 have hg:0≤n.g∧(11≤n.op∧n.op≤13→1≤n.g):=by
  cases hg:zH n.op with
  | true=>have:1≤n.g∧n.g≤15:=hh.group hg;omega
  | false =>
   have:n.g=0:=hh.g0 hg
   have h2 : ¬(11≤n.op∧n.op≤13):=by simpa [zH] using hg
   omega
 have h3:n.op=3∨n.op=9∨n.op=10→0≤n.i:=fun e=>by
  rcases e with e|e|e
  ·have:0≤n.i∧n.i≤7:=hh.fact (decide_eq_true e)
   omega
  ·have:0≤n.i∧n.i≤3:=hh.agent (decide_eq_true (.inl e))
   omega
  ·have:0≤n.i∧n.i≤3:=hh.agent (decide_eq_true (.inr (.inl e)))
   omega
 clear hh hn
 obtain ⟨op,i,e,g,nx,ny⟩:=n
 dsimp only at hg h3
 obtain ⟨G,rfl⟩ : ∃ G:Nat,g=(G:Int):=⟨g.toNat,by omega⟩
 exact zu2 hk0 op i e G nx ny s t h3 (fun h=>by have:=hg.2 h;omega)
theorem zwK (m:KM) (f:List Nd):Fn Tryz.prog T zhU [.d (dKM m),.d (dF f)] [] (.d (.tup [dU (zhr m f),.int .i64 (zby m f)])) []:=by
 have cq:=zsK (T:=T) m f
 refine zd zt zoZ (by show 2≤85;decide) ?_
 by_cases hr:zby m f=0
 ·obtain ⟨hk0,hf0,-,-⟩:=zix hr
  obtain ⟨p1,p2,p3⟩:=zdI.1 hf0
  rw [hr] at cq ⊢
  (repeat' ((conv=>whnf);first|refine vA ?_|refine vH ?_|refine vJ fun hg=>?_|refine vT ?_|(refine vP ?_ ?_;·(simp only [vM] at *;omega))|refine yD cq ⟨⟨rfl,rfl⟩,⟨rfl,rfl⟩,rfl⟩ rfl ?_));all_goals try conv=>whnf
  refine zA (fun ((k,zs,bs):Nat×List D×List D)=>[(2,.ptr 0 0),(7,.own 1),(8,.own 2),(24,.d (dF f)),(25,.d (.int .i64 (((f.map dNd).length:Int)))),(26,.d (.int .i64 ((k:Int))))]) (fun ((k,zs,bs):Nat×List D×List D)=>[(0,some (znl m)),(1,some (.row 1 zs)),(2,some (.row 1 bs))]) 3 (fun ((k,zs,bs):Nat×List D×List D)=>k≤f.length∧zs=(zX m f k).map (fun p=>D.u64 p.1)∧bs=(zX m f k).map (fun p=>D.bool p.2)) (fun ((k,zs,bs):Nat×List D×List D)=>f.length - k) ((0,List.replicate ((f.map dNd).length:Int).toNat (.u64 0#64),List.replicate ((f.map dNd).length:Int).toNat (.bool false))) [(0,0),(1,1),(2,2)] [] (⟨by omega,by rw [zol,List.map_replicate,Int.toNat_natCast,List.length_map],by rw [zol,List.map_replicate,Int.toNat_natCast,List.length_map]⟩) (by (refine ⟨rfl,rfl,rfl,?_,?_⟩;repeat' first|exact trivial|exact rfl|refine And.intro ?_ ?_|refine ⟨_,rfl,?_⟩|decide)) ?_
  rintro ⟨k,zs,bs⟩ ⟨hk,rfl,rfl⟩
  have hlen:=zvJ m f hk
  have hl1:((zX m f k).map fun p=>D.u64 p.1).length=f.length:=by rw [List.length_map,hlen]
  have hl2:((zX m f k).map fun p=>D.bool p.2).length=f.length:=by rw [List.length_map,hlen]
  by_cases hkl:k < f.length
  ·obtain ⟨n,hn⟩ : ∃ n,f[k]? = some n:=⟨f[k],by simp [hkl]⟩
   have hst:=zur m hn
   have hne:=p3 k n hn
   have hxy:=zbX.1 hne
   have hxb:0≤n.x∧n.x < f.length:=by
    cases hu:zak n.op with
    | true=>have:=hxy.2.1 hu;omega
    | false=>have:=hxy.2.2.1 hu;omega
   have hyb:0≤n.y∧n.y < f.length:=by
    cases hu:zae n.op with
    | true=>have:=hxy.2.2.2.1 hu;omega
    | false=>have:=hxy.2.2.2.2 hu;omega
   clear hxy
   have yes : ∀ {a b:BitVec 64×Bool},(zX m f k)[n.x.toNat]? = some a→(zX m f k)[n.y.toNat]? = some b→(4≤n.op→a.2=true)→(5≤n.op∧n.op≤8∨n.op=13→b.2=true)→zX m f (k+1)=(zX m f k).set k (zaR m n.hd a.1 b.1):=fun {a b} ha hb h1 h2=>by
    rw [hst,List.getD,ha,List.getD,hb]
    exact congrArg ((zX m f k).set k) (if_pos ⟨h1,h2⟩)
   have no:(∀ {a b:BitVec 64×Bool},(zX m f k)[n.x.toNat]? = some a→(zX m f k)[n.y.toNat]? = some b → ¬((4≤n.op→a.2=true)∧(5≤n.op∧n.op≤8∨n.op=13→b.2=true)))→zX m f (k+1)=zX m f k:=fun h=>by
    obtain ⟨a,ha⟩ : ∃ a,(zX m f k)[n.x.toNat]? = some a:=⟨_,List.getElem?_eq_getElem (by omega)⟩
    obtain ⟨b,hb⟩ : ∃ b,(zX m f k)[n.y.toNat]? = some b:=⟨_,List.getElem?_eq_getElem (by omega)⟩
    rw [hst,List.getD,ha,List.getD,hb]
    have e:vnK m n.hd a b=(0#64,false):=if_neg (h ha hb)
    rw [show vnK m n.hd ((some a).getD (0#64,false)) ((some b).getD (0#64,false))=(0#64,false) from e]
    refine List.ext_getElem (by simp) fun i h1 h2=>?_
    rw [List.getElem_set]
    split
    ·rename_i e2
     subst e2
     have:=zmC (zam (vnK m) (0#64,false) (f.take k) []) (f.length - k) (0#64,false) k
     rw [List.getD,List.getD,List.getElem?_eq_none (show (zam (vnK m) (0#64,false) (f.take k) []).length≤k by rw [zfb,List.length_take];simp;omega)] at this
     rw [show zam (vnK m) (0#64,false) (f.take k) []++List.replicate (f.length - k) (0#64,false)=zX m f k from rfl,List.getElem?_eq_getElem h2] at this
     exact this.symm
    ·rfl
   (repeat' ((conv=>whnf);first|refine vA ?_|((first|refine vF ?_ ?_|refine vI ?_ ?_)<;>intro hc<;>try simp only [vL] at hc)|refine vT ?_|refine vN ‹_› ?_|(refine vQ ?_ fun x hx=>?_;·omega)|((first|refine vO ?_ ?_|refine vP ?_ ?_);·omega)|(refine vU ?_ ?_;·kernel_rfl)|refine yN (zt3 hk0 hne _ _) (by (repeat refine ⟨⟨rfl,rfl⟩,?_⟩);rfl) ?_));all_goals try conv=>whnf
   all_goals first|(exfalso;omega)|skip
   ·refine ⟨(k+1,_,_),[(0,0),(1,1),(2,2)],[],?_,?_,by (refine ⟨rfl,rfl,rfl,?_,?_⟩;repeat' first|exact trivial|exact rfl|refine And.intro ?_ ?_|refine ⟨_,rfl,?_⟩|decide)⟩
    ·have e:=yes ‹(zX m f k)[n.x.toNat]? = some _› ‹(zX m f k)[n.y.toNat]? = some _› (fun _=>by first|assumption|(exfalso;omega)) (fun _=>by first|assumption|(exfalso;omega))
     exact ⟨by (omega),by rw [e,List.map_set];rfl,by rw [e,List.map_set];rfl⟩
    ·((simp only [vM] at *;omega))
   ·refine ⟨(k+1,_,_),[(0,0),(1,1),(2,2)],[],?_,?_,by (refine ⟨rfl,rfl,rfl,?_,?_⟩;repeat' first|exact trivial|exact rfl|refine And.intro ?_ ?_|refine ⟨_,rfl,?_⟩|decide)⟩
    ·have hX:=‹(zX m f k)[n.y.toNat]? = some _›
     have e:=no fun {a b} ha hb hv=>by
      have e1:=Option.some.inj (hb.symm.trans hX)
      have e2:=hv.2 (by omega)
      rw [e1] at e2
      exact absurd (e2.symm.trans ‹_=false›) (by decide)
     exact ⟨by (omega),by rw [e],by rw [e]⟩
    ·((simp only [vM] at *;omega))
   ·refine ⟨(k+1,_,_),[(0,0),(1,1),(2,2)],[],?_,?_,by (refine ⟨rfl,rfl,rfl,?_,?_⟩;repeat' first|exact trivial|exact rfl|refine And.intro ?_ ?_|refine ⟨_,rfl,?_⟩|decide)⟩
    ·have hX:=‹(zX m f k)[n.x.toNat]? = some _›
     have e:=no fun {a b} ha hb hv=>by
      have e1:=Option.some.inj (ha.symm.trans hX)
      have e2:=hv.1 (by omega)
      rw [e1] at e2
      exact absurd (e2.symm.trans ‹_=false›) (by decide)
     exact ⟨by (omega),by rw [e],by rw [e]⟩
    ·((simp only [vM] at *;omega))
   ·refine ⟨(k+1,_,_),[(0,0),(1,1),(2,2)],[],?_,?_,by (refine ⟨rfl,rfl,rfl,?_,?_⟩;repeat' first|exact trivial|exact rfl|refine And.intro ?_ ?_|refine ⟨_,rfl,?_⟩|decide)⟩
    ·have e:=yes ‹(zX m f k)[n.x.toNat]? = some _› ‹(zX m f k)[n.y.toNat]? = some _› (fun _=>by first|assumption|(exfalso;omega)) (fun _=>by first|assumption|(exfalso;omega))
     exact ⟨by (omega),by rw [e,List.map_set];rfl,by rw [e,List.map_set];rfl⟩
    ·((simp only [vM] at *;omega))
   ·refine ⟨(k+1,_,_),[(0,0),(1,1),(2,2)],[],?_,?_,by (refine ⟨rfl,rfl,rfl,?_,?_⟩;repeat' first|exact trivial|exact rfl|refine And.intro ?_ ?_|refine ⟨_,rfl,?_⟩|decide)⟩
    ·have hX:=‹(zX m f k)[n.y.toNat]? = some _›
     have e:=no fun {a b} ha hb hv=>by
      have e1:=Option.some.inj (hb.symm.trans hX)
      have e2:=hv.2 (by omega)
      rw [e1] at e2
      exact absurd (e2.symm.trans ‹_=false›) (by decide)
     exact ⟨by (omega),by rw [e],by rw [e]⟩
    ·((simp only [vM] at *;omega))
   ·refine ⟨(k+1,_,_),[(0,0),(1,1),(2,2)],[],?_,?_,by (refine ⟨rfl,rfl,rfl,?_,?_⟩;repeat' first|exact trivial|exact rfl|refine And.intro ?_ ?_|refine ⟨_,rfl,?_⟩|decide)⟩
    ·have hX:=‹(zX m f k)[n.x.toNat]? = some _›
     have e:=no fun {a b} ha hb hv=>by
      have e1:=Option.some.inj (ha.symm.trans hX)
      have e2:=hv.1 (by omega)
      rw [e1] at e2
      exact absurd (e2.symm.trans ‹_=false›) (by decide)
     exact ⟨by (omega),by rw [e],by rw [e]⟩
    ·((simp only [vM] at *;omega))
   ·refine ⟨(k+1,_,_),[(0,0),(1,1),(2,2)],[],?_,?_,by (refine ⟨rfl,rfl,rfl,?_,?_⟩;repeat' first|exact trivial|exact rfl|refine And.intro ?_ ?_|refine ⟨_,rfl,?_⟩|decide)⟩
    ·have e:=yes ‹(zX m f k)[n.x.toNat]? = some _› ‹(zX m f k)[n.y.toNat]? = some _› (fun _=>by first|assumption|(exfalso;omega)) (fun _=>by first|assumption|(exfalso;omega))
     exact ⟨by (omega),by rw [e,List.map_set];rfl,by rw [e,List.map_set];rfl⟩
    ·((simp only [vM] at *;omega))
   ·refine ⟨(k+1,_,_),[(0,0),(1,1),(2,2)],[],?_,?_,by (refine ⟨rfl,rfl,rfl,?_,?_⟩;repeat' first|exact trivial|exact rfl|refine And.intro ?_ ?_|refine ⟨_,rfl,?_⟩|decide)⟩
    ·have hX:=‹(zX m f k)[n.x.toNat]? = some _›
     have e:=no fun {a b} ha hb hv=>by
      have e1:=Option.some.inj (ha.symm.trans hX)
      have e2:=hv.1 (by omega)
      rw [e1] at e2
      exact absurd (e2.symm.trans ‹_=false›) (by decide)
     exact ⟨by (omega),by rw [e],by rw [e]⟩
    ·((simp only [vM] at *;omega))
   ·refine ⟨(k+1,_,_),[(0,0),(1,1),(2,2)],[],?_,?_,by (refine ⟨rfl,rfl,rfl,?_,?_⟩;repeat' first|exact trivial|exact rfl|refine And.intro ?_ ?_|refine ⟨_,rfl,?_⟩|decide)⟩
    ·have e:=yes ‹(zX m f k)[n.x.toNat]? = some _› ‹(zX m f k)[n.y.toNat]? = some _› (fun _=>by first|assumption|(exfalso;omega)) (fun _=>by first|assumption|(exfalso;omega))
     exact ⟨by (omega),by rw [e,List.map_set];rfl,by rw [e,List.map_set];rfl⟩
    ·((simp only [vM] at *;omega))
   ·refine ⟨(k+1,_,_),[(0,0),(1,1),(2,2)],[],?_,?_,by (refine ⟨rfl,rfl,rfl,?_,?_⟩;repeat' first|exact trivial|exact rfl|refine And.intro ?_ ?_|refine ⟨_,rfl,?_⟩|decide)⟩
    ·have hX:=‹(zX m f k)[n.x.toNat]? = some _›
     have e:=no fun {a b} ha hb hv=>by
      have e1:=Option.some.inj (ha.symm.trans hX)
      have e2:=hv.1 (by omega)
      rw [e1] at e2
      exact absurd (e2.symm.trans ‹_=false›) (by decide)
     exact ⟨by (omega),by rw [e],by rw [e]⟩
    ·((simp only [vM] at *;omega))
   ·refine ⟨(k+1,_,_),[(0,0),(1,1),(2,2)],[],?_,?_,by (refine ⟨rfl,rfl,rfl,?_,?_⟩;repeat' first|exact trivial|exact rfl|refine And.intro ?_ ?_|refine ⟨_,rfl,?_⟩|decide)⟩
    ·have e:=yes ‹(zX m f k)[n.x.toNat]? = some _› ‹(zX m f k)[n.y.toNat]? = some _› (fun _=>by first|assumption|(exfalso;omega)) (fun _=>by first|assumption|(exfalso;omega))
     exact ⟨by (omega),by rw [e,List.map_set];rfl,by rw [e,List.map_set];rfl⟩
    ·((simp only [vM] at *;omega))
   all_goals skip
  ·obtain rfl:k=f.length:=by omega
   (repeat' ((conv=>whnf);first|refine vA ?_|((first|refine vF ?_ ?_|refine vI ?_ ?_)<;>intro hc<;>try simp only [vL] at hc)|refine vT ?_|refine vN ‹_› ?_|(refine vQ ?_ fun x hx=>?_;·omega)|((first|refine vO ?_ ?_|refine vP ?_ ?_);·omega)|fail));all_goals try conv=>whnf
   all_goals first|(exfalso;omega)|skip
   rw [zhr,if_neg (by omega),zvI]
   exact congrArg (fun l=>some (D.tup [.arr 1 l,.int .i64 0])) (List.map_map (f:=Prod.fst) (g:=D.u64)).symm
 ·(repeat' ((conv=>whnf);first|refine vA ?_|(refine vD ?_ ?_<;>intro hc)|refine vJ fun hg=>?_|refine vT ?_|(refine vP ?_ ?_;·omega)|refine yD cq ⟨⟨rfl,rfl⟩,⟨rfl,rfl⟩,rfl⟩ rfl ?_));all_goals try conv=>whnf
  ·rw [zhr,if_pos hr];rfl
  ·exact absurd hc hr
theorem zu0 (m:KM) (f:List Nd):Fn Tryz.prog T zg7 [.d (dKM m),.d (dF f)] [] (.d (.tup [.u64 (zas m f).1,.int .i64 (zas m f).2])) []:=by
 have cs:=zwK (T:=T) m f
 refine zd zt znU (by show 2≤23;decide) ?_
 by_cases hr:zby m f=0
 ·obtain ⟨hk0,hf0,-,-⟩:=zix hr
  obtain ⟨p1,p2,p3⟩:=zdI.1 hf0
  have hl:(zhr m f).length=f.length:=by rw [zhr,if_neg (by omega),List.length_map,zfb];simp
  have e:zas m f=((zhr m f).getD (f.length - 1) 0#64,0):=by
   rw [zas,zhr,if_neg (by omega),if_neg (by omega)]
   congr 1
   simp only [List.getD,List.getElem?_map]
   cases (zam (vnK m) (0#64,false) f [])[f.length - 1]? <;> rfl
  rw [hr] at cs
  rw [e]
  generalize zhr m f=S at *
  (repeat' ((conv=>whnf);first|refine vA ?_|refine vH ?_|refine vJ fun hg=>?_|refine vT ?_|((first|refine vO ?_ ?_|refine vS ?_ fun x hx=>?_);·(simp only [vM] at *;omega))|refine yN cs ⟨⟨rfl,rfl⟩,⟨rfl,rfl⟩,rfl⟩ ?_));all_goals try conv=>whnf
  all_goals first|(exfalso;omega)|skip
  have e3:S.getD (f.length - 1) 0#64=x:=by
   rw [List.getD,show f.length - 1=(((S.map D.u64).length:Int) - 1).toNat by rw [List.length_map];omega,hx];rfl
  rw [e3]
  rfl
 ·have e:=zf7 hr
  rw [e]
  (repeat' ((conv=>whnf);first|refine vA ?_|(refine vD ?_ ?_<;>intro hc)|refine vJ fun hg=>?_|refine vT ?_|((first|refine vO ?_ ?_|refine vS ?_ fun x hx=>?_);·omega)|refine yN cs ⟨⟨rfl,rfl⟩,⟨rfl,rfl⟩,rfl⟩ ?_));all_goals try conv=>whnf
  all_goals first|exact absurd ‹zby m f=0› hr|rfl
end Go.Ab
namespace Go.Ab
open Go
theorem zsm (m:KM):ztF (vnK m) where
 x h a b c hx:=by
  have hx : ¬(4≤h.op∧h.op≤21):=by simpa [zak] using hx
  unfold vnK zaR
  by_cases h4:4≤h.op
  ·have e : ∀ k:Int,k≤21 → ¬h.op=k:=fun k hk=>by omega
   simp only [e 1 (by decide),e 2 (by decide),e 3 (by decide),e 4 (by decide),e 5 (by decide),e 6 (by decide),e 7 (by decide),e 8 (by decide),e 9 (by decide),e 10 (by decide),e 11 (by decide),e 12 (by decide),e 13 (by decide),if_false,ite_self]
  ·have e : ∀ k:Int,4≤k → ¬h.op=k:=fun k hk=>by omega
   simp only [h4,e 4 (by decide),e 5 (by decide),e 6 (by decide),e 7 (by decide),e 8 (by decide),e 9 (by decide),e 10 (by decide),e 11 (by decide),e 12 (by decide),e 13 (by decide),if_false,false_imp_iff,true_and]
 y h a b c hy:=by
  have hy : ¬(5≤h.op∧h.op≤8∨h.op=13∨h.op=14∨h.op=16∨h.op=19∨h.op=21):=by simpa [zae] using hy
  have h5 : ¬(5≤h.op∧h.op≤8∨h.op=13):=by omega
  unfold vnK zaR
  simp only [h5,false_imp_iff,and_true]
  simp only [show ¬h.op=5 by omega,show ¬h.op=6 by omega,show ¬h.op=7 by omega,show ¬h.op=8 by omega,show ¬h.op=13 by omega,if_false]
def zyM (m:KM) (t:Tm) (w:Nat):Prop:=ev (zzl m.W.toNat (zaj m) fun i w=>(m.val.getD i 0#64).getLsbD w=true) (fun _=>False) t w
structure zou (m:KM) (h:Hd):Prop where
 op:1≤h.op∧h.op≤13
 fact:h.op=3→0≤h.i∧h.i < m.val.length
 agent:h.op=9∨h.op=10→0≤h.i∧h.i < m.rel.length
 group:11≤h.op∧h.op≤13→1≤h.g∧h.g.toNat < 2 ^ m.rel.length
theorem zfa {m:KM} {i:Int} {w u:Nat} (hi:0≤i∧i < m.rel.length):rb (zc2 m i) w u=true↔zcR (zaj m) i.toNat w u:=by
 have hl:i.toNat < m.rel.length:=by omega
 unfold zcR zaj zc2
 rw [List.getD,List.getElem?_eq_getElem hl]
 constructor
 ·intro h;exact ⟨_,by rw [List.getElem?_map,List.getElem?_eq_getElem hl];rfl,h⟩
 ·rintro ⟨r,h1,h2⟩
  rw [List.getElem?_map,List.getElem?_eq_getElem hl] at h1
  obtain rfl:=(Option.some.inj h1).symm
  exact h2
theorem zts {m:KM} (g:zcC m) {i:Int} (hi:0≤i∧i < m.rel.length):zag (zc2 m i)=0∧(zc2 m i).length=m.W.toNat:=by
 have hl:i.toNat < m.rel.length:=by omega
 have hm:zc2 m i∈m.rel:=by unfold zc2;rw [List.getD,List.getElem?_eq_getElem hl];exact List.getElem_mem _
 have h1:=g.len _ hm
 have w1:=g.w1
 have w2:=g.w2
 refine ⟨zbt.2 ⟨by show (zc2 m i).length≤64;omega,fun v w hb=>?_⟩,by omega⟩
 have:w < m.W.toNat:=zi3 g (i:=i.toNat) (v:=v) hb
 omega
theorem ziw {m:KM} (g:zcC m) {a w u:Nat} (h:zcR (zaj m) a w u):w < m.W.toNat∧u < m.W.toNat∧a < m.rel.length:=by
 obtain ⟨r,h1,h2⟩:=h
 have ha:a < m.rel.length:=by have:=(List.getElem?_eq_some_iff.1 h1).1;rwa [zmY] at this
 have hb:(zla m a w).getLsbD u=true:=by rw [zvC h1];exact h2
 refine ⟨?_,zi3 g hb,ha⟩
 refine Nat.lt_of_not_le fun hw=>?_
 unfold zla at hb
 rw [List.getD,List.getElem?_eq_none (by
  rw [List.getD,List.getElem?_eq_getElem ha]
  have:=g.len _ (List.getElem_mem ha)
  show (m.rel[a]).length≤w;omega)] at hb
 simp at hb
theorem zvd {m:KM} (hg:zcC m) {g:Nat} : ∀ {k:Nat},k≤m.rel.length→(zaq (fun x y=>x|||y) m g k=none → ∀ a,a < k→g.testBit a=false) ∧ ∀ r,zaq (fun x y=>x|||y) m g k=some r → ∀ w u,w < m.W.toNat→(rb r w u=true ↔ ∃ a,a < k∧g.testBit a=true∧zcR (zaj m) a w u)
 | 0,_=>⟨fun _ a h=>by omega,fun r h=>by cases h⟩
 | k+1,hk=>by
  have ih:=zvd hg (g:=g) (k:=k) (by omega)
  have hrow : ∀ w u,rb (m.rel.getD k []) w u=true↔zcR (zaj m) k w u:=fun w u=>by
   have:=zfa (m:=m) (i:=(k:Int)) (w:=w) (u:=u) ⟨by omega,by omega⟩
   rwa [zc2,Int.toNat_natCast] at this
  rw [zaq]
  by_cases hb:g.testBit k=true
  ·rw [if_pos hb]
   cases hz:zaq (fun x y=>x|||y) m g k with
   | none =>
    refine ⟨fun h=>(by cases h),fun r h w u _=>?_⟩
    obtain rfl:=(Option.some.inj h).symm
    rw [hrow]
    constructor
    ·intro h1;exact ⟨k,by omega,hb,h1⟩
    ·rintro ⟨a,h1,h2,h3⟩
     by_cases e:a=k
     ·subst e;exact h3
     ·have:=ih.1 hz a (by omega);rw [h2] at this;cases this
   | some s =>
    refine ⟨fun h=>(by cases h),fun r h w u hw=>?_⟩
    obtain rfl:=(Option.some.inj h).symm
    have e:rb ((List.range m.W.toNat).map fun w=>s.getD w 0#64|||(m.rel.getD k []).getD w 0#64) w u=(rb s w u||rb (m.rel.getD k []) w u):=by
     unfold rb
     rw [List.getD,List.getElem?_map,List.getElem?_range hw]
     show (s.getD w 0#64|||_).getLsbD u=_
     rw [BitVec.getLsbD_or]
    rw [e,Bool.or_eq_true,hrow,ih.2 s hz w u hw]
    constructor
    ·rintro (⟨a,h1,h2⟩|h1)
     ·exact ⟨a,by omega,h2⟩
     ·exact ⟨k,by omega,hb,h1⟩
    ·rintro ⟨a,h1,h2,h3⟩
     by_cases e:a=k
     ·subst e;exact .inr h3
     ·exact .inl ⟨a,by omega,h2,h3⟩
  ·rw [if_neg hb]
   have hb:g.testBit k=false:=by simpa using hb
   refine ⟨fun h a ha=>?_,fun r h w u hw=>?_⟩
   ·by_cases e:a=k
    ·subst e;exact hb
    ·exact ih.1 h a (by omega)
   ·rw [ih.2 r h w u hw]
    constructor
    ·rintro ⟨a,h1,h2⟩;exact ⟨a,by omega,h2⟩
    ·rintro ⟨a,h1,h2,h3⟩
     refine ⟨a,?_,h2,h3⟩
     rcases Nat.lt_or_ge a k with h|h
     ·exact h
     ·have:a=k:=by omega
      subst this;rw [h2] at hb;cases hb
theorem zvn {m:KM} (hg:zcC m) {g:Nat} : ∀ {k:Nat},k≤m.rel.length→(zaq (fun x y=>x&&&y) m g k=none → ∀ a,a < k→g.testBit a=false) ∧ ∀ r,zaq (fun x y=>x&&&y) m g k=some r → ∀ w u,w < m.W.toNat→(rb r w u=true ↔ ∀ a,a < k→g.testBit a=true→zcR (zaj m) a w u)
 | 0,_=>⟨fun _ a h=>by omega,fun r h=>by cases h⟩
 | k+1,hk=>by
  have ih:=zvn hg (g:=g) (k:=k) (by omega)
  have hrow : ∀ w u,rb (m.rel.getD k []) w u=true↔zcR (zaj m) k w u:=fun w u=>by
   have:=zfa (m:=m) (i:=(k:Int)) (w:=w) (u:=u) ⟨by omega,by omega⟩
   rwa [zc2,Int.toNat_natCast] at this
  rw [zaq]
  by_cases hb:g.testBit k=true
  ·rw [if_pos hb]
   cases hz:zaq (fun x y=>x&&&y) m g k with
   | none =>
    refine ⟨fun h=>(by cases h),fun r h w u _=>?_⟩
    obtain rfl:=(Option.some.inj h).symm
    rw [hrow]
    constructor
    ·intro h1 a h2 h3
     by_cases e:a=k
     ·subst e;exact h1
     ·have:=ih.1 hz a (by omega);rw [h3] at this;cases this
    ·intro h;exact h k (by omega) hb
   | some s =>
    refine ⟨fun h=>(by cases h),fun r h w u hw=>?_⟩
    obtain rfl:=(Option.some.inj h).symm
    have e:rb ((List.range m.W.toNat).map fun w=>s.getD w 0#64&&&(m.rel.getD k []).getD w 0#64) w u=(rb s w u&&rb (m.rel.getD k []) w u):=by
     unfold rb
     rw [List.getD,List.getElem?_map,List.getElem?_range hw]
     show (s.getD w 0#64&&&_).getLsbD u=_
     rw [BitVec.getLsbD_and]
    rw [e,Bool.and_eq_true,hrow,ih.2 s hz w u hw]
    constructor
    ·rintro ⟨h1,h2⟩ a h3 h4
     by_cases e:a=k
     ·subst e;exact h2
     ·exact h1 a (by omega) h4
    ·intro h;exact ⟨fun a h1 h2=>h a (by omega) h2,h k (by omega) hb⟩
  ·rw [if_neg hb]
   have hb:g.testBit k=false:=by simpa using hb
   refine ⟨fun h a ha=>?_,fun r h w u hw=>?_⟩
   ·by_cases e:a=k
    ·subst e;exact hb
    ·exact ih.1 h a (by omega)
   ·rw [ih.2 r h w u hw]
    constructor
    ·intro H a h1 h2
     refine H a ?_ h2
     rcases Nat.lt_or_ge a k with h|h
     ·exact h
     ·have:a=k:=by omega
      subst this;rw [h2] at hb;cases hb
    ·intro H a h1 h2;exact H a (by omega) h2
theorem zk6 {m:KM} (hg:zcC m) {g:Int} (h:1≤g∧g.toNat < 2 ^ m.rel.length) {w u:Nat} (hw:w < m.W.toNat):rb (zdh m g) w u=true↔ze9 m.W.toNat (zaj m) g.toNat w u:=by
 obtain ⟨r,hr⟩:=zi1 (op:=fun x y=>x|||y) (m:=m) (zjS (g:=g.toNat) (by omega) h.2)
 unfold zdh
 rw [hr,Option.getD_some,(zvd hg (Nat.le_refl _)).2 r hr w u hw]
 unfold ze9
 constructor
 ·rintro ⟨a,h1,h2,h3⟩;exact ⟨(ziw hg h3).2.1,a,h2,h3⟩
 ·rintro ⟨-,a,h2,h3⟩;exact ⟨a,(ziw hg h3).2.2,h2,h3⟩
theorem ztn {m:KM} (hg:zcC m) {g:Int} (h:1≤g∧g.toNat < 2 ^ m.rel.length) {w u:Nat} (hw:w < m.W.toNat):rb (zhD m g) w u=true ↔ ∀ a,g.toNat.testBit a=true→zcR (zaj m) a w u:=by
 obtain ⟨r,hr⟩:=zi1 (op:=fun x y=>x&&&y) (m:=m) (zjS (g:=g.toNat) (by omega) h.2)
 unfold zhD
 rw [hr,Option.getD_some,(zvn hg (Nat.le_refl _)).2 r hr w u hw]
 constructor
 ·intro H a h2
  refine H a (Nat.lt_of_not_le fun hn=>?_) h2
  rw [Nat.testBit_lt_two_pow (Nat.lt_of_lt_of_le h.2 (Nat.pow_le_pow_right (by decide) hn))] at h2
  cases h2
 ·intro H a _ h2;exact H a h2
theorem zve {m:KM} (hk0:zV m=0) {g:Int} (h:1≤g∧g.toNat < 2 ^ m.rel.length):zag (zdh m g)=0∧(zdh m g).length=m.W.toNat:=zia hk0 zui (by omega) h.2
theorem zzf {m:KM} (hk0:zV m=0) {g:Int} (h:1≤g∧g.toNat < 2 ^ m.rel.length):zag (zhD m g)=0∧(zhD m g).length=m.W.toNat:=zia hk0 zuC (by omega) h.2
theorem zl1 {r:List (BitVec 64)} (h0:zag r=0) {w u:Nat} (h:rb r w u=true):u < r.length:=(zbt.1 h0).2 w u h
theorem zre {S S':Nat→Nat→Prop} {c c':Nat→Prop} {n w:Nat} (hw:w < n) (hS : ∀ a b,a < n→S a b→b < n∧S' a b) (hc : ∀ a,a < n→c a→c' a) {u:Nat} (h:CPt S c w u):u < n∧CPt S' c' w u:=by
 induction h with
 | one a b=>exact ⟨(hS _ _ hw a).1,.one (hS _ _ hw a).2 (hc _ (hS _ _ hw a).1 b)⟩
 | more _ a b ih=>exact ⟨(hS _ _ ih.1 a).1,.more ih.2 (hS _ _ ih.1 a).2 (hc _ (hS _ _ ih.1 a).1 b)⟩
theorem zlf {m:KM} (hk0:zV m=0) {h:Hd} (hf:zou m h) {x y:BitVec 64} {X Y:Nat→Prop} (hx : ∀ u,x.getLsbD u=true↔u < m.W.toNat∧X u) (hy : ∀ u,y.getLsbD u=true↔u < m.W.toNat∧Y u) :
  (zaR m h x y).2=true ∧ ∀ w,(zaR m h x y).1.getLsbD w=true↔w < m.W.toNat∧zzl m.W.toNat (zaj m) (fun i w=>(m.val.getD i 0#64).getLsbD w=true) h X Y w:=by
 have g:=za4 hk0
 have w1:=g.w1
 have w2:=g.w2
 have hall : ∀ w,(zM m.W).getLsbD w=true↔w < m.W.toNat:=fun w=>by
  rcases Nat.lt_or_ge w 64 with h|h
  ·rw [zbT (by omega) h,decide_eq_true_eq];omega
  ·rw [BitVec.getLsbD_of_ge _ _ h];constructor
   ·intro h;cases h
   ·intro _;omega
 have hnx : ∀ (z:BitVec 64) w,w < m.W.toNat→((~~~z).getLsbD w=true ↔ ¬z.getLsbD w=true):=fun z w hw=>by
  rw [BitVec.getLsbD_not,decide_eq_true (show w < 64 by omega)];simp
 have hbox : ∀ {r:List (BitVec 64)} {Rr:Nat→Nat→Prop},zag r=0→r.length=m.W.toNat→(∀ w u,w < m.W.toNat→(rb r w u=true↔Rr w u)) → ∀ w,(zeb r x).getLsbD w=true↔w < m.W.toNat ∧ ∀ u,Rr w u→X u:=fun {r Rr} h0 hl hr w=>by
  rw [zme (by omega),hl]
  refine and_congr_right fun hw=>forall_congr' fun u=>?_
  rw [hr w u hw]
  refine forall_congr' fun hu=>?_
  rw [hx]
  have:=zl1 h0 ((hr w u hw).2 hu)
  exact ⟨fun h=>h.2,fun h=>⟨by omega,h⟩⟩
 have key : ∀ {P:Prop} {z:BitVec 64} {w:Nat},(w < m.W.toNat→(z.getLsbD w=true↔P))→(z.getLsbD w=true→w < m.W.toNat)→(z.getLsbD w=true↔w < m.W.toNat∧P):=fun h1 h2=>⟨fun h=>⟨h2 h,(h1 (h2 h)).1 h⟩,fun h=>(h1 h.1).2 h.2⟩
 have hxl : ∀ w,x.getLsbD w=true→w < m.W.toNat:=fun w h=>((hx w).1 h).1
 have hyl : ∀ w,y.getLsbD w=true→w < m.W.toNat:=fun w h=>((hy w).1 h).1
 have hxX : ∀ w,w < m.W.toNat→(x.getLsbD w=true↔X w):=fun w hw=>(hx w).trans ⟨fun h=>h.2,fun h=>⟨hw,h⟩⟩
 have hyY : ∀ w,w < m.W.toNat→(y.getLsbD w=true↔Y w):=fun w hw=>(hy w).trans ⟨fun h=>h.2,fun h=>⟨hw,h⟩⟩
 obtain ⟨o1,o2⟩:=hf.op
 have f1:=hf.fact
 have f2:=hf.agent
 have f3:=hf.group
 clear hf
 obtain ⟨op,i,e,G⟩:=h
 dsimp only at o1 o2 f1 f2 f3
 have hop:op=1∨op=2∨op=3∨op=4∨op=5∨op=6∨op=7∨op=8∨op=9∨op=10∨op=11∨op=12∨op=13:=by omega
 rcases hop with rfl|rfl|rfl|rfl|rfl|rfl|rfl|rfl|rfl|rfl|rfl|rfl|rfl
 ·refine ⟨rfl,fun w=>?_⟩
  show (zM m.W).getLsbD w=true↔w < m.W.toNat∧True
  rw [hall,and_true]
 ·refine ⟨rfl,fun w=>?_⟩
  show (0#64).getLsbD w=true↔w < m.W.toNat∧False
  simp
 ·have hi:=f1 rfl
  have hil:i.toNat < m.val.length:=by omega
  have hm:m.val.getD i.toNat 0#64∈m.val:=by rw [List.getD,List.getElem?_eq_getElem hil];exact List.getElem_mem _
  have e1:zaR m ⟨3,i,e,G⟩ x y=(m.val.getD i.toNat 0#64,true):=if_neg (show ¬(m.val.length:Int)≤i by omega)
  rw [e1]
  refine ⟨rfl,fun w=>?_⟩
  show (m.val.getD i.toNat 0#64).getLsbD w=true↔w < m.W.toNat∧(m.val.getD i.toNat 0#64).getLsbD w=true
  exact key (fun _=>Iff.rfl) fun h1=>by have:=(zeV (by omega)).1 (g.val _ hm) w h1;omega
 ·refine ⟨rfl,fun w=>?_⟩
  show (zM m.W &&& ~~~x).getLsbD w=true↔w < m.W.toNat ∧ ¬X w
  rw [BitVec.getLsbD_and,Bool.and_eq_true,hall]
  exact and_congr_right fun hw=>by rw [hnx x w hw,hxX w hw]
 ·refine ⟨rfl,fun w=>?_⟩
  show (x&&&y).getLsbD w=true↔w < m.W.toNat∧(X w∧Y w)
  rw [BitVec.getLsbD_and,Bool.and_eq_true,hx,hy]
  exact ⟨fun h=>⟨h.1.1,h.1.2,h.2.2⟩,fun h=>⟨⟨h.1,h.2.1⟩,h.1,h.2.2⟩⟩
 ·refine ⟨rfl,fun w=>?_⟩
  show (x|||y).getLsbD w=true↔w < m.W.toNat∧(X w∨Y w)
  rw [BitVec.getLsbD_or,Bool.or_eq_true,hx,hy,and_or_left]
 ·refine ⟨rfl,fun w=>?_⟩
  show (zM m.W &&& ~~~x|||y).getLsbD w=true↔w < m.W.toNat∧(X w→Y w)
  rw [BitVec.getLsbD_or,Bool.or_eq_true,BitVec.getLsbD_and,Bool.and_eq_true,hall]
  constructor
  ·rintro (⟨h1,h2⟩|h2)
   ·exact ⟨h1,fun h=>absurd ((hxX w h1).2 h) ((hnx x w h1).1 h2)⟩
   ·exact ⟨hyl w h2,fun _=>((hy w).1 h2).2⟩
  ·rintro ⟨h1,h2⟩
   by_cases h:X w
   ·exact .inr ((hyY w h1).2 (h2 h))
   ·exact .inl ⟨h1,(hnx x w h1).2 fun h3=>h ((hxX w h1).1 h3)⟩
 ·refine ⟨rfl,fun w=>?_⟩
  show (zM m.W &&& ~~~(x ^^^ y)).getLsbD w=true↔w < m.W.toNat∧(X w↔Y w)
  rw [BitVec.getLsbD_and,Bool.and_eq_true,hall]
  refine and_congr_right fun hw=>?_
  rw [hnx _ w hw,BitVec.getLsbD_xor,← hxX w hw,← hyY w hw]
  cases x.getLsbD w<;>cases y.getLsbD w<;>decide
 ·have hi:=f2 (.inl rfl)
  obtain ⟨r1,r2⟩:=zts g hi
  have e1:zaR m ⟨9,i,e,G⟩ x y=(zeb (zc2 m i) x,true):=if_neg (show ¬(m.rel.length:Int)≤i by omega)
  rw [e1]
  refine ⟨rfl,fun w=>?_⟩
  show _↔w < m.W.toNat ∧ ∀ u,u < m.W.toNat→zcR (zaj m) i.toNat w u→X u
  rw [hbox r1 r2 (fun w u _=>zfa hi)]
  exact and_congr_right fun hw=>forall_congr' fun u=>⟨fun h _=>h,fun h h2=>h (ziw g h2).2.1 h2⟩
 ·have hi:=f2 (.inr rfl)
  obtain ⟨r1,r2⟩:=zts g hi
  have e1:zaR m ⟨10,i,e,G⟩ x y=(zms (zc2 m i) x,true):=if_neg (show ¬(m.rel.length:Int)≤i by omega)
  rw [e1]
  refine ⟨rfl,fun w=>?_⟩
  show _↔w < m.W.toNat ∧ ∃ u,u < m.W.toNat∧zcR (zaj m) i.toNat w u∧X u
  unfold zms
  rw [r2,show ((m.W.toNat:Nat):Int)=m.W by omega,BitVec.getLsbD_and,Bool.and_eq_true,hall]
  refine and_congr_right fun hw=>?_
  rw [hnx _ w hw,zme (by omega),r2]
  constructor
  ·intro hn
   refine Classical.byContradiction fun hc=>hn ⟨hw,fun u hu=>?_⟩
   have hu2:=(zfa hi).1 hu
   have hul:=(ziw g hu2).2.1
   exact (hnx x u hul).2 fun h=>hc ⟨u,hul,hu2,(hxX u hul).1 h⟩
  ·rintro ⟨u,hul,hu,hX⟩ ⟨-,H⟩
   exact (hnx x u hul).1 (H u ((zfa hi).2 hu)) ((hxX u hul).2 hX)
 ·have hi:=f3 (by omega)
  obtain ⟨r1,r2⟩:=zve hk0 hi
  have hp:((2 ^ m.rel.length:Nat):Int)=(2:Int) ^ m.rel.length:=by simp
  have e1:zaR m ⟨11,i,e,G⟩ x y=(zeb (zdh m G) x,true):=if_neg (show ¬(2:Int) ^ m.rel.length≤G by omega)
  rw [e1]
  refine ⟨rfl,fun w=>?_⟩
  show _↔w < m.W.toNat ∧ ∀ u,ze9 m.W.toNat (zaj m) G.toNat w u→X u
  rw [hbox r1 r2 (fun w u hw=>zk6 g hi hw)]
 ·have hi:=f3 (by omega)
  obtain ⟨r1,r2⟩:=zzf hk0 hi
  have hp:((2 ^ m.rel.length:Nat):Int)=(2:Int) ^ m.rel.length:=by simp
  have e1:zaR m ⟨12,i,e,G⟩ x y=(zeb (zhD m G) x,true):=if_neg (show ¬(2:Int) ^ m.rel.length≤G by omega)
  rw [e1]
  refine ⟨rfl,fun w=>?_⟩
  show _↔w < m.W.toNat ∧ ∀ u,u < m.W.toNat→(∀ a,G.toNat.testBit a=true→zcR (zaj m) a w u)→X u
  rw [hbox r1 r2 (fun w u hw=>ztn g hi hw)]
  refine and_congr_right fun hw=>forall_congr' fun u=>⟨fun h _=>h,fun h h2=>h ?_ h2⟩
  have:=zl1 r1 ((ztn g hi hw).2 h2)
  omega
 ·have hi:=f3 (by omega)
  obtain ⟨r1,r2⟩:=zve hk0 hi
  have hp:((2 ^ m.rel.length:Nat):Int)=(2:Int) ^ m.rel.length:=by simp
  have e1:zaR m ⟨13,i,e,G⟩ x y=(zmq (zdh m G) x y,true):=if_neg (show ¬(2:Int) ^ m.rel.length≤G by omega)
  rw [e1]
  refine ⟨rfl,fun w=>?_⟩
  show _↔w < m.W.toNat ∧ ∀ u,CPt (ze9 m.W.toNat (zaj m) G.toNat) X w u→Y u
  unfold zmq
  rw [zet (by omega),r2,@decide_eq_true_eq _ (Classical.propDecidable _)]
  refine and_congr_right fun hw=>?_
  unfold zwg
  constructor
  ·intro H u hu
   obtain ⟨h1,h2⟩:=zre (S':=fun a b=>rb (zdh m G) a b=true) (c':=fun u=>x.getLsbD u=true) hw (fun a b ha hab=>⟨hab.1,(zk6 g hi ha).2 hab⟩) (fun a ha h=>(hxX a ha).2 h) hu
   exact (hyY u h1).1 (H u h2)
  ·intro H u hu
   obtain ⟨h1,h2⟩:=zre (S':=ze9 m.W.toNat (zaj m) G.toNat) (c':=X) hw (fun a b ha hab=>⟨((zk6 g hi ha).1 hab).1,(zk6 g hi ha).1 hab⟩) (fun a ha h=>(hxX a ha).1 h) hu
   exact (hyY u h1).2 (H u h2)
theorem zgE {m:KM} (hk0:zV m=0) : ∀ (t:Tm),t.ok→t.all (zou m)→(ev (vnK m) (0#64,false) t).2=true ∧ ∀ w,(ev (vnK m) (0#64,false) t).1.getLsbD w=true↔w < m.W.toNat∧zyM m t w
 | .z h,h1,h2=>by
  have h4 : ¬(4≤h.op∧h.op≤21):=by simpa [zak] using h1.2.1
  have hop:=h2.op
  have hd : ∀ u,(0#64).getLsbD u=true↔u < m.W.toNat∧False:=fun u=>by simp
  have e:ev (vnK m) (0#64,false) (.z h)=zaR m h 0#64 0#64:=if_pos ⟨fun h=>by omega,fun h=>by omega⟩
  rw [e]
  exact zlf hk0 h2 hd hd
 | .u h x,h1,h2=>by
  obtain ⟨a1,a2⟩:=zgE hk0 x h1.2.2.2 h2.2
  have h5 : ¬(5≤h.op∧h.op≤8∨h.op=13∨h.op=14∨h.op=16∨h.op=19∨h.op=21):=by simpa [zae] using h1.2.2.1
  have hd : ∀ u,(0#64).getLsbD u=true↔u < m.W.toNat∧False:=fun u=>by simp
  have e:ev (vnK m) (0#64,false) (.u h x)=zaR m h (ev (vnK m) (0#64,false) x).1 0#64:=if_pos ⟨fun _=>a1,fun h=>by omega⟩
  rw [e]
  exact zlf hk0 h2.1 a2 hd
 | .b h x y,h1,h2=>by
  obtain ⟨a1,a2⟩:=zgE hk0 x h1.2.2.2.1 h2.2.1
  obtain ⟨b1,b2⟩:=zgE hk0 y h1.2.2.2.2 h2.2.2
  have e:ev (vnK m) (0#64,false) (.b h x y)=zaR m h (ev (vnK m) (0#64,false) x).1 (ev (vnK m) (0#64,false) y).1:=if_pos ⟨fun _=>a1,fun _=>b1⟩
  rw [e]
  exact zlf hk0 h2.1 a2 b2
def zhu (f:List Nd):Tm:=zat f (f.length - 1)
theorem ztb {m:KM} {f:List Nd} (h:zby m f=0):(zhu f).ok∧(zhu f).all (zou m):=by
 obtain ⟨h1,h2,h3,h4⟩:=zix h
 obtain ⟨p1,p2,p3⟩:=zdI.1 h2
 have g:=za4 h1
 refine ⟨zgp p3 f.length _ (by omega) (by omega),((zeX h2).1.all (zou m)).1 fun n hn=>?_⟩
 have hh:=ziS hn
 have ho:1≤n.op∧n.op≤21:=by have:zcx n.op=true:=hh.op;simpa [zcx] using this
 have hlt:uni zbj (cL f) < 2 ^ 63:=Nat.lt_of_lt_of_le ((zgV zbj (b:=9)).2 fun n _=>zmB n.hd) (by decide)
 have a1:=(zhw hlt (b:=15) (by decide)).1 h3
 have a2 : ∀ i,(zbj n.hd).testBit i=true→(15:Nat).testBit i=true:=fun i hi=>a1 i (by rw [zle];exact List.any_eq_true.2 ⟨n,hn,hi⟩)
 have key : ∀ (o:Int) (i:Nat),n.op=o→((zaP o).toNat).testBit i=true→(15:Nat).testBit i=true:=fun o i e hi=>a2 i (by rw [zbj];show ((zaP n.op).toNat).testBit i=true;rw [e];exact hi)
 have hop:n.op≤13:=by
  refine Classical.byContradiction fun hn13=>?_
  have:n.op=14∨n.op=15∨n.op=16∨n.op=17∨n.op=18∨n.op=19∨n.op=20∨n.op=21:=by omega
  rcases this with e|e|e|e|e|e|e|e
  ·exact absurd (key _ 4 e (by decide)) (by decide)
  ·exact absurd (key _ 5 e (by decide)) (by decide)
  ·exact absurd (key _ 6 e (by decide)) (by decide)
  ·exact absurd (key _ 7 e (by decide)) (by decide)
  ·exact absurd (key _ 8 e (by decide)) (by decide)
  ·exact absurd (key _ 8 e (by decide)) (by decide)
  ·exact absurd (key _ 8 e (by decide)) (by decide)
  ·exact absurd (key _ 8 e (by decide)) (by decide)
 simp only [zdK,zeB,Bool.and_eq_true,decide_eq_true_eq,Int.toNat_natCast] at h4
 obtain ⟨⟨-,b1⟩,b2⟩:=h4
 have n4:=g.n4
 have v8:=g.v8
 have b1:=(zgV zbL).1 (b1.resolve_left (by omega)) n hn
 have b2:=(zgV zdJ).1 (b2.resolve_left (by omega)) n hn
 refine ⟨⟨ho.1,hop⟩,fun e=>?_,fun e=>?_,fun e=>?_⟩
 ·have e':z2 n.hd.op=true:=decide_eq_true e
  have h3:0≤n.i∧n.i≤7:=hh.fact e'
  rw [zdJ,if_pos e'] at b2
  have b2:2 ^ n.i.toNat < 2 ^ m.val.length:=b2
  have:=(Nat.pow_lt_pow_iff_right (by decide:1 < 2)).1 b2
  show 0≤n.i∧n.i < _
  omega
 ·have e':zE n.hd.op=true:=decide_eq_true (by rcases e with e|e<;>rw [e]<;>simp)
  have h3:0≤n.i∧n.i≤3:=hh.agent e'
  rw [zbL,if_pos e'] at b1
  have b1:2 ^ n.i.toNat < 2 ^ m.rel.length:=b1
  have:=(Nat.pow_lt_pow_iff_right (by decide:1 < 2)).1 b1
  show 0≤n.i∧n.i < _
  omega
 ·have e2:11≤n.op∧n.op≤13:=e
  have h3:1≤n.g∧n.g≤15:=hh.group (decide_eq_true e2)
  have e3 : ¬ zE n.hd.op=true:=by
   simp only [zE,decide_eq_true_eq];show ¬(n.op=9∨n.op=10∨n.op=14∨n.op=15);omega
  rw [zbL,if_neg e3] at b1
  exact ⟨h3.1,b1⟩
theorem znR {m:KM} {f:List Nd} (h:zby m f=0):(zas m f).2=0 ∧ ∀ w,(zas m f).1.getLsbD w=true↔w < m.W.toNat∧zyM m (zhu f) w:=by
 obtain ⟨h1,h2,h3,h4⟩:=zix h
 obtain ⟨p1,p2,p3⟩:=zdI.1 h2
 have hd:zas m f=((ev (vnK m) (0#64,false) (zhu f)).1,0):=by
  unfold zas zhu
  rw [if_neg (by omega),zlb (zsm m) p3 f [] (by simp) (by simp) (fun i hi=>by simp at hi) (f.length - 1) (by omega)]
 rw [hd]
 obtain ⟨a1,a2⟩:=ztb h
 exact ⟨rfl,(zgE h1 _ a1 a2).2⟩
end Go.Ab
namespace Go.Ab
open Go Go.Proofs
set_option maxRecDepth 10000
set_option maxHeartbeats 4000000
variable {T:Nat→Obj→Prop}
theorem zv6 {α:Type} {l:List α} {k:Nat} {x:α} (h:l[k]? = some x):l.take (k+1)=l.take k++[x]:=by rw [List.take_add_one,h];rfl
abbrev zoA:Ob := .box [.d (.int .i64 0),.nils 1,.nils 1,.nils 1]
end Go.Ab
namespace Go.Ab
open Go Go.Proofs
set_option maxRecDepth 10000
set_option maxHeartbeats 4000000
variable {T:Nat→Obj→Prop}
abbrev zzg (p:PM) (a v:Int):List Ob:=[za1 p,.box [.d (.int .i64 a)],.box [.d (.int .i64 v)]]
abbrev zxN (p:PM) (a v:Int):List (Option Ob):=[some (za1 p),some (.box [.d (.int .i64 a)]),some (.box [.d (.int .i64 v)])]
theorem zqq (p:PM) (a:Nat) (x:Int) (v:Nat) (ha:a < p.cell.length) (h0:0≤x) (hx:x < (za p.cell a).length) (hv:v < (za p.cell a).length) :
  Fn Tryz.prog T zbv [.d (.int .i64 x),.ptr 0 0,.ptr 1 0,.ptr 2 0] (zzg p a v) (.d (.bool (decide (at0 (za p.cell a) x.toNat=at0 (za p.cell a) v)))) (zxN p a v):=by
 generalize hV:decide (at0 (za p.cell a) x.toNat=at0 (za p.cell a) v)=V
 refine zan zt zkt (by show 4≤23;decide) _ (fun e env mem n h=>h) ?_
 (repeat' ((conv=>whnf);first|refine vA ?_|refine vT ?_|(refine vQ ?_ fun x hx=>?_;·omega)|(refine vS ?_ fun x hx=>?_;·omega)|fail));all_goals try conv=>whnf
 have e:=zaV ‹p.cell[a]? = some _›
 subst e
 (repeat' ((conv=>whnf);first|refine vT ?_|refine vN ‹_› ?_|(refine vQ ?_ fun x hx=>?_;·omega)|(refine vS ?_ fun x hx=>?_;·omega)|(refine vU ?_ ?_;·kernel_rfl)|fail));all_goals try conv=>whnf
 rename_i y hy
 rw [zY hy,zY hx] at hV
 subst hV
 refine ⟨trivial,_,[(0,0),(1,1),(2,2)],[],rfl,.inl (by (repeat' exact .inl rfl)),⟨by rfl,by rfl,by rfl,trivial,by (repeat' first|exact trivial|exact rfl|refine And.intro ?_ ?_|refine ⟨_,rfl,?_⟩|exact of_decide_eq_true rfl)⟩,by (repeat' first|exact trivial|exact rfl|refine And.intro ?_ ?_|refine ⟨_,rfl,?_⟩)⟩
theorem zrz (p:PM) (a:Nat) (v:Nat) (xs:List Int) (ha:a < p.cell.length) (hv:v < (za p.cell a).length) (hxs : ∀ x∈xs,0≤x∧x < (za p.cell a).length) :
  Fn Tryz.prog T zcN [.own 3,.fn zbv [.ptr 0 0,.ptr 1 0,.ptr 2 0]] (zzg p a v++[.row 1 (xs.map (D.int .i64))])
   (.d (.int .i64 (zcf (fun x:Int=>decide (at0 (za p.cell a) x.toNat=at0 (za p.cell a) v)) xs))) (zxN p a v++[some (.row 1 (xs.map (D.int .i64)))]):=by
 generalize hV:zcf (fun x:Int=>decide (at0 (za p.cell a) x.toNat=at0 (za p.cell a) v)) xs=V
 refine zan zt ze4 (by show 2≤19;decide) _ (fun e env mem n h=>h) ?_
 (repeat' ((conv=>whnf);first|refine vA ?_|refine vJ fun hg=>?_|refine vT ?_));all_goals try conv=>whnf
 refine zA (fun (k:Nat)=>[(0,.own 3),(1,.fn zbv [.ptr 0 0,.ptr 1 0,.ptr 2 0]),(7,.d (.int .i64 ((xs.map (D.int .i64)).length:Int))),(8,.d (.int .i64 ((k:Int)))),(zf,.ptr 0 0),(zf+1,.ptr 1 0),(zf+2,.ptr 2 0),(zf+3,.own 3)]) (fun (k:Nat)=>[(0,some (za1 p)),(1,some (.box [.d (.int .i64 a)])),(2,some (.box [.d (.int .i64 v)])),(3,some (.row 1 (xs.map (D.int .i64))))]) 4 (fun (k:Nat)=>k≤xs.length ∧ ∀ i y,i < k→xs[i]? = some y→decide (at0 (za p.cell a) y.toNat=at0 (za p.cell a) v)=false) (fun (k:Nat)=>xs.length - k) (0) [(0,0),(1,1),(2,2),(3,3)] [] (⟨by simp,by simp⟩) (by (refine ⟨rfl,rfl,rfl,?_,?_⟩;repeat' first|exact trivial|exact rfl|refine And.intro ?_ ?_|refine ⟨_,rfl,?_⟩|decide)) ?_
 rintro k ⟨hk,hI⟩
 (repeat' ((conv=>whnf);first|refine vA ?_|(refine vF ?_ ?_<;>intro hc<;>try simp only [vL] at hc)|refine vT ?_|(refine vQ ?_ fun x hx=>?_;·omega)|(refine vP ?_ ?_;·(simp only [vM] at *;omega))|fail));all_goals try conv=>whnf
 ·obtain ⟨q1,q2⟩:=hxs _ (List.mem_of_getElem? hx)
  refine zT.objs [0,1,2] (zqq p a x v ha q1 q2 hv) (by (repeat' first|exact rfl|refine And.intro ?_ ?_|refine ⟨_,rfl,?_⟩)) (by (repeat' first|exact rfl|refine And.intro ?_ ?_|refine ⟨_,rfl,?_⟩)) (by rfl) (by rfl) (by simp) ?_
  (repeat' ((conv=>whnf);first|(refine vF ?_ ?_<;>intro hc)|refine vT ?_|(refine vO ?_ ?_;·omega)|fail));all_goals try conv=>whnf
  ·obtain rfl:V=(k:Int):=by rw [← hV];exact zfy hx (decide_eq_true hc) hI
   refine ⟨trivial,_,[(0,0),(1,1),(2,2),(3,3)],[],rfl,.inl (by (repeat' exact rfl)),⟨by rfl,by rfl,by rfl,trivial,by (repeat' first|exact trivial|exact rfl|refine And.intro ?_ ?_|refine ⟨_,rfl,?_⟩|exact of_decide_eq_true rfl)⟩,by (repeat' first|exact trivial|exact rfl|refine And.intro ?_ ?_|refine ⟨_,rfl,?_⟩)⟩
  ·have hne:=decide_eq_false hc
   refine ⟨k+1,[(0,0),(1,1),(2,2),(3,3)],[],?_,?_,by (refine ⟨rfl,rfl,rfl,?_,?_⟩;repeat' first|exact trivial|exact rfl|refine And.intro ?_ ?_|refine ⟨_,rfl,?_⟩|decide)⟩
   ·exact ⟨by (omega),fun i y hi hy=>by
     by_cases e:i=k
     ·subst e;rw [show xs[i]? = some x from hx] at hy;cases hy;exact hne
     ·exact hI i y (by omega) hy⟩
   ·(omega)
 ·obtain rfl:V = -1:=by rw [← hV];exact zf3 fun i y hi hy=>hI i y (by omega) hy
  refine ⟨trivial,_,[(0,0),(1,1),(2,2),(3,3)],[],rfl,.inl (by (repeat' exact rfl)),⟨by rfl,by rfl,by rfl,trivial,by (repeat' first|exact trivial|exact rfl|refine And.intro ?_ ?_|refine ⟨_,rfl,?_⟩|exact of_decide_eq_true rfl)⟩,by (repeat' first|exact trivial|exact rfl|refine And.intro ?_ ?_|refine ⟨_,rfl,?_⟩)⟩
end Go.Ab
namespace Go.Ab
open Go Go.Proofs
set_option maxRecDepth 10000
set_option maxHeartbeats 4000000
variable {T:Nat→Obj→Prop}
def wsL (s:BitVec 64) (n:Nat):List Int:=((List.range n).filter fun i=>s.getLsbD i).map fun i:Nat=>(i:Int)
def zcm (v:BitVec 64) (ws:List Int):Nat→BitVec 64
 | 0=>0
 | n+1=>zcm v ws n|||(((v >>> (at0 ws n).toNat)&&&1#64) <<< n)
def zad (p:PM) (ws:List Int) (a:Nat):List Int:=ws.map fun v=>zcf (fun x:Int=>decide (at0 (za p.cell a) x.toNat=at0 (za p.cell a) v.toNat)) ws
def zbI (p:PM) (ws:List Int) (a:Nat):List Int:=ws.map fun v=>at0 (za p.rank a) v.toNat
def zb5 (p:PM) (ws:List Int) (a:Nat):List Int:=(List.range ws.length).map fun j=>zcf (fun y=>at0 (zbI p ws a) j==y) (zW (zad p ws a) (zbI p ws a) (at0 (zad p ws a) j))
def zah (p:PM) (ws:List Int):PM:=⟨ws.length,p.val.map fun v=>zcm v ws ws.length,(List.range p.cell.length).map (zad p ws),(List.range p.cell.length).map (zb5 p ws)⟩
def zhp (p:PM) (s:BitVec 64):PM×List Int×Int :=
 if zy p≠0 then (⟨0,[],[],[]⟩,[],zy p) else if s &&& ~~~(zM p.W)≠0 then (⟨0,[],[],[]⟩,[],2) else if s=0 then (⟨0,[],[],[]⟩,[],6) else (zah p (wsL s p.W.toNat),wsL s p.W.toNat,0)
abbrev zyR (x:PM×List Int×Int):D := .tup [dPM x.1,dI x.2.1,.int .i64 x.2.2]
theorem zsr {s:BitVec 64} {n:Nat} : wsL s (n+1)=wsL s n++(if s.getLsbD n=true then [(n:Int)] else []):=by
 unfold wsL
 rw [List.range_succ,List.filter_append,List.map_append]
 congr 1
 by_cases h:s.getLsbD n=true
 ·rw [if_pos h,List.filter_cons,if_pos h];rfl
 ·rw [if_neg h,List.filter_cons,if_neg h];rfl
theorem zpn {s:BitVec 64} {n:Nat} : (wsL s n).length≤n:=by
 unfold wsL
 rw [List.length_map]
 have:=List.length_filter_le (fun i=>s.getLsbD i) (List.range n)
 rwa [List.length_range] at this
theorem zyG {s:BitVec 64} {n:Nat} {x:Int} (h:x∈wsL s n):0≤x∧x < n:=by
 obtain ⟨i,hi,rfl⟩:=List.mem_map.1 h
 have:=List.mem_range.1 (List.mem_filter.1 hi).1
 omega
theorem zkY {l:List Int} {f:Int→Int} {j:Nat} {x:Int} (h:l[j]? = some x):at0 (l.map f) j=f x:=zY (by rw [List.getElem?_map,h];rfl)
theorem zrH {l:List Int} {n:Nat} (h:l.length=n):(List.range n).map (fun u=>D.int .i64 (if u < n then at0 l u else 0))=l.map (D.int .i64):=by
 subst h
 refine List.ext_getElem (by simp) fun i h1 h2=>?_
 have hi:i < l.length:=by simpa using h2
 simp [hi,at0,List.getD]
theorem zxh {l l':List Int} {n:Nat} (h:l.length=n):(List.range n).map (fun u=>D.int .i64 (if u < 0 then at0 l' u else at0 l u))=l.map (D.int .i64):=by
 subst h
 refine List.ext_getElem (by simp) fun i h1 h2=>?_
 have hi:i < l.length:=by simpa using h2
 simp [hi,at0,List.getD]
theorem znK {cell rank:List Int} {c:Int} : ∀ {ks:List Int},c∈ks→zz (ks.map fun c=>(D.int .i64 c,dI (zW cell rank c))) (.int .i64 c)=some (some (dI (zW cell rank c)))
 | [],h=>by cases h
 | k::ks,h=>by
  rw [List.map_cons,zz]
  by_cases e:c=k
  ·subst e
   simp [D.eqk,D.same]
  ·have:c∈ks:=by
    rcases List.mem_cons.1 h with h|h
    ·exact absurd h e
    ·exact h
   simp [D.eqk,D.same,e,znK this]
theorem zr9 {p:PM} {ws:List Int} {a j:Nat} (h:j < ws.length):at0 (zb5 p ws a) j=zcf (fun y=>at0 (zbI p ws a) j==y) (zW (zad p ws a) (zbI p ws a) (at0 (zad p ws a) j)):=by
 simp [zb5,at0,List.getD,h]
theorem zvc {l l':List Int} {n:Nat} (h:l.length=n):(List.range n).map (fun u=>D.int .i64 (if u < n then at0 l u else at0 l' u))=l.map (D.int .i64):=by
 subst h
 refine List.ext_getElem (by simp) fun i h1 h2=>?_
 have hi:i < l.length:=by simpa using h2
 simp [hi,at0,List.getD]
def zqT (T:Nat→Obj→Prop):Prop := ∀ cell rank:List Int,cell.length≤rank.length→rank.length≤64 →
 Fn Tryz.prog T zc8 [.own 0,.own 1] [.row 1 (cell.map (D.int .i64)),.row 1 (rank.map (D.int .i64))] (.d (.map (zd7 cell rank))) [some (.row 1 (cell.map (D.int .i64))),some (.row 1 (rank.map (D.int .i64)))]
set_option maxHeartbeats 2000000 in
theorem zsH (hR:zaK T) (hRO:zqT T) (p:PM) (hp:zaM p.rank) (s:BitVec 64):Fn Tryz.prog T zgM [.d (dPM p),.d (.u64 s)] [] (.d (zyR (zhp p s))) []:=by
 refine zd zt zmO (by show 2≤162;decide) ?_
 (repeat' ((conv=>whnf);first|refine vA ?_|(refine vD ?_ ?_<;>intro hc)|refine vT ?_|refine yD (zcP hR _ hp) ⟨⟨rfl,rfl⟩,rfl⟩ rfl ?_));all_goals try conv=>whnf
 ·rw [zhp,if_pos hc];rfl
 have hck:=‹zy p=0›
 have hg':=zB hck
 have hw1:=hg'.w1
 have hw2:=hg'.w2
 have hv8:=hg'.v8
 have hn4:=hg'.n4
 (repeat' ((conv=>whnf);first|refine vA ?_|((first|refine vD ?_ ?_|refine vF ?_ ?_)<;>intro hc)|refine vT ?_|refine yD (zkj p.W (by omega)) ⟨⟨rfl,rfl⟩,rfl⟩ rfl ?_));all_goals try conv=>whnf
 ·rw [zhp,if_neg (not_not_intro hck),if_pos ‹s &&& ~~~zM p.W≠(0:BitVec 64)›];rfl
 ·rw [zhp,if_neg (not_not_intro hck),if_neg (not_not_intro ‹s &&& ~~~zM p.W=(0:BitVec 64)›),if_pos ‹s=0›];rfl
 have hs1:=‹s &&& ~~~zM p.W=(0:BitVec 64)›
 have hs2:=‹¬s=0›
 refine zA (fun ((i,zs):Nat×List D)=>[(1,.d (.u64 (s))),(2,.ptr 0 0),(4,.ptr 1 0),(8,.own 2),(40,.d (.int .i64 (p.W))),(41,.d (.int .i64 ((i:Int))))]) (fun ((i,zs):Nat×List D)=>[(0,some (za1 p)),(1,some zoA),(2,some (.row 1 zs))]) 3 (fun ((i,zs):Nat×List D)=>i≤p.W.toNat∧zs=(wsL s i).map (D.int .i64)) (fun ((i,zs):Nat×List D)=>p.W.toNat - i) ((0,[])) [(0,0),(1,1)]   [2] (⟨by simp,rfl⟩) (by (refine ⟨rfl,rfl,rfl,?_,?_⟩;repeat' first|exact trivial|exact rfl|exact ⟨_,rfl⟩|refine And.intro ?_ ?_|refine ⟨_,rfl,?_⟩|decide)) ?_
 rintro ⟨i,_⟩ ⟨hi,rfl⟩
 (repeat' ((conv=>whnf);first|refine vA ?_|(refine vF ?_ ?_<;>intro hc<;>try simp only [vL] at hc)|refine vJ fun hg=>?_|refine vT ?_|((first|refine vO ?_ ?_|refine vP ?_ ?_);·omega)|fail));all_goals try conv=>whnf
 ·have hwl:=zpn (s:=s) (n:=i)
  refine ziL.mk (by simp only [List.length_map,ze7,List.length_set,List.length_replicate];omega) ?_
  (repeat' ((conv=>whnf);first|refine vT ?_|(refine vO ?_ ?_;·omega)|fail));all_goals try conv=>whnf
  refine ⟨(i+1,_),[(0,0),(1,1),(2,4)],[],?_,?_,by (refine ⟨rfl,rfl,rfl,?_,?_⟩;repeat' first|exact trivial|exact rfl|refine And.intro ?_ ?_|refine ⟨_,rfl,?_⟩|decide)⟩
  ·refine ⟨by (omega),?_⟩
   rw [zsr,if_pos ((zoy s i).1 ‹s >>> ((i:Nat):Int).toNat&&&1#64=1#64›),List.map_append];rfl
  ·((simp only [vM] at *;omega))
 ·refine ⟨(i+1,_),[(0,0),(1,1),(2,2)],[],?_,?_,by (refine ⟨rfl,rfl,rfl,?_,?_⟩;repeat' first|exact trivial|exact rfl|refine And.intro ?_ ?_|refine ⟨_,rfl,?_⟩|decide)⟩
  ·refine ⟨by (omega),?_⟩
   rw [zsr,if_neg (mt (zoy s i).2 ‹¬s >>> ((i:Nat):Int).toNat&&&1#64=1#64›),List.append_nil]
  ·((simp only [vM] at *;omega))
 obtain rfl:i=p.W.toNat:=by omega
 rw [show zhp p s=(zah p (wsL s p.W.toNat),wsL s p.W.toNat,0) by rw [zhp,if_neg (not_not_intro hck),if_neg (not_not_intro hs1),if_neg hs2]]
 have hwl:=zpn (s:=s) (n:=p.W.toNat)
 have hwm : ∀ x∈wsL s p.W.toNat,0≤x∧x < p.W:=fun x hx=>by have:=zyG hx;omega
 generalize wsL s p.W.toNat=ws at hwl hwm
 refine zA (fun ((k,zs):Nat×List D)=>[(2,.ptr 0 0),(4,.ptr 1 0),(8,.own 2),(10,.ptr 3 0),(58,.d (dU p.val)),(59,.d (.int .i64 ((p.val.map D.u64).length:Int))),(60,.d (.int .i64 ((k:Int))))]) (fun ((k,zs):Nat×List D)=>[(0,some (za1 p)),(1,some zoA),(2,some (.row 1 (ws.map (D.int .i64)))),(3,some (.box [.d (.int .i64 ((ws.map (D.int .i64)).length:Int)),.own 4,.nils 1,.nils 1])),(4,some (.row 1 zs))]) 5 (fun ((k,zs):Nat×List D)=>k≤p.val.length∧zs=(p.val.take k).map fun v=>D.u64 (zcm v ws ws.length)) (fun ((k,zs):Nat×List D)=>p.val.length - k) ((0,[])) [(0,0),(1,1),(2,2),(3,3)]   [4] (⟨by simp,rfl⟩) (by (refine ⟨rfl,rfl,rfl,?_,?_⟩;repeat' first|exact trivial|exact rfl|exact ⟨_,rfl⟩|refine And.intro ?_ ?_|refine ⟨_,rfl,?_⟩|decide)) ?_
 rintro ⟨k,_⟩ ⟨hk,rfl⟩
 (repeat' ((conv=>whnf);first|refine vA ?_|(refine vF ?_ ?_<;>intro hc<;>try simp only [vL] at hc)|refine vJ fun hg=>?_|refine vT ?_|(refine vQ ?_ fun x hx=>?_;·omega)|fail));all_goals try conv=>whnf
 ·refine zA (fun ((j,acc):Nat×BitVec 64)=>[(2,.ptr 0 0),(4,.ptr 1 0),(8,.own 2),(10,.ptr 3 0),(12,.d (.u64 (x))),(13,.d (.u64 (acc))),(58,.d (dU p.val)),(59,.d (.int .i64 ((p.val.map D.u64).length:Int))),(60,.d (.int .i64 ((k:Int)))),(64,.own 2),(65,.d (.int .i64 ((ws.map (D.int .i64)).length:Int))),(66,.d (.int .i64 ((j:Int))))]) (fun ((j,acc):Nat×BitVec 64)=>[(0,some (za1 p)),(1,some zoA),(2,some (.row 1 (ws.map (D.int .i64)))),(3,some (.box [.d (.int .i64 ((ws.map (D.int .i64)).length:Int)),.own 4,.nils 1,.nils 1])),(4,some (.row 1 ((p.val.take k).map fun v=>D.u64 (zcm v ws ws.length))))]) 5 (fun ((j,acc):Nat×BitVec 64)=>j≤ws.length∧acc=zcm x ws j) (fun ((j,acc):Nat×BitVec 64)=>ws.length - j) ((0,0)) [(0,0),(1,1),(2,2),(3,3),(4,4)] [] (⟨by simp,rfl⟩) (by (refine ⟨rfl,rfl,rfl,?_,?_⟩;repeat' first|exact trivial|exact rfl|refine And.intro ?_ ?_|refine ⟨_,rfl,?_⟩|decide)) ?_
  rintro ⟨j,_⟩ ⟨hj,rfl⟩
  (repeat' ((conv=>whnf);first|refine vA ?_|(refine vF ?_ ?_<;>intro hc<;>try simp only [vL] at hc)|refine vT ?_|(refine vQ ?_ fun x hx=>?_;·omega)|(refine vP ?_ ?_;·(simp only [vM] at *;omega))|fail));all_goals try conv=>whnf
  ·rename_i y hy
   refine ziL.mk (hwm _ (List.mem_of_getElem? hx)).1 ?_
   (repeat' ((conv=>whnf);first|refine vT ?_|((first|refine vO ?_ ?_|refine vP ?_ ?_);·omega)|fail));all_goals try conv=>whnf
   refine ⟨(j+1,_),[(0,0),(1,1),(2,2),(3,3),(4,4)],[],?_,?_,by (refine ⟨rfl,rfl,rfl,?_,?_⟩;repeat' first|exact trivial|exact rfl|refine And.intro ?_ ?_|refine ⟨_,rfl,?_⟩|decide)⟩
   ·refine ⟨by (omega),?_⟩
    rw [zcm,zY (l:=ws) (i:=j) hx];rfl
   ·((simp only [vM] at *;omega))
  ·obtain rfl:j=ws.length:=by omega
   have hkt:(p.val.take k).length=k:=List.length_take_of_le hk
   refine ziL.mk (by simp only [List.length_map,hkt,ze7,List.length_set,List.length_replicate];omega) ?_
   (repeat' ((conv=>whnf);first|refine vT ?_|(refine vO ?_ ?_;·omega)|fail));all_goals try conv=>whnf
   refine ⟨(k+1,_),[(0,0),(1,1),(2,2),(3,3),(4,6)],[],?_,?_,by (refine ⟨rfl,rfl,rfl,?_,?_⟩;repeat' first|exact trivial|exact rfl|refine And.intro ?_ ?_|refine ⟨_,rfl,?_⟩|decide)⟩
   ·refine ⟨by (omega),?_⟩
    rw [zv6 hx,List.map_append];rfl
   ·((simp only [vM] at *;omega))
 have hkv:p.val.take k=p.val:=List.take_of_length_le (by omega)
 rw [hkv]
 refine zA (fun ((a,xs,ys):Nat×List D×List D)=>[(2,.ptr 0 0),(4,.ptr 1 0),(8,.own 2),(10,.ptr 3 0),(89,.d (.int .i64 ((p.cell.map dI).length:Int))),(90,.d (.int .i64 ((a:Int))))]) (fun ((a,xs,ys):Nat×List D×List D)=>[(0,some (za1 p)),(1,some zoA),(2,some (.row 1 (ws.map (D.int .i64)))),(3,some (.box [.d (.int .i64 ((ws.map (D.int .i64)).length:Int)),.own 4,.own 5,.own 6])),(4,some (.row 1 (p.val.map fun v=>D.u64 (zcm v ws ws.length)))),(5,some (.row 1 xs)),(6,some (.row 1 ys))]) 7 (fun ((a,xs,ys):Nat×List D×List D)=>a≤p.cell.length∧xs=(List.range a).map (fun a=>dI (zad p ws a))∧ys=(List.range a).map (fun a=>dI (zb5 p ws a))) (fun ((a,xs,ys):Nat×List D×List D)=>p.cell.length - a) ((0,[],[])) [(0,0),(1,1),(2,2),(3,3),(4,4)]   [5,6] (⟨by simp,rfl,rfl⟩) (by (refine ⟨rfl,rfl,rfl,?_,?_⟩;repeat' first|exact trivial|exact rfl|exact ⟨_,rfl⟩|refine And.intro ?_ ?_|refine ⟨_,rfl,?_⟩|decide)) ?_
 rintro ⟨a,_,_⟩ ⟨ha,rfl,rfl⟩
 (repeat' ((conv=>whnf);first|refine vA ?_|(refine vF ?_ ?_<;>intro hc<;>try simp only [vL] at hc)|refine vJ fun hg=>?_|refine vT ?_|(refine vP ?_ ?_;·(simp only [vM] at *;omega))|(refine vU ?_ ?_;·kernel_rfl)|fail));all_goals try conv=>whnf
 ·have hca:a < p.cell.length:=by omega
  refine zA (fun ((j,us,vs):Nat×List D×List D)=>[(2,.ptr 0 0),(4,.ptr 1 0),(8,.own 2),(10,.ptr 3 0),(16,.ptr 7 0),(17,.own 8),(18,.own 9),(89,.d (.int .i64 ((p.cell.map dI).length:Int))),(90,.d (.int .i64 ((a:Int)))),(99,.own 2),(100,.d (.int .i64 ((ws.map (D.int .i64)).length:Int))),(101,.d (.int .i64 ((j:Int))))]) (fun ((j,us,vs):Nat×List D×List D)=>[(0,some (za1 p)),(1,some zoA),(2,some (.row 1 (ws.map (D.int .i64)))),(3,some (.box [.d (.int .i64 ((ws.map (D.int .i64)).length:Int)),.own 4,.own 5,.own 6])),(4,some (.row 1 (p.val.map fun v=>D.u64 (zcm v ws ws.length)))),(5,some (.row 1 ((List.range a).map (fun a=>dI (zad p ws a))))),(6,some (.row 1 ((List.range a).map (fun a=>dI (zb5 p ws a))))),(7,some (.box [.d (.int .i64 (a:Int))])),(8,some (.row 1 us)),(9,some (.row 1 vs))]) 10 (fun ((j,us,vs):Nat×List D×List D)=>j≤ws.length∧us=(List.range ws.length).map (fun u=>D.int .i64 (if u < j then at0 (zad p ws a) u else 0))∧vs=(List.range ws.length).map (fun u=>D.int .i64 (if u < j then at0 (zbI p ws a) u else 0))) (fun ((j,us,vs):Nat×List D×List D)=>ws.length - j) ((0,List.replicate ((ws.map (D.int .i64)).length:Int).toNat (D.int .i64 0),List.replicate ((ws.map (D.int .i64)).length:Int).toNat (D.int .i64 0))) [(0,0),(1,1),(2,2),(3,3),(4,4),(5,5),(6,6),(7,7),(8,8),(9,9)] [] (⟨by simp,by simp [List.map_const'],by simp [List.map_const']⟩) (by (refine ⟨rfl,rfl,rfl,?_,?_⟩;repeat' first|exact trivial|exact rfl|refine And.intro ?_ ?_|refine ⟨_,rfl,?_⟩|decide)) ?_
  rintro ⟨j,_,_⟩ ⟨hj,rfl,rfl⟩
  (repeat' ((conv=>whnf);first|refine vA ?_|(refine vF ?_ ?_<;>intro hc<;>try simp only [vL] at hc)|refine vT ?_|(refine vQ ?_ fun x hx=>?_;·omega)|(refine vP ?_ ?_;·(simp only [vM] at *;omega))|fail));all_goals try conv=>whnf
  ·have hxm:=hwm x (List.mem_of_getElem? hx)
   obtain ⟨v,rfl⟩ : ∃ v:Nat,x=v:=⟨x.toNat,by omega⟩
   obtain ⟨hlc,hlr⟩:=hg'.lens a hca
   have hlen:=hg'.len
   refine zT.objs [0,7,10,2] (zrz p a v ws hca (by omega) (fun x hx=>by have:=hwm x hx;omega)) (by (repeat' first|exact rfl|refine And.intro ?_ ?_|refine ⟨_,rfl,?_⟩)) (by (repeat' first|exact rfl|refine And.intro ?_ ?_|refine ⟨_,rfl,?_⟩)) (by rfl) (by rfl) (by simp) ?_
   (repeat' ((conv=>whnf);first|refine vT ?_|(refine vQ ?_ fun x hx=>?_;·omega)|((first|refine vS ?_ fun x hx=>?_|refine vP ?_ ?_);·(simp only [vM] at *;omega))|fail));all_goals try conv=>whnf
   have e:=zaV ‹p.rank[a]? = some _›
   subst e
   (repeat' ((conv=>whnf);first|refine vT ?_|(refine vQ ?_ fun x hx=>?_;·omega)|((first|refine vO ?_ ?_|refine vP ?_ ?_);·first|omega|(simp only [vM] at *;omega))|(refine vU ?_ ?_;·kernel_rfl)|fail));all_goals try conv=>whnf
   have hxj:ws[j]? = some (v:Int):=‹ws[((j:Nat):Int).toNat]? = some _›
   have hxr:=zY hx
   refine ⟨(j+1,_,_),[(0,0),(1,1),(2,2),(3,3),(4,4),(5,5),(6,6),(7,7),(8,8),(9,9)],[],?_,?_,by (refine ⟨rfl,rfl,rfl,?_,?_⟩;repeat' first|exact trivial|exact rfl|refine And.intro ?_ ?_|refine ⟨_,rfl,?_⟩|decide)⟩
   ·refine ⟨by (omega),(zeu _).trans (z1 fun u hu=>?_),(zeu _).trans (z1 fun u hu=>?_)⟩
    ·show (if u=j then _ else _)=_
     by_cases e:u=j
     ·subst e;rw [if_pos rfl,if_pos (Nat.lt_succ_self _),zad,zkY hxj];rfl
     ·by_cases e1:u < j
      ·simp [e1,e,show u < j+1 by omega]
      ·simp [e1,e,show ¬ u < j+1 by omega]
    ·show (if u=j then _ else _)=_
     by_cases e:u=j
     ·subst e;rw [if_pos rfl,if_pos (Nat.lt_succ_self _),zbI,zkY hxj,← hxr];rfl
     ·by_cases e1:u < j
      ·simp [e1,e,show u < j+1 by omega]
      ·simp [e1,e,show ¬ u < j+1 by omega]
   ·((simp only [vM] at *;omega))
  ·obtain rfl:j=ws.length:=by omega
   rw [zrH (l:=zad p ws a) (by simp [zad]),zrH (l:=zbI p ws a) (by simp [zbI])]
   refine zT.objs [8,9] (hRO (zad p ws a) (zbI p ws a) (by simp [zad,zbI]) (by simp only [zbI,List.length_map];omega)) (by (repeat' first|exact rfl|refine And.intro ?_ ?_|refine ⟨_,rfl,?_⟩)) (by (repeat' first|exact rfl|refine And.intro ?_ ?_)) (by rfl) (by rfl) (by simp) ?_
   (repeat' ((conv=>whnf);first|refine vA ?_|refine vJ fun hg=>?_|refine vT ?_));all_goals try conv=>whnf
   refine zA (fun ((j,vs):Nat×List D)=>[(2,.ptr 0 0),(4,.ptr 1 0),(8,.own 2),(10,.ptr 3 0),(17,.own 8),(18,.own 9),(21,.d (.map (zd7 (zad p ws a) (zbI p ws a)))),(89,.d (.int .i64 ((p.cell.map dI).length:Int))),(90,.d (.int .i64 ((a:Int)))),(128,.d (.int .i64 ((ws.map (D.int .i64)).length:Int))),(129,.d (.int .i64 ((j:Int))))]) (fun ((j,vs):Nat×List D)=>[(0,some (za1 p)),(1,some zoA),(2,some (.row 1 (ws.map (D.int .i64)))),(3,some (.box [.d (.int .i64 ((ws.map (D.int .i64)).length:Int)),.own 4,.own 5,.own 6])),(4,some (.row 1 (p.val.map fun v=>D.u64 (zcm v ws ws.length)))),(5,some (.row 1 ((List.range a).map (fun a=>dI (zad p ws a))))),(6,some (.row 1 ((List.range a).map (fun a=>dI (zb5 p ws a))))),(8,some (.row 1 ((zad p ws a).map (D.int .i64)))),(9,some (.row 1 vs))]) 10 (fun ((j,vs):Nat×List D)=>j≤ws.length∧vs=(List.range ws.length).map (fun u=>D.int .i64 (if u < j then at0 (zb5 p ws a) u else at0 (zbI p ws a) u))) (fun ((j,vs):Nat×List D)=>ws.length - j) ((0,(zbI p ws a).map (D.int .i64))) [(0,0),(1,1),(2,2),(3,3),(4,4),(5,5),(6,6),(8,8),(9,9)] [] (⟨by simp,(zxh (l:=zbI p ws a) (by simp [zbI])).symm⟩) (by (refine ⟨rfl,rfl,rfl,?_,?_⟩;repeat' first|exact trivial|exact rfl|refine And.intro ?_ ?_|refine ⟨_,rfl,?_⟩|decide)) ?_
   rintro ⟨j,_⟩ ⟨hj,rfl⟩
   have hlc2:(zad p ws a).length=ws.length:=by simp [zad]
   (repeat' ((conv=>whnf);first|refine vA ?_|(refine vF ?_ ?_<;>intro hc<;>try simp only [vL] at hc)|refine vT ?_|(refine vQ ?_ fun x hx=>?_;·omega)|((first|refine vO ?_ ?_|refine vP ?_ ?_);·first|omega|(simp only [vM] at *;omega))|(refine vU ?_ ?_;·kernel_rfl)|fail));all_goals try conv=>whnf
   ·have hxc:(zad p ws a)[j]? = some x:=hx
    refine ⟨_,znK (zf8.2 (List.mem_of_getElem? hxc)),?_⟩
    (repeat' ((conv=>whnf);first|refine vT ?_|(refine vQ ?_ fun x hx=>?_;·(simp only [vM] at *;omega))|((first|refine vO ?_ ?_|refine vP ?_ ?_);·first|omega|(simp only [vM] at *;omega))|(refine vU ?_ ?_;·kernel_rfl)|refine yD (zrA _ _) ⟨⟨rfl,rfl⟩,⟨rfl,rfl⟩,rfl⟩ rfl ?_));all_goals try conv=>whnf
    have hxe:j=x:=(zkn hx).symm
    subst hxe
    have hxr:=zY hxc
    refine ⟨(j+1,_),[(0,0),(1,1),(2,2),(3,3),(4,4),(5,5),(6,6),(8,8),(9,9)],[],?_,?_,by (refine ⟨rfl,rfl,rfl,?_,?_⟩;repeat' first|exact trivial|exact rfl|refine And.intro ?_ ?_|refine ⟨_,rfl,?_⟩|decide)⟩
    ·refine ⟨by (omega),(zeu _).trans (z1 fun u hu=>?_)⟩
     show (if u=_ then _ else _)=_
     by_cases e:u=j
     ·subst e
      rw [if_pos (show u=((u:Nat):Int).toNat from rfl),if_pos (Nat.lt_succ_self _),zr9 hu,hxr]
      simp
     ·by_cases e1:u < j
      ·simp [e1,e,show u < j+1 by omega]
      ·simp [e1,e,show ¬ u < j+1 by omega]
    ·((simp only [vM] at *;omega))
   ·obtain rfl:j=ws.length:=by omega
    refine ⟨(a+1,_,_),[(0,0),(1,1),(2,2),(3,3),(4,4),(5,11),(6,13)],[],?_,?_,by (refine ⟨rfl,rfl,rfl,?_,?_⟩;repeat' first|exact trivial|exact rfl|refine And.intro ?_ ?_|refine ⟨_,rfl,?_⟩|decide)⟩
    ·refine ⟨by (omega),?_,?_⟩
     ·rw [List.range_succ,List.map_append];rfl
     ·rw [List.range_succ,List.map_append]
      exact congrArg (_++[D.arr 1 ·]) (zvc (by simp [zb5]))
    ·((simp only [vM] at *;omega))
 ·have hae:a=p.cell.length:=by omega
  subst hae
  show some (D.tup [D.agg [.int .i64 ((ws.map (D.int .i64)).length:Int),.arr 1 (p.val.map fun v=>D.u64 (zcm v ws ws.length)),.arr 1 ((List.range p.cell.length).map (fun a=>dI (zad p ws a))),.arr 1 ((List.range p.cell.length).map (fun a=>dI (zb5 p ws a)))],dI ws,.int .i64 0])=_
  rw [List.length_map]
  show _=some (D.tup [D.agg [.int .i64 (ws.length:Int),.arr 1 ((p.val.map fun v=>zcm v ws ws.length).map D.u64),.arr 1 (((List.range p.cell.length).map (zad p ws)).map dI),.arr 1 (((List.range p.cell.length).map (zb5 p ws)).map dI)],dI ws,.int .i64 0])
  rw [List.map_map,List.map_map,List.map_map];rfl
end Go.Ab
namespace Go.Ab
open Go Go.Proofs Go.MapKept
abbrev GI := List (Int × List Int)
theorem zrt : ∀ (l : List MapEntry) (ks : List Int) (i : Nat) (c : Int), ks.length = l.length → (∀ j, j < ks.length → (l.getD j default).key = .int .i64 (ks.getD j 0)) →
    (c ∉ ks ∧ Instr.findNow (.int .i64) (.int .i64 c) l i = some none) ∨ ∃ j, j < ks.length ∧ ks.getD j 0 = c ∧ Instr.findNow (.int .i64) (.int .i64 c) l i = some (some (i + j, (l.getD j default).val))
  | [], [], i, c, _, _ => .inl ⟨by simp, rfl⟩
  | [], _ :: _, _, _, h, _ => by simp at h
  | _ :: _, [], _, _, h, _ => by simp at h
  | e :: l, k :: ks, i, c, h, hk => by
    have h0 : e.key = .int .i64 k := by simpa using hk 0 (by simp)
    have hs : Instr.sameNow (.int .i64) (.int .i64 c) e.key = some (decide (c = k)) := by rw [h0]; simp [Instr.sameNow, zgh]
    by_cases hc : c = k
    · refine .inr ⟨0, by simp, by simp [hc], ?_⟩
      subst hc
      simp [Instr.findNow, hs]
    · rcases zrt l ks (i + 1) c (by simpa using h) (fun j hj => by simpa using hk (j + 1) (by simpa using hj)) with ⟨h1, h2⟩ | ⟨j, h1, h2, h3⟩
      · exact .inl ⟨by simp [hc, h1], by simp [Instr.findNow, hs, hc, h2]⟩
      · exact .inr ⟨j + 1, by simpa using h1, by simpa using h2, by simp [Instr.findNow, hs, hc, h3]; omega⟩
theorem zp5 {w : World} {m : Nat} {es : Array MapEntry} {clock : Nat} (hm : w.heap[m]? = some (.map es clock)) {c : Int} {v : Value} {r : Option (Nat × Value)} (hf : Instr.findNow (.int .i64) (.int .i64 c) es.toList 0 = some r)
    (hr : ∀ j u, r = some (j, u) → j < es.size ∧ (es.getD j default).key = .int .i64 c) :
    (Instr.mapUpdate 76 (.map (some m)) (.int .i64 c) v).run Tryz.prog w = .ok () { w with heap := w.heap.setIfInBounds m (match r with
      | none => .map (es.push { key := .int .i64 c, val := v, born := clock }) (clock + 1)
      | some p => .map (es.modify p.1 fun e => { e with key := .int .i64 c, val := v }) clock) } := by
  have hik : IsKey (.int .i64) (.int .i64 c) := rfl
  have hck := fun b => run_checkKey (w := w) Tryz.underlying3 hik b 9999
  have hfk := run_findKey (w := w) Tryz.underlying3 hf
  cases r with
  | none =>
    have hset := run_setObj_map (P := Tryz.prog) (.map (es.push { key := .int .i64 c, val := v, born := clock }) (clock + 1)) hm
    simp [Instr.mapUpdate, run_underlying Tryz.underlying76, zba hm, hck, hfk, hset]
  | some p =>
    obtain ⟨j, u⟩ := p
    obtain ⟨hj, hkj⟩ := hr j u rfl
    have hold : ((es[j]?).map (·.key)).getD (.int .i64 c) = .int .i64 c := by
      rw [← hkj]; simp [Array.getD_eq_getD_getElem?, hj]
    have hset := run_setObj_map (P := Tryz.prog) (.map (es.modify j fun e => { e with key := .int .i64 c, val := v }) clock) hm
    simp [Instr.mapUpdate, run_underlying Tryz.underlying76, zba hm, hck, hfk, hold, Instr.keyThatStays, zkN hik, hset]
structure Grp (O : World → Value → Nat → List Int → Prop) (w : World) (m : Nat) (gs : GI) (es : Array MapEntry) (clock : Nat) (blk : Nat → Nat) : Prop where
  heap : w.heap[m]? = some (.map es clock)
  st : zd1 es clock
  size : es.size = gs.length
  key : ∀ i, i < gs.length → (es.getD i default).key = .int .i64 (gs.getD i default).1
  val : ∀ i, i < gs.length → O w (es.getD i default).val (blk i) (gs.getD i default).2
  apart : ∀ i j, i < gs.length → j < gs.length → blk i = blk j → i = j
section
variable {O : World → Value → Nat → List Int → Prop} {w : World} {m : Nat} {gs : GI} {es : Array MapEntry} {clock : Nat} {blk : Nat → Nat}
theorem Grp.find (h : Grp O w m gs es clock blk) (c : Int) : (c ∉ gs.map Prod.fst ∧ Instr.findNow (.int .i64) (.int .i64 c) es.toList 0 = some none) ∨
    ∃ j, j < gs.length ∧ (gs.getD j default).1 = c ∧ Instr.findNow (.int .i64) (.int .i64 c) es.toList 0 = some (some (j, (es.getD j default).val)) := by
  have hg : ∀ j, j < gs.length → (gs.map Prod.fst).getD j 0 = (gs.getD j default).1 := fun j hj => by simp [List.getD, hj]
  rcases zrt es.toList (gs.map Prod.fst) 0 c (by simp [h.size]) (fun j hj => by
    rw [List.length_map] at hj
    rw [zbr, h.key j hj, hg j hj]) with h1 | ⟨j, h1, h2, h3⟩
  · exact .inl h1
  · rw [List.length_map] at h1
    rw [hg j h1] at h2
    refine .inr ⟨j, h1, h2, ?_⟩
    rw [h3, Nat.zero_add, zbr]
theorem ziB {P : Program} {w : World} {t kt e : TypeId} {d : TypeDesc} {kv : Value} (ht : P.underlying t = some (.map kt e)) (hkd : P.underlying kt = some d) (hik : IsKey d kv) {zv : Value} (hz : ∀ w, (zeroValue e).run P w = .ok zv w)
    {ok : Bool} {m : Nat} {ents : Array MapEntry} {clock : Nat} (hm : w.heap[m]? = some (.map ents clock)) {r : Option (Nat × Value)} (hf : Instr.findNow d kv ents.toList 0 = some r) :
    (Instr.lookup t (.map (some m)) kv ok).run P w = .ok (if ok then .tuple #[zda r zv, .bool r.isSome] else zda r zv) w := by
  have hfk := run_findKey (w := w) hkd hf
  have hck : ∀ b, (Instr.checkKey b 10000 kt kv).run P w = .ok () w := fun b => run_checkKey hkd hik b 9999
  cases r with
  | none => simp [Instr.lookup, run_underlying ht, zba hm, hck, hfk, hz, zda]
  | some p => obtain ⟨i, v⟩ := p; simp [Instr.lookup, run_underlying ht, zba hm, hck, hfk, zda]
theorem zub {w : World} {m : Nat} {es : Array MapEntry} {clock : Nat} (h : w.heap[m]? = some (.map es clock)) {c : Int} (hf : Instr.findNow (.int .i64) (.int .i64 c) es.toList 0 = some none) : (Instr.lookup 76 (.map (some m)) (.int .i64 c) false).run Tryz.prog w = .ok (.slice none 0 0) w := by
  have hz : ∀ w, (zeroValue 33).run Tryz.prog w = .ok (.slice none 0 0) w := fun w => by kernel_rfl
  simpa [zda] using ziB (ok := false) Tryz.underlying76 Tryz.underlying3 (show IsKey (.int .i64) (.int .i64 c) from rfl) hz h hf
theorem zuc {w : World} {m : Nat} {es : Array MapEntry} {clock : Nat} (h : w.heap[m]? = some (.map es clock)) {c : Int} {j : Nat} {v : Value} (hf : Instr.findNow (.int .i64) (.int .i64 c) es.toList 0 = some (some (j, v))) : (Instr.lookup 76 (.map (some m)) (.int .i64 c) false).run Tryz.prog w = .ok v w := by
  have hz : ∀ w, (zeroValue 33).run Tryz.prog w = .ok (.slice none 0 0) w := fun w => by kernel_rfl
  simpa [zda] using ziB (ok := false) Tryz.underlying76 Tryz.underlying3 (show IsKey (.int .i64) (.int .i64 c) from rfl) hz h hf
theorem zrK {i j : Nat} {x : Int × List Int} (hi : i < gs.length) : (gs.set i x).getD j default = if j = i then x else gs.getD j default := by
  by_cases h : j = i
  · subst h; simp [List.getD, hi]
  · rw [if_neg h]; simp [List.getD, Ne.symm h]
theorem zrI {j : Nat} {x : Int × List Int} (hj : j < gs.length + 1) : (gs ++ [x]).getD j default = if j = gs.length then x else gs.getD j default := by
  by_cases h : j = gs.length
  · subst h; simp [List.getD]
  · rw [if_neg h]; simp [List.getD, List.getElem?_append_left (show j < gs.length by omega)]
theorem Grp.set {w1 : World} (h : Grp O w m gs es clock blk) {c : Int} {i : Nat} {u v : Value} {g : Nat} {zs : List Int} (hi : i < gs.length) (hc : (gs.getD i default).1 = c)
    (hf : Instr.findNow (.int .i64) (.int .i64 c) es.toList 0 = some (some (i, u))) (hm : w1.heap[m]? = some (.map es clock))
    (hv : ∀ o, O { w1 with heap := w1.heap.setIfInBounds m o } v g zs)
    (ho : ∀ o j, j < gs.length → j ≠ i → O { w1 with heap := w1.heap.setIfInBounds m o } (es.getD j default).val (blk j) (gs.getD j default).2) (hg : ∀ j, j < gs.length → j ≠ i → blk j ≠ g) :
    ∃ es', (Instr.mapUpdate 76 (.map (some m)) (.int .i64 c) v).run Tryz.prog w1 = .ok () { w1 with heap := w1.heap.setIfInBounds m (.map es' clock) } ∧
      Grp O { w1 with heap := w1.heap.setIfInBounds m (.map es' clock) } m (gs.set i (c, zs)) es' clock (fun j => if j = i then g else blk j) ∧ ∀ j, j < gs.length → (es'.getD j default).born = (es.getD j default).born := by
  have hj : i < es.size := by rw [h.size]; exact hi
  have hmod : ∀ j, (es.modify i fun e => { e with key := .int .i64 c, val := v }).getD j default = if j = i then { key := .int .i64 c, val := v, born := (es.getD i default).born } else es.getD j default := fun j => zlX hj
  refine ⟨es.modify i fun e => { e with key := .int .i64 c, val := v }, zp5 hm hf (fun j u' e => ?_), ⟨?_, ?_, ?_, fun j hj' => ?_, fun j hj' => ?_, fun j k hj' hk' e => ?_⟩, fun j hj' => ?_⟩
  · cases e; exact ⟨hj, by rw [h.key i hi, hc]⟩
  · simp [zi hm]
  · refine ⟨fun p q hp hq he => ?_, fun p hp => ?_⟩
    · simp only [Array.size_modify] at hp hq
      rw [hmod, hmod] at he
      refine h.st.inj p q hp hq ?_
      split at he <;> split at he <;> simp_all
    · simp only [Array.size_modify] at hp
      rw [hmod p]
      by_cases e : p = i
      · rw [if_pos e]; exact h.st.lt i hj
      · rw [if_neg e]; exact h.st.lt p hp
  · simp [h.size]
  · rw [List.length_set] at hj'
    rw [hmod, zrK hi]
    split
    · rfl
    · exact h.key j hj'
  · rw [List.length_set] at hj'
    rw [hmod, zrK hi]
    split
    · exact hv _
    · exact ho _ j hj' ‹_›
  · rw [List.length_set] at hj' hk'
    by_cases e1 : j = i <;> by_cases e2 : k = i
    · omega
    · rw [if_pos e1, if_neg e2] at e; exact absurd e.symm (hg k hk' e2)
    · rw [if_neg e1, if_pos e2] at e; exact absurd e (hg j hj' e1)
    · rw [if_neg e1, if_neg e2] at e; exact h.apart j k hj' hk' e
  · rw [hmod j]
    by_cases e : j = i
    · rw [if_pos e, e]
    · rw [if_neg e]
theorem Grp.add {w1 : World} (h : Grp O w m gs es clock blk) {c : Int} {v : Value} {g : Nat} {zs : List Int}
    (hf : Instr.findNow (.int .i64) (.int .i64 c) es.toList 0 = some none) (hm : w1.heap[m]? = some (.map es clock))
    (hv : ∀ o, O { w1 with heap := w1.heap.setIfInBounds m o } v g zs)
    (ho : ∀ o j, j < gs.length → O { w1 with heap := w1.heap.setIfInBounds m o } (es.getD j default).val (blk j) (gs.getD j default).2) (hg : ∀ j, j < gs.length → blk j ≠ g) :
    ∃ es', (Instr.mapUpdate 76 (.map (some m)) (.int .i64 c) v).run Tryz.prog w1 = .ok () { w1 with heap := w1.heap.setIfInBounds m (.map es' (clock + 1)) } ∧
      Grp O { w1 with heap := w1.heap.setIfInBounds m (.map es' (clock + 1)) } m (gs ++ [(c, zs)]) es' (clock + 1) (fun j => if j = gs.length then g else blk j) := by
  have hget : ∀ j, (es.push { key := .int .i64 c, val := v, born := clock }).getD j default = if j = gs.length then { key := .int .i64 c, val := v, born := clock } else es.getD j default := by
    intro j
    rw [← h.size]
    simp only [Array.getD_eq_getD_getElem?, Array.getElem?_push]
    split <;> rfl
  refine ⟨es.push { key := .int .i64 c, val := v, born := clock }, zp5 hm hf (fun j u' e => by cases e), ⟨?_, zl4 h.st _ _, ?_, fun j hj' => ?_, fun j hj' => ?_, fun j k hj' hk' e => ?_⟩⟩
  · simp [zi hm]
  · simp [h.size]
  · simp only [List.length_append, List.length_cons, List.length_nil] at hj'
    rw [hget, zrI hj']
    split
    · rfl
    · exact h.key j (by omega)
  · simp only [List.length_append, List.length_cons, List.length_nil] at hj'
    rw [hget, zrI hj']
    split
    · exact hv _
    · exact ho _ j (by omega)
  · simp only [List.length_append, List.length_cons, List.length_nil] at hj' hk'
    by_cases e1 : j = gs.length <;> by_cases e2 : k = gs.length
    · omega
    · rw [if_pos e1, if_neg e2] at e; exact absurd e.symm (hg k (by omega))
    · rw [if_neg e1, if_pos e2] at e; exact absurd e (hg j (by omega))
    · rw [if_neg e1, if_neg e2] at e; exact h.apart j k (by omega) (by omega) e
end
end Go.Ab
namespace Go.Ab
open Go Go.Proofs
set_option maxRecDepth 10000
set_option maxHeartbeats 4000000
variable {T:Nat→Obj→Prop}
abbrev ziA (d:Array (Int)):Ob := .row 1 (d.toList.map (D.int .i64))
end Go.Ab
namespace Go.Ab
open Go Go.Proofs
set_option maxRecDepth 10000
set_option maxHeartbeats 4000000
variable {T:Nat→Obj→Prop}
set_option maxHeartbeats 1000000 in
theorem zkg (d:Array Int) (hs:d.size≤536870912) (hd:Steps d):Fn Tryz.prog T zbJ [.own 0] [ziA d] (.own 0) [some (ziA d)]:=by
 have hln:d.toList.length=d.size:=Array.length_toList
 refine zan zt zdb (by show 1≤61;decide) _ (fun e env mem n h=>h) ?_
 (repeat' ((conv=>whnf);first|refine vA ?_|(refine vF ?_ ?_<;>intro hc<;>try simp only [vL] at hc)|refine vJ fun hg=>?_|refine vT ?_));all_goals try conv=>whnf
 ·refine ⟨trivial,_,[(0,0)],[],rfl,.inl (by (repeat' exact rfl)),⟨by rfl,by rfl,by rfl,trivial,by (repeat' first|exact trivial|exact rfl|refine And.intro ?_ ?_|refine ⟨_,rfl,?_⟩|exact of_decide_eq_true rfl)⟩,by (repeat' first|exact trivial|exact rfl|refine And.intro ?_ ?_)⟩
 refine zA (fun (i:Int)=>[(0,.own 0),(3,.d (.int .i64 (i))),(zf,.own 0)]) (fun (i:Int)=>[(0,some (ziA d))]) 1 (fun (i:Int) => ∃ k:Nat,i=k∧0 < k∧k≤d.size) (fun (i:Int)=>(d.size - i).toNat) (1) [(0,0)] [] (⟨1,rfl,by omega,by omega⟩) (by (refine ⟨rfl,rfl,rfl,?_,?_⟩;repeat' first|exact trivial|exact rfl|refine And.intro ?_ ?_|refine ⟨_,rfl,?_⟩|decide)) ?_
 rintro _ ⟨k,rfl,hk0,hk1⟩
 (repeat' ((conv=>whnf);first|refine vA ?_|(refine vF ?_ ?_<;>intro hc<;>try simp only [vL] at hc)|refine vJ fun hg=>?_|refine vT ?_|(refine vQ ?_ fun x hx=>?_;·omega)|((first|refine vO ?_ ?_|refine vP ?_ ?_);·first|omega|(simp only [vM] at *;omega))|(refine vU ?_ ?_;·kernel_rfl)|fail));all_goals try conv=>whnf
 ·have g1:=zd2 (zfr k ‹d.toList[(k:Int).toNat]? = some _› rfl)
  have g2:=zd2 (zfr (k - 1) ‹d.toList[((k:Int) - 1).toNat]? = some _› (by omega))
  exact absurd (g1.1.trans (‹_=_›.trans g2.1.symm)) (hd k hk0 g1.2)
 ·refine ⟨_,[(0,0)],[],?_,?_,by (refine ⟨rfl,rfl,rfl,?_,?_⟩;repeat' first|exact trivial|exact rfl|refine And.intro ?_ ?_|refine ⟨_,rfl,?_⟩|decide)⟩
  ·exact ⟨k+1,by omega,by omega,by omega⟩
  ·(omega)
 ·refine ⟨trivial,_,[(0,0)],[],rfl,.inl (by (repeat' exact rfl)),⟨by rfl,by rfl,by rfl,trivial,by (repeat' first|exact trivial|exact rfl|refine And.intro ?_ ?_|refine ⟨_,rfl,?_⟩|exact of_decide_eq_true rfl)⟩,by (repeat' first|exact trivial|exact rfl|refine And.intro ?_ ?_)⟩
set_option maxHeartbeats 1000000 in
theorem zjG (d:Array Int) (hs:d.size≤536870912) (hd : ¬Steps d):Fn Tryz.prog T zbJ [.own 0] [ziA d] (.own 1) [none,some (.row 1 ((ddA d d.size).map (D.int .i64)))]:=by
 generalize hR:(ddA d d.size).map (D.int .i64)=R
 have hln:d.toList.length=d.size:=Array.length_toList
 refine zan zt zdb (by show 1≤61;decide) _ (fun e env mem n h=>h) ?_
 (repeat' ((conv=>whnf);first|refine vA ?_|(refine vF ?_ ?_<;>intro hc<;>try simp only [vL] at hc)|refine vJ fun hg=>?_|refine vT ?_));all_goals try conv=>whnf
 ·exact absurd (fun j hj0 hj1=>by omega) hd
 refine zA (fun (i:Int)=>[(0,.own 0),(3,.d (.int .i64 (i))),(zf,.own 0)]) (fun (i:Int)=>[(0,some (ziA d))]) 1 (fun (i:Int) => ∃ k:Nat,i=k∧0 < k∧k≤d.size ∧ ∀ j,0 < j→j < k→d[j]! ≠ d[j - 1]!) (fun (i:Int)=>(d.size - i).toNat) (1) [(0,0)] [] (⟨1,rfl,by omega,by omega,fun j _ _=>by omega⟩) (by (refine ⟨rfl,rfl,rfl,?_,?_⟩;repeat' first|exact trivial|exact rfl|refine And.intro ?_ ?_|refine ⟨_,rfl,?_⟩|decide)) ?_
 rintro _ ⟨k,rfl,hk0,hk1,hk⟩
 (repeat' ((conv=>whnf);first|refine vA ?_|(refine vF ?_ ?_<;>intro hc<;>try simp only [vL] at hc)|refine vJ fun hg=>?_|refine vT ?_|(refine vQ ?_ fun x hx=>?_;·omega)|((first|refine vO ?_ ?_|refine vP ?_ ?_);·first|omega|(simp only [vM] at *;omega))|(refine vU ?_ ?_;·kernel_rfl)|fail));all_goals try conv=>whnf
 ·have g1:=zd2 (zfr k ‹d.toList[(k:Int).toNat]? = some _› rfl)
  have g2:=zd2 (zfr (k - 1) ‹d.toList[((k:Int) - 1).toNat]? = some _› (by omega))
  have hkk:d[k]! = d[k - 1]! := g1.1.trans (‹_=_›.trans g2.1.symm)
  refine zA (fun ((w,q,xs):Int×Int×List D)=>[(0,.own 0),(3,.d (.int .i64 (w))),(4,.view 0 k ((d.toList.map (D.int .i64)).length - k)),(5,.d (.int .i64 (q))),(zf,.own 0)]) (fun ((w,q,xs):Int×Int×List D)=>[(0,some (.row 1 xs))]) 1 (fun ((w,q,xs):Int×Int×List D) => ∃ (a b:Nat) (e:Array Int),w=a∧q=b∧xs=e.toList.map (D.int .i64)∧0 < b∧k+b≤d.size∧a < k+b∧e.size=d.size∧e.toList.take a=ddA d (k+b) ∧ ∀ j,k+b - 1≤j→j < d.size→e[j]! = d[j]!) (fun ((w,q,xs):Int×Int×List D)=>(d.size - k - q).toNat) (((k:Int),(1:Int),d.toList.map (D.int .i64))) [(0,0)] [] (⟨k,1,d,rfl,rfl,rfl,by omega,by omega,by omega,rfl,zwD hk0 g1.2 hk hkk,fun _ _ _=>rfl⟩) (by (refine ⟨rfl,rfl,rfl,?_,?_⟩;repeat' first|exact trivial|exact rfl|refine And.intro ?_ ?_|refine ⟨_,rfl,?_⟩|decide)) ?_
  rintro ⟨_,_,_⟩ ⟨a,b,e,rfl,rfl,rfl,hb0,hb1,hab,he,ha,hj⟩
  have hle:e.toList.length=e.size:=Array.length_toList
  (repeat' ((conv=>whnf);first|refine vA ?_|((first|refine vD ?_ ?_|refine vF ?_ ?_)<;>intro hc<;>try simp only [vL] at hc)|refine vT ?_|refine vN ‹_› ?_|(refine vQ ?_ fun x hx=>?_;·omega)|((first|refine vO ?_ ?_|refine vP ?_ ?_);·first|omega|(simp only [vM] at *;omega))|(refine vU ?_ ?_;·kernel_rfl)|fail));all_goals try conv=>whnf
  ·have h1:=zd2 ‹e.toList[k+((b:Nat):Int).toNat]? = some _›
   have h2:=zd2 (zfr (i:=((k+b - 1:Nat):Int)) (k+b - 1) (by rw [← ‹e.toList[k+(((b:Nat):Int) - 1).toNat]? = some _›];congr 1;omega) rfl)
   simp only [Int.toNat_natCast] at h1
   have e1:=hj (k+b) (by omega) (by omega)
   have e2:=hj (k+b - 1) (by omega) (by omega)
   refine ⟨(_,_,_),[(0,0)],[],?_,?_,by (refine ⟨rfl,rfl,rfl,?_,?_⟩;repeat' first|exact trivial|exact rfl|refine And.intro ?_ ?_|refine ⟨_,rfl,?_⟩|decide)⟩
   ·exact ⟨a+1,b+1,e.setIfInBounds a e[k+b]!,by omega,by omega,by rw [h1.1];simp [List.map_set],by omega,by omega,by omega,by simp [he],
     by rw [zxn (by omega),ha,← Nat.add_assoc,zyS (by rw [← e1,← e2,h1.1,h2.1];assumption),e1],
     fun j h0 h1=>by rw [zyt (by omega)];exact hj j (by omega) h1⟩
   ·((simp only [vM] at *;omega))
  ·have h1:=zd2 ‹e.toList[k+((b:Nat):Int).toNat]? = some _›
   have h2:=zd2 (zfr (i:=((k+b - 1:Nat):Int)) (k+b - 1) (by rw [← ‹e.toList[k+(((b:Nat):Int) - 1).toNat]? = some _›];congr 1;omega) rfl)
   simp only [Int.toNat_natCast] at h1
   have e1:=hj (k+b) (by omega) (by omega)
   have e2:=hj (k+b - 1) (by omega) (by omega)
   refine ⟨(_,_,_),[(0,0)],[],?_,?_,by (refine ⟨rfl,rfl,rfl,?_,?_⟩;repeat' first|exact trivial|exact rfl|refine And.intro ?_ ?_|refine ⟨_,rfl,?_⟩|decide)⟩
   ·exact ⟨a,b+1,e,rfl,by omega,rfl,by omega,by omega,by omega,he,
     by rw [ha,← Nat.add_assoc,zx2 (by omega) (by rw [← e1,← e2,h1.1,h2.1];assumption)],
     fun j h0 h1=>hj j (by omega) h1⟩
   ·((simp only [vM] at *;omega))
  ·have hE:=zx1 (enc:=(D.int .i64)) (e:=e) (z:=(D.int .i64) 0) (a:=a) (n:=(e.toList.map (D.int .i64)).length - a) (by omega)
   rw [ha,show k+b=d.size by omega,hR] at hE
   subst hE
   refine ziL.mk (by simp only [List.length_append,List.length_take,List.length_replicate,List.length_drop,List.length_map,hle];omega) ?_
   (repeat' ((conv=>whnf);refine vT ?_));all_goals try conv=>whnf
   refine ⟨trivial,_,[(1,1)],[],rfl,.inl (by (repeat' exact rfl)),⟨by rfl,by rfl,by rfl,trivial,by (repeat' first|exact trivial|exact rfl|refine And.intro ?_ ?_|refine ⟨_,rfl,?_⟩|exact of_decide_eq_true rfl)⟩,by (repeat' first|exact trivial|refine And.intro ?_ ?_)⟩
 ·refine ⟨_,[(0,0)],[],?_,?_,by (refine ⟨rfl,rfl,rfl,?_,?_⟩;repeat' first|exact trivial|exact rfl|refine And.intro ?_ ?_|refine ⟨_,rfl,?_⟩|decide)⟩
  ·exact ⟨k+1,by omega,by omega,by omega,fun j h0 h1=>by
    by_cases hjk:j=k
    ·subst hjk
     have g1:=zd2 (zfr j ‹d.toList[(j:Int).toNat]? = some _› rfl)
     have g2:=zd2 (zfr (j - 1) ‹d.toList[((j:Int) - 1).toNat]? = some _› (by omega))
     rw [g1.1,g2.1];assumption
    ·exact hk j h0 (by omega)⟩
  ·(omega)
 ·exact absurd (fun j h0 h1=>hk j h0 (by omega)) hd
end Go.Ab
namespace Go.Ab
open Go Go.Proofs Go.MapKept
variable {T : Nat → Obj → Prop}
def O2 (base : Nat) (w : World) (v : Value) (g : Nat) (zs : List Int) : Prop := ∃ cap c e, v = .slice (some ⟨g, 0, none⟩) zs.length cap ∧ base ≤ g ∧ w.heap[g]? = some (.cells c e (0, 0)) ∧ zs.length ≤ cap ∧ cap ≤ c.size ∧ zs.length ≤ 536870912 ∧
  ∀ j, j < zs.length → c.getD j undef = .int .i64 (zs.getD j 0)
def zay (zs : List Int) : Ob := .row 1 (zs.map (D.int .i64))
theorem O2.kept {base : Nat} {w w' : World} {v : Value} {g : Nat} {zs : List Int} (h : O2 base w v g zs) (hg : w'.heap[g]? = w.heap[g]?) : O2 base w' v g zs := by
  obtain ⟨cap, c, e, h1, h2, h3, h4⟩ := h
  exact ⟨cap, c, e, h1, h2, hg.trans h3, h4⟩
def zqG (T : Nat → Obj → Prop) (w : World) (g : Nat) : zq where
  w0 := w
  O := fun b => b < w.heap.size ∧ b ≠ g
  R := fun b => b = g
  nt := 0
  pin := fun b o => T b o ∧ w.heap[b]? = some o ∧ b ≠ g
  pinO := fun b o h => ⟨zi h.2.1, h.2.2⟩
  ghost := fun _ => undef
  small := Nat.zero_le _
  dfr := []
  inv := fun _ _ _ _ => True
  stab := fun _ _ _ _ _ _ _ _ _ _ _ _ => trivial
  mono := fun _ _ _ _ _ _ _ => trivial
theorem zzT {base : Nat} {w : World} {v : Value} {g : Nat} {zs : List Int} (h : O2 base w v g zs) :
    Sim (zqG T w g) (fun _ => .undef) (zo [some (zay zs)]) (fun i => 1 ≤ i) (fun _ => some g) ⟨#[], []⟩ w ∧
    VSim (fun _ => some g) (zo [some (zay zs)]) (fun i => 1 ≤ i) ((zqG T w g).X (fun _ => some g) (zo [some (zay zs)])) w (.own 0) v := by
  obtain ⟨cap, c, e, rfl, h2, h3, h4, h5, h6, h7⟩ := h
  have hm : ∀ i, zo [some (zay zs)] i = if i = 0 then some (zay zs) else none := fun i => by
    match i with
    | 0 => rfl
    | i + 1 => rfl
  have e0 : ∀ i, zo [some (zay zs)] i ≠ none → i = 0 := fun i hi => by
    rw [hm] at hi
    by_cases h : i = 0
    · exact h
    · rw [if_neg h] at hi; exact absurd rfl hi
  refine ⟨⟨fun t => .undef _, fun id ob hid => ?_, fun i j b hi hj _ _ => by rw [e0 i hi, e0 j hj], fun id b hi hb => ?_, fun id hid => by rw [hm, if_neg (by omega)], ⟨rfl, rfl, rfl, Nat.le_refl _, fun _ _ _ => rfl, fun b c e h => ⟨c, h, rfl⟩⟩, ⟨rfl, rfl⟩, fun b hb => hb.1, fun b o h => h.2.1, fun _ _ _ => trivial⟩, ?_⟩
  · rw [hm] at hid
    by_cases h : id = 0
    · rw [if_pos h] at hid
      cases hid
      refine .row 1 (zs.map (D.int .i64)) g c e rfl h3 (by rw [List.length_map]; omega) (by rw [List.length_map]; omega) (fun x hx => ?_) (fun i j hi hj => ?_)
      · obtain ⟨y, -, rfl⟩ := List.mem_map.1 hx
        rfl
      · rw [List.length_map] at hi
        have : j = 0 := by omega
        subst this
        rw [Nat.mul_one, Nat.add_zero, h7 i hi]
        rw [show (zs.map (D.int .i64)).getD i .nil = .int .i64 (zs.getD i 0) by simp [List.getD, hi]]
        exact .int .i64 _ (by simp)
    · rw [if_neg h] at hid; cases hid
  · cases hb
    exact ⟨fun h => h.2 rfl, .inl rfl⟩
  · have := VSim.own (σ := fun _ => some g) (M := zo [some (zay zs)]) (F := fun i => 1 ≤ i) (X := (zqG T w g).X (fun _ => some g) (zo [some (zay zs)])) (w := w) 0 1 (zs.map (D.int .i64)) g cap c e rfl rfl h3 (by rw [List.length_map]; omega) (by omega)
    rwa [List.length_map] at this
theorem zt9 {w w' : World} {g : Nat} (h : ztD (fun b => b = g) w w') : w.grownBy w' (some g) :=
  ⟨h.os, h.tape, h.output, h.size, fun b hb hne => h.block b hb (fun e => hne (by rw [e]))⟩
theorem zph {σ : Nat → Option Nat} {M : Nat → Option Ob} {F X : Nat → Prop} {w : World} {id : Nat} {ys : List Int} {v : Value} (hV : VSim σ M F X w (.own id) v) (hO : za5 σ M F X w id (zay ys)) (hm : M id = some (zay ys)) (hl : ys.length ≤ 536870912) (h0 : ys ≠ []) :
    ∃ g, σ id = some g ∧ O2 0 w v g ys := by
  have hlen : (ys.map (D.int .i64)).length = ys.length := List.length_map _
  unfold zay at hm hO
  have pos : 0 < ys.length := List.length_pos_iff.2 h0
  cases hV with
  | ownDead _ ad l c h1 => rw [hm] at h1; cases h1
  | ownNil _ s h1 => rw [hm] at h1; simp at h1; exact absurd h1.2 h0
  | own _ s xs b cap c e h1 h2 h3 h4 h5 =>
    rw [hm] at h1
    simp only [Option.some.injEq, Ob.row.injEq] at h1
    obtain ⟨rfl, rfl⟩ := h1
    refine ⟨b, h2, cap, c, e, by rw [hlen], Nat.zero_le _, h3, by omega, by omega, hl, fun j hj => ?_⟩
    generalize hxs : ys.map (D.int .i64) = xs at hO hlen
    cases hO with
    | nilrow s h => rw [List.length_nil] at hlen; omega
    | row s xs' b' c' e' g1 g2 g3 g4 g5 g6 =>
      rw [h2] at g1; cases g1
      rw [h3] at g2; cases g2
      have := g6 j 0 (by omega) (by omega)
      rw [Nat.mul_one, Nat.add_zero, ← hxs, show (ys.map (D.int .i64)).getD j .nil = .int .i64 (ys.getD j 0) by simp [List.getD, hj]] at this
      generalize c.getD j undef = z at this ⊢
      cases this; rfl
theorem zq9 {f : Nat} {zs ys : List Int} {id : Nat} {obs' : List (Option Ob)} (hf : Fn Tryz.prog T f [.own 0] [zay zs] (.own id) obs') (hid : zo obs' id = some (zay ys)) (hl : ys.length ≤ 536870912) (h0 : ys ≠ [])
    {base : Nat} {w : World} {v : Value} {g : Nat} (h : O2 base w v g zs) (hT : ∀ b o, T b o → w.heap[b]? = some o ∧ b ≠ g) (hb : base ≤ w.heap.size) :
    Calls Tryz.prog f #[v] w fun e w' => ∃ v' g', e = .returned v' ∧ O2 base w' v' g' ys ∧ (g' = g ∨ w.heap.size ≤ g') ∧ w.grownBy w' (some g) := by
  obtain ⟨hS, hV⟩ := zzT (T := T) h
  have hbg : base ≤ g := by obtain ⟨_, _, _, _, h2, _⟩ := h; exact h2
  intro cs
  obtain ⟨v', w', σ', ⟨fr, hc, hfn, hlk⟩, hS', hV', -⟩ := hf.2 (zqG T w g) (fun _ => some g) ⟨#[], []⟩ w #[v] (fun b o ht => ⟨ht, hT b o ht⟩) (fun _ _ _ _ => trivial) hS rfl (fun i hi => by
    match i, hi with
    | 0, _ => exact hV) cs
  obtain ⟨g', hg', cap, c, e, q1, -, q2⟩ := zph hV' (hS'.mem id _ hid) hid hl h0
  have hmine := (hS'.mine id g' (by rw [hid]; simp) hg').2
  refine ⟨.returned v', w', fr, ⟨v', g', rfl, ⟨cap, c, e, q1, ?_, q2⟩, hmine, zt9 hS'.kept⟩, hc, hfn, hlk⟩
  rcases hmine with rfl | h
  · exact hbg
  · exact Nat.le_trans hb h
end Go.Ab
namespace Go.Ab
open Go Go.Proofs Go.MapKept
def inC (rank cell : List Int) (k : Nat) (c : Int) : List Int := ((List.range k).filter fun w => at0 cell w == c).map (at0 rank)
def zJ (cell rank : List Int) (k : Nat) : GI := (zx (cell.take k)).map fun c => (c, inC rank cell k c)
theorem zi6 {cell rank : List Int} {k : Nat} {c : Int} : inC rank cell (k + 1) c = inC rank cell k c ++ (if at0 cell k = c then [at0 rank k] else []) := by
  unfold inC
  rw [List.range_succ, List.filter_append, List.map_append]
  congr 1
  by_cases h : at0 cell k = c
  · simp [h]
  · simp [h]
theorem zti {cell rank : List Int} {k : Nat} {c : Int} : (inC rank cell k c).length ≤ k := by
  unfold inC
  rw [List.length_map]
  have := List.length_filter_le (fun w => at0 cell w == c) (List.range k)
  rwa [List.length_range] at this
theorem zlW {l : List Int} {c : Int} : zx (l ++ [c]) = if c ∈ zx l then zx l else zx l ++ [c] := by
  simp only [zx, List.foldl_append, List.foldl_cons, List.foldl_nil]
  by_cases h : c ∈ List.foldl (fun l c => if c ∈ l then l else l ++ [c]) [] l
  · exact (if_pos h).trans (if_pos h).symm
  · exact (if_neg h).trans (if_neg h).symm
theorem zoa : ∀ {l acc : List Int}, acc.Nodup → (l.foldl (fun l c => if c ∈ l then l else l ++ [c]) acc).Nodup
  | [], acc, h => h
  | x :: l, acc, h => by
    rw [List.foldl_cons]
    refine zoa ?_
    split
    · exact h
    · rename_i hx
      exact List.nodup_append.2 ⟨h, by simp, fun a ha b hb => by simp at hb; subst hb; intro e; subst e; exact hx ha⟩
theorem zkB {l : List Int} : (zx l).Nodup := zoa List.nodup_nil
theorem zsk {cell : List Int} {k : Nat} (h : k < cell.length) : cell.take (k + 1) = cell.take k ++ [at0 cell k] := by
  rw [List.take_add_one, zdN h]; rfl
theorem zpN {cell rank : List Int} {k : Nat} : (zJ cell rank k).map Prod.fst = zx (cell.take k) := by
  rw [zJ, List.map_map]
  exact (List.map_congr_left fun _ _ => rfl).trans (List.map_id _)
theorem zzb {cell rank : List Int} {k : Nat} (hk : k < cell.length) (h : at0 cell k ∉ (zJ cell rank k).map Prod.fst) : zJ cell rank (k + 1) = zJ cell rank k ++ [(at0 cell k, [at0 rank k])] := by
  rw [zpN] at h
  have h0 : inC rank cell k (at0 cell k) = [] := by
    rw [inC, List.map_eq_nil_iff, List.filter_eq_nil_iff]
    intro w hw he
    rw [List.mem_range] at hw
    refine h (zf8.2 ?_)
    rw [← (show at0 cell w = at0 cell k by simpa using he)]
    exact List.mem_of_getElem? (i := w) (by rw [List.getElem?_take, if_pos hw, zdN (by omega)])
  rw [zJ, zsk hk, zlW, if_neg h, List.map_append]
  congr 1
  · refine List.map_congr_left fun c hc => ?_
    rw [zi6, if_neg (fun e => h (by rw [e]; exact hc)), List.append_nil]
  · simp [zi6, h0]
theorem zzc {cell rank : List Int} {k i : Nat} (hk : k < cell.length) (hi : i < (zJ cell rank k).length) (hc : ((zJ cell rank k).getD i default).1 = at0 cell k) :
    zJ cell rank (k + 1) = (zJ cell rank k).set i (at0 cell k, ((zJ cell rank k).getD i default).2 ++ [at0 rank k]) := by
  have hl : i < (zx (cell.take k)).length := by simpa [zJ] using hi
  have hg : ∀ j (hj : j < (zx (cell.take k)).length), (zJ cell rank k)[j]'(by simpa [zJ] using hj) = ((zx (cell.take k))[j], inC rank cell k (zx (cell.take k))[j]) := fun j hj => by simp [zJ]
  have hci : (zx (cell.take k))[i] = at0 cell k := by
    rw [← hc]; simp [List.getD, hi, hg i hl]
  have hm : at0 cell k ∈ zx (cell.take k) := by rw [← hci]; exact List.getElem_mem _
  have hn : zJ cell rank (k + 1) = (zx (cell.take k)).map fun c => (c, inC rank cell (k + 1) c) := by rw [zJ, zsk hk, zlW, if_pos hm]
  rw [hn]
  refine List.ext_getElem (by simp [zJ]) fun j h1 h2 => ?_
  have hj : j < (zx (cell.take k)).length := by simpa using h1
  rw [List.getElem_map, List.getElem_set]
  by_cases e : i = j
  · subst e
    rw [if_pos rfl, hci, zi6, if_pos rfl]
    simp [List.getD, hi, hg i hl, hci]
  · rw [if_neg e, hg j hj, zi6, if_neg, List.append_nil]
    intro h
    exact e ((List.getElem_inj zkB).1 (hci.trans h))
def O1 (base : Nat) (w : World) (v : Value) (g : Nat) (zs : List Int) : Prop := w.ownsRow base 3 1 v zs.length (zs.map (Value.int .i64)) ∧ v.ownBlock = some g
theorem O1.kept {base : Nat} {w w' : World} {v : Value} {g : Nat} {zs : List Int} {row : Option Nat} (h : O1 base w v g zs) (hg : w.grownBy w' row) (hne : some g ≠ row) : O1 base w' v g zs := ⟨h.1.kept hg (.inr (by rw [h.2]; exact hne)), h.2⟩
theorem O1.lt {base : Nat} {w : World} {v : Value} {g : Nat} {zs : List Int} (h : O1 base w v g zs) : base ≤ g ∧ g < w.heap.size := h.1.lt g h.2
theorem O1.O2 {base : Nat} {w : World} {v : Value} {g : Nat} {zs : List Int} (h : O1 base w v g zs) (hl : zs.length ≤ 536870912) : O2 base w v g zs := by
  obtain ⟨⟨h1, h2⟩, h3⟩ := h
  rcases h2 with ⟨rfl, h2⟩ | ⟨g', cap, cur, rfl, h4, h5, h6, h7, h8, h9⟩
  · cases h3
  · cases h3
    refine ⟨cap, cur, 3, rfl, h4, h5, h6, by omega, hl, fun j hj => ?_⟩
    have : (cur.toList.take (zs.length * 1))[j]? = some (Value.int .i64 (zs.getD j 0)) := by rw [h9]; simp [hj, List.getD]
    rw [List.getElem?_take, if_pos (by omega)] at this
    rw [Array.getD_eq_getD_getElem?, ← Array.getElem?_toList, this]; rfl
theorem zer (w : World) (m : Nat) (o : Obj) : w.grownBy { w with heap := w.heap.setIfInBounds m o } (some m) :=
  ⟨rfl, rfl, rfl, by simp, fun k _ hk => by simp [Array.getElem?_setIfInBounds_ne (fun e : m = k => hk (by rw [e]))]⟩
section
variable {w : World} {base m : Nat} {gs : GI} {es : Array MapEntry} {clock : Nat} {blk : Nat → Nat}
theorem Grp.look1 (h : Grp (O1 base) w m gs es clock blk) (hmb : m < base) (c : Int) : ∃ v zs, ∃ tgt : List Int → GI, (v.ownBlock ≠ some m) ∧ (∀ w', w'.heap[m]? = w.heap[m]? → (Instr.lookup 76 (.map (some m)) (.int .i64 c) false).run Tryz.prog w' = .ok v w') ∧ w.ownsRow base 3 1 v zs.length (zs.map (Value.int .i64)) ∧
    ((∃ i, i < gs.length ∧ (gs.getD i default).1 = c ∧ zs = (gs.getD i default).2 ∧ tgt = fun ys => gs.set i (c, ys)) ∨ (c ∉ gs.map Prod.fst ∧ zs = [] ∧ tgt = fun ys => gs ++ [(c, ys)])) ∧
    ∀ w1 v' x, w.grownBy w1 v.ownBlock → w1.ownsRow base 3 1 v' (zs.length + 1) (zs.map (Value.int .i64) ++ [.int .i64 x]) → (v'.ownBlock = v.ownBlock ∨ v'.ownBlock = some w.heap.size ∨ ∃ g, v'.ownBlock = some g ∧ w.heap.size ≤ g) →
      ∃ w2 es' clock' blk', (Instr.mapUpdate 76 (.map (some m)) (.int .i64 c) v').run Tryz.prog w1 = .ok () w2 ∧ Grp (O1 base) w2 m (tgt (zs ++ [x])) es' clock' blk' ∧ w1.grownBy w2 (some m) := by
  have hmw : m < w.heap.size := zi h.heap
  have nn : ∀ {w1 : World} {v' : Value} {zs : List Int} {x : Int}, w1.ownsRow base 3 1 v' (zs.length + 1) (zs.map (Value.int .i64) ++ [.int .i64 x]) → ∃ g, O1 base w1 v' g (zs ++ [x]) := by
    intro w1 v' zs x ho
    have ho' : w1.ownsRow base 3 1 v' (zs ++ [x]).length ((zs ++ [x]).map (Value.int .i64)) := by simpa using ho
    rcases ho.2 with ⟨_, h0⟩ | ⟨g, cap, cur, rfl, _⟩
    · omega
    · exact ⟨g, ho', rfl⟩
  rcases h.find c with ⟨hn, hf⟩ | ⟨i, hi, hc, hf⟩
  · refine ⟨_, [], _, by simp [Value.ownBlock], fun w' hw' => zub (hw'.trans h.heap) hf, World.ownsRow_nil _ _ _ _, .inr ⟨hn, rfl, rfl⟩, fun w1 v' x hg ho hl => ?_⟩
    obtain ⟨g, hv⟩ := nn ho
    have hgw : w.heap.size ≤ g := by
      rcases hl with h1 | h1 | ⟨g', h1, h2⟩
      · rw [hv.2] at h1; cases h1
      · rw [hv.2] at h1; cases h1; exact Nat.le_refl _
      · rw [hv.2] at h1; cases h1; exact h2
    have hm1 : w1.heap[m]? = some (.map es clock) := (hg.block m hmw (by simp [Value.ownBlock])).trans h.heap
    obtain ⟨es', h1, h2⟩ := h.add (w1 := w1) (c := c) (v := v') (g := g) (zs := [] ++ [x]) hf hm1
      (fun o => hv.kept (zer w1 m o) (by simp; have := hv.lt; omega))
      (fun o j hj => ((h.val j hj).kept hg (by simp [Value.ownBlock])).kept (zer w1 m o) (by have := (h.val j hj).lt; simp; omega))
      (fun j hj => by have := (h.val j hj).lt; omega)
    exact ⟨_, es', _, _, h1, h2, zer _ _ _⟩
  · have hvi := h.val i hi
    refine ⟨_, (gs.getD i default).2, _, by rw [hvi.2]; have := hvi.lt; simp; omega, fun w' hw' => zuc (hw'.trans h.heap) hf, hvi.1, .inl ⟨i, hi, hc, rfl, rfl⟩, fun w1 v' x hg ho hl => ?_⟩
    rw [hvi.2] at hg hl
    obtain ⟨g, hv⟩ := nn ho
    have hgw : g = blk i ∨ w.heap.size ≤ g := by
      rcases hl with h1 | h1 | ⟨g', h1, h2⟩
      · rw [hv.2] at h1; cases h1; exact .inl rfl
      · rw [hv.2] at h1; cases h1; exact .inr (Nat.le_refl _)
      · rw [hv.2] at h1; cases h1; exact .inr h2
    have hmi : m ≠ blk i := by have := hvi.lt; omega
    have hm1 : w1.heap[m]? = some (.map es clock) := (hg.block m hmw (by simpa using hmi)).trans h.heap
    have hne : ∀ j, j < gs.length → j ≠ i → blk j ≠ blk i := fun j hj hji e => hji (h.apart j i hj hi e)
    obtain ⟨es', h1, h2, -⟩ := h.set (w1 := w1) (c := c) (u := (es.getD i default).val) (v := v') (g := g) (zs := (gs.getD i default).2 ++ [x]) hi hc hf hm1
      (fun o => hv.kept (zer w1 m o) (by simp; have := hv.lt; omega))
      (fun o j hj hji => ((h.val j hj).kept hg (by simpa using hne j hj hji)).kept (zer w1 m o) (by have := (h.val j hj).lt; simp; omega))
      (fun j hj hji => by
        have := (h.val j hj).lt
        rcases hgw with rfl | h3
        · exact hne j hj hji
        · omega)
    exact ⟨_, es', _, _, h1, h2, zer _ _ _⟩
end
end Go.Ab
namespace Go.Proofs
def Tryz.lays189_ren : Go.Shelf.Ren := ⟨fun | 189 => 68 | 125 => 101 | 257 => 100 | 128 => 143 | 129 => 144 | 294 => 134 | 295 => 135 | 296 => 136 | 297 => 137 | 298 => 138 | 299 => 139 | 216 => 140 | 300 => 141 | 301 => 142 | 328 => 166 | 329 => 167 | 330 => 168 | 331 => 169 | 332 => 170 | 215 => 145 | 343 => 192 | n => n, fun | 28 => 33 | 3 => 3 | 46 => 38 | 0 => 0 | 51 => 171 | 53 => 29 | 4 => 4 | 183 => 165 | 182 => 164 | 131 => 161 | 5 => 5 | 9 => 9 | 218 => 186 | 222 => 190 | 228 => 211 | 229 => 212 | n => n, fun | n => n⟩
theorem Tryz.lays189 : Go.Proofs.Lays.n189 Tryz.prog Tryz.lays189_ren := {
  mixed := by kernel_rfl
  f125 := Tryz.func101.trans (congrArg some (by kernel_rfl))
  f128 := Tryz.func143.trans (congrArg some (by kernel_rfl))
  f129 := Tryz.func144.trans (congrArg some (by kernel_rfl))
  f189 := Tryz.func68.trans (congrArg some (by kernel_rfl))
  f215 := Tryz.func145.trans (congrArg some (by kernel_rfl))
  f216 := Tryz.func140.trans (congrArg some (by kernel_rfl))
  f257 := Tryz.func100.trans (congrArg some (by kernel_rfl))
  f294 := Tryz.func134.trans (congrArg some (by kernel_rfl))
  f295 := Tryz.func135.trans (congrArg some (by kernel_rfl))
  f296 := Tryz.func136.trans (congrArg some (by kernel_rfl))
  f297 := Tryz.func137.trans (congrArg some (by kernel_rfl))
  f298 := Tryz.func138.trans (congrArg some (by kernel_rfl))
  f299 := Tryz.func139.trans (congrArg some (by kernel_rfl))
  f300 := Tryz.func141.trans (congrArg some (by kernel_rfl))
  f301 := Tryz.func142.trans (congrArg some (by kernel_rfl))
  f328 := Tryz.func166.trans (congrArg some (by kernel_rfl))
  f329 := Tryz.func167.trans (congrArg some (by kernel_rfl))
  f330 := Tryz.func168.trans (congrArg some (by kernel_rfl))
  f331 := Tryz.func169.trans (congrArg some (by kernel_rfl))
  f332 := Tryz.func170.trans (congrArg some (by kernel_rfl))
  f343 := Tryz.func192.trans (congrArg some (by kernel_rfl))
  t0 := Tryz.underlying0
  a0 := Tryz.isAgg0
  z0 := Tryz.sizeOf0
  v0 := Tryz.zeroValue0
  t3 := Tryz.underlying3
  a3 := Tryz.isAgg3
  z3 := Tryz.sizeOf3
  v3 := Tryz.zeroValue3
  t4 := Tryz.underlying4
  a4 := Tryz.isAgg4
  z4 := Tryz.sizeOf4
  v4 := Tryz.zeroValue4
  t5 := Tryz.underlying5
  a5 := Tryz.isAgg5
  z5 := Tryz.sizeOf5
  v5 := Tryz.zeroValue5
  t9 := Tryz.underlying9
  a9 := Tryz.isAgg9
  z9 := Tryz.sizeOf9
  v9 := Tryz.zeroValue9
  t28 := Tryz.underlying33
  a28 := Tryz.isAgg33
  z28 := Tryz.sizeOf33
  v28 := Tryz.zeroValue33
  t46 := Tryz.underlying38
  a46 := Tryz.isAgg38
  z46 := Tryz.sizeOf38
  v46 := Tryz.zeroValue38
  t51 := Tryz.underlying171
  a51 := Tryz.isAgg171
  z51 := Tryz.sizeOf171
  v51 := Tryz.zeroValue171
  t53 := Tryz.underlying29
  a53 := Tryz.isAgg29
  z53 := Tryz.sizeOf29
  v53 := Tryz.zeroValue29
  t131 := Tryz.underlying161
  a131 := Tryz.isAgg161
  z131 := Tryz.sizeOf161
  v131 := Tryz.zeroValue161
  t182 := Tryz.underlying164
  a182 := Tryz.isAgg164
  z182 := Tryz.sizeOf164
  v182 := Tryz.zeroValue164
  t183 := Tryz.underlying165
  a183 := Tryz.isAgg165
  z183 := Tryz.sizeOf165
  v183 := Tryz.zeroValue165
  t218 := Tryz.underlying186
  a218 := Tryz.isAgg186
  z218 := Tryz.sizeOf186
  v218 := Tryz.zeroValue186
  t222 := Tryz.underlying190
  a222 := Tryz.isAgg190
  z222 := Tryz.sizeOf190
  v222 := Tryz.zeroValue190
  t228 := Tryz.underlying211
  a228 := Tryz.isAgg211
  z228 := Tryz.sizeOf211
  v228 := Tryz.zeroValue211
  t229 := Tryz.underlying212
  a229 := Tryz.isAgg212
  z229 := Tryz.sizeOf212
  v229 := Tryz.zeroValue212 }
end Go.Proofs
namespace Go.Ab
open Go Go.Proofs Go.MapKept
open Go.ChangeMaps (setBlock)
variable {T : Nat → Obj → Prop}
def zeh (zs : List Int) : List Int := ddA (Sort.sort Sort.ltInt zs.toArray) (Sort.sort Sort.ltInt zs.toArray).size
theorem ztV {d : Array Int} : ∀ {n : Nat}, 0 < n → ddA d n ≠ []
  | 1, _ => by simp [ddA]
  | n + 2, _ => by
    rw [ddA]
    split
    · exact ztV (Nat.succ_pos n)
    · simp
theorem zrg {α : Type} [Inhabited α] [DecidableEq α] {d : Array α} : ∀ {n : Nat}, (ddA d n).length ≤ n
  | 0 => Nat.le_refl 0
  | n + 1 => by
    have := zrg (d := d) (n := n)
    rw [ddA]
    split
    · omega
    · simp; omega
theorem zqf (d : Array Int) : (Sort.sort Sort.ltInt d).size = d.size := zxc Sort.swo_ltInt d.size d 0 d.size _ true true (by omega) (Nat.zero_le _) (Nat.le_refl _)
theorem zq8 {d : Array Int} (hl : d.size ≤ 536870912) (h0 : 0 < d.size) {base : Nat} {w : World} {v : Value} {g : Nat} (h : O2 base w v g d.toList) (hT : ∀ b o, T b o → w.heap[b]? = some o ∧ b ≠ g) (hb : base ≤ w.heap.size) :
    Calls Tryz.prog 69 #[v] w fun e w' => ∃ v' g', e = .returned v' ∧ O2 base w' v' g' (ddA d d.size) ∧ (g' = g ∨ w.heap.size ≤ g') ∧ w.grownBy w' (some g) := by
  by_cases hs : Steps d
  · have hd : ddA d d.size = d.toList := by
      rw [zoQ (Nat.le_refl _) (fun j h1 h2 => hs j h1 h2), List.take_of_length_le (by simp)]
    exact zq9 (T := T) (f := 69) (id := 0) (zkg d hl hs) (by rw [hd]; rfl) (Nat.le_trans zrg hl) (ztV h0) h hT hb
  · exact zq9 (T := T) (f := 69) (id := 1) (zjG d hl hs) rfl (Nat.le_trans zrg hl) (ztV h0) h hT hb
theorem ztP {zs : List Int} (hl : zs.length ≤ 536870912) (h0 : zs ≠ []) {base : Nat} {w : World} {v : Value} {g : Nat} (h : O2 base w v g zs) (hT : ∀ b o, T b o → w.heap[b]? = some o ∧ b ≠ g) :
    Calls Tryz.prog 68 #[v] w fun e w' => e = .returned (.tuple #[]) ∧ O2 base w' v g (Sort.sort Sort.ltInt zs.toArray).toList ∧ w.grownBy w' (some g) := by
  have hz : (Sort.sort Sort.ltInt zs.toArray).toList.length = zs.length := by rw [Array.length_toList, zqf]; simp
  obtain ⟨cap, c, e, rfl, h2, h3, h4, h5, h6, h7⟩ := h
  have hH := holds_of_blockI (ss := zs) h3 (by
    refine List.ext_getElem (by simp; omega) fun i h1 h8 => ?_
    have h8 : i < zs.length := by simpa using h8
    have := h7 i h8
    simp [List.getD, h8, show i < c.size by omega] at this
    simp [this])
  refine (Any.slices_Sort_int Tryz.lays189 g 0 cap zs w hH (zi h3) (by omega)).mono fun x w' => ?_
  rintro ⟨rfl, n, os, rfl⟩
  have hq : (zs.mergeSort fun x y => decide (x ≤ y)) = (Sort.sort Sort.ltInt zs.toArray).toList := (Go.Sort.sortInt zs).symm
  rw [hq]
  generalize (Sort.sort Sort.ltInt zs.toArray).toList = ys at hz
  refine ⟨rfl, ⟨cap, _, e, by rw [hz], h2, heap_sortedI _ h3, by omega, by simp [Sort.putCells]; omega, by omega, fun j hj => ?_⟩, grownBy_sortedI _⟩
  have ht := take_putCellsI c ys (by omega)
  have := congrArg (fun l : List Value => l.getD j undef) ht
  simp [List.getD, List.getElem?_take, hj] at this
  simpa [List.getD, hj] using this
def gAt (gs : GI) (born : Nat → Nat) (seen : Array Nat) : GI := (List.range gs.length).map fun j => ((gs.getD j default).1, if seen.contains (born j) then zeh (gs.getD j default).2 else (gs.getD j default).2)
def zgW (n : Nat) (born : Nat → Nat) (seen : Array Nat) : Nat := ((List.range n).filter fun j => !seen.contains (born j)).length
structure Mid (w : World) (m base r clock : Nat) (gs : GI) (born : Nat → Nat) (seen : Array Nat) (wr : World) : Prop where
  ex : ∃ es blk, Grp (O2 base) wr m (gAt gs born seen) es clock blk ∧ (∀ j, j < gs.length → (es.getD j default).born = born j) ∧ ∀ j, j < gs.length → blk j ≠ r ∧ blk j < wr.heap.size
  iter : wr.heap[r]? = some (.mapIter (some m) clock seen clock)
  grown : w.grownBy wr none
  mr : m < base ∧ base ≤ r ∧ w.heap.size ≤ m
theorem zdL {gs : GI} {born : Nat → Nat} {seen : Array Nat} : (gAt gs born seen).length = gs.length := by simp [gAt]
theorem ztf {gs : GI} {born : Nat → Nat} {seen : Array Nat} {j : Nat} (hj : j < gs.length) : (gAt gs born seen).getD j default = ((gs.getD j default).1, if seen.contains (born j) then zeh (gs.getD j default).2 else (gs.getD j default).2) := by
  simp [gAt, List.getD, hj]
theorem zwP {gs : GI} {born : Nat → Nat} {seen : Array Nat} {i : Nat} (hi : i < gs.length) (hb : ∀ j, j < gs.length → born j = born i → j = i) :
    gAt gs born (seen.push (born i)) = (gAt gs born seen).set i ((gs.getD i default).1, zeh (gs.getD i default).2) := by
  refine List.ext_getElem (by simp [gAt]) fun j h1 h2 => ?_
  have hj : j < gs.length := by simpa [gAt] using h1
  rw [List.getElem_set]
  simp only [gAt, List.getElem_map, List.getElem_range, Array.contains_push]
  by_cases e : i = j
  · subst e; simp
  · rw [if_neg e]
    have : (born j == born i) = false := by simpa using fun h => e (hb j hj h).symm
    simp [this]
theorem zsZ {n : Nat} {born : Nat → Nat} {seen : Array Nat} {i : Nat} (hi : i < n) (hs : seen.contains (born i) = false) : zgW n born (seen.push (born i)) < zgW n born seen := by
  unfold zgW
  have hsub : ((List.range n).filter fun j => !(seen.push (born i)).contains (born j)) = ((List.range n).filter fun j => !seen.contains (born j)).filter fun j => !(born j == born i) := by
    rw [List.filter_filter]
    refine List.filter_congr fun j _ => ?_
    rw [Array.contains_push]
    cases seen.contains (born j) <;> cases (born j == born i) <;> rfl
  rw [hsub]
  refine Nat.lt_of_le_of_ne (List.length_filter_le _ _) fun h => ?_
  have := (List.filter_eq_self.1 (List.length_filter_eq_length_iff.1 h |> fun hh => List.filter_eq_self.2 hh)) i (List.mem_filter.2 ⟨List.mem_range.2 hi, by simpa using hs⟩)
  simp at this
end Go.Ab
namespace Go.Ab
open Go Go.Proofs Go.MapKept
open Go.ChangeMaps (setBlock)
variable {T : Nat → Obj → Prop}
theorem Mid.round {w wr : World} {m base r clock : Nat} {gs : GI} {born : Nat → Nat} {seen : Array Nat} (h : Mid w m base r clock gs born seen wr) (ty : TypeId) (hT : ∀ b o, T b o → w.heap[b]? = some o)
    (hk : ∀ i j, i < gs.length → j < gs.length → (gs.getD i default).1 = (gs.getD j default).1 → i = j) (hz : ∀ j, j < gs.length → (gs.getD j default).2 ≠ [] ∧ (gs.getD j default).2.length ≤ 536870912) :
    ((Instr.next (.pointer (some ⟨r, 0, none⟩)) false ty).run Tryz.prog wr = .ok (.tuple #[.bool false]) wr ∧ ∀ j, j < gs.length → seen.contains (born j) = true) ∨
    ∃ (c : Int) (v : Value) (wn : World), (Instr.next (.pointer (some ⟨r, 0, none⟩)) false ty).run Tryz.prog wr = .ok (.tuple #[.bool true, .int .i64 c, v]) wn ∧ (Instr.entry (.pointer (some ⟨r, 0, none⟩))).run Tryz.prog wn = .ok (.tuple #[.int .i64 c, v]) wn ∧
      Calls Tryz.prog 68 #[v] wn fun e w' => e = .returned (.tuple #[]) ∧ Calls Tryz.prog 69 #[v] w' fun e w'' => ∃ v', e = .returned v' ∧ ∃ wz seen', (Instr.mapUpdate 76 (.map (some m)) (.int .i64 c) v').run Tryz.prog w'' = .ok () wz ∧
        Mid w m base r clock gs born seen' wz ∧ zgW gs.length born seen' < zgW gs.length born seen := by
  obtain ⟨es, blk, hG, hborn, hblk⟩ := h.ex
  obtain ⟨hmb, hbr, hwm⟩ := h.mr
  have hsz : es.size = gs.length := hG.size.trans zdL
  have idx : ∀ x ∈ es.toList, ∃ j, j < gs.length ∧ es.getD j default = x := fun x hx => by
    obtain ⟨j, hj, rfl⟩ := List.getElem_of_mem hx
    rw [Array.length_toList] at hj
    exact ⟨j, by omega, by simp [Array.getD_eq_getD_getElem?, hj]⟩
  have hold : ∀ x ∈ es.toList, x.born < clock := fun x hx => by
    obtain ⟨j, hj, rfl⟩ := idx x hx
    exact hG.st.lt j (by omega)
  have hbi : ∀ i j, i < gs.length → j < gs.length → born i = born j → i = j := fun i j hi hj e => hG.st.inj i j (by omega) (by omega) (by rw [hborn i hi, hborn j hj, e])
  rcases run_next_at (P := Tryz.prog) wr ty r m clock clock seen es clock h.iter hG.heap hold (Nat.le_refl _) with ⟨h0, hrun⟩ | ⟨e, he, w1, hw1, hrun⟩
  · refine .inl ⟨hrun, fun j hj => ?_⟩
    by_cases hc : seen.contains (born j) = true
    · exact hc
    · have hm : es.getD j default ∈ (leftOf es seen) := by
        unfold leftOf
        refine Array.mem_filter.2 ⟨?_, ?_⟩
        · rw [show es.getD j default = es[j]'(by omega) by simp [Array.getD_eq_getD_getElem?, show j < es.size by omega]]
          exact Array.getElem_mem _
        · rw [hborn j hj]; simpa using hc
      have : leftOf es seen = #[] := Array.eq_empty_of_size_eq_zero h0
      rw [this] at hm
      simp at hm
  · right
    have he' : e ∈ es ∧ seen.contains e.born = false := by
      have : e ∈ leftOf es seen := by simpa using he
      unfold leftOf at this
      obtain ⟨h1, h2⟩ := Array.mem_filter.1 this
      exact ⟨h1, by simpa using h2⟩
    obtain ⟨j, hj, rfl⟩ := idx e (by simpa using he'.1)
    have hs := he'.2
    rw [hborn j hj] at hs hrun
    have hjl : j < (gAt gs born seen).length := by rw [zdL]; exact hj
    have hkey := hG.key j hjl
    have hval := hG.val j hjl
    have hgj := ztf (born := born) (seen := seen) hj
    rw [hs] at hgj
    simp only [Bool.false_eq_true, if_false] at hgj
    rw [hgj] at hkey hval
    simp only at hkey hval
    rw [hkey] at hrun
    have hw1h : w1.heap = wr.heap ∧ w1.os = wr.os ∧ w1.tape = wr.tape ∧ w1.output = wr.output := by rcases hw1 with rfl | rfl <;> exact ⟨rfl, rfl, rfl, rfl⟩
    have hrlt : r < wr.heap.size := zi h.iter
    generalize hwn : setBlock w1 r (.mapIter (some m) clock (seen.push (born j)) clock) = wn at hrun
    have nr : wn.heap[r]? = some (.mapIter (some m) clock (seen.push (born j)) clock) := by rw [← hwn]; simp [setBlock, hw1h.1, hrlt]
    have no : ∀ b, b ≠ r → wn.heap[b]? = wr.heap[b]? := fun b hb => by rw [← hwn]; simp [setBlock, hw1h.1, Array.getElem?_setIfInBounds_ne (Ne.symm hb)]
    have ns : wn.heap.size = wr.heap.size := by rw [← hwn]; simp [setBlock, hw1h.1]
    have nx : wn.os = wr.os ∧ wn.tape = wr.tape ∧ wn.output = wr.output := by rw [← hwn]; exact hw1h.2
    clear hwn
    obtain ⟨hbj1, hbj2⟩ := hblk j hj
    have hbase : ∀ i, i < gs.length → base ≤ blk i := fun i hi => by
      obtain ⟨_, _, _, _, h2, _⟩ := hG.val i (by rw [zdL]; exact hi); exact h2
    have hgn : w.grownBy wn none := ⟨nx.1.trans h.grown.os, nx.2.1.trans h.grown.tape, nx.2.2.trans h.grown.output, by rw [ns]; exact h.grown.size, fun b hb _ => (no b (by omega)).trans (h.grown.block b hb (by simp))⟩
    have hTn : ∀ (x : World), wn.grownBy x (some (blk j)) → ∀ b o, T b o → x.heap[b]? = some o ∧ b ≠ blk j := fun x hx b o ht => by
      have h1 := hT b o ht
      have h2 := zi h1
      have h3 := hbase j hj
      exact ⟨(hx.block b (Nat.lt_of_lt_of_le h2 hgn.size) (by simp; omega)).trans ((hgn.block b h2 (by simp)).trans h1), by omega⟩
    have hself : wn.grownBy wn (some (blk j)) := ⟨rfl, rfl, rfl, Nat.le_refl _, fun _ _ _ => rfl⟩
    refine ⟨(gs.getD j default).1, (es.getD j default).val, wn, hrun, ?_, ?_⟩
    · have := run_entry_at (P := Tryz.prog) wn r m clock seen es clock (es.getD j default) (by rw [hborn j hj]; exact nr) ((no m (by omega)).trans hG.heap) (by simpa using he'.1) (by
        refine List.pairwise_iff_getElem.2 fun p q hp hq hpq e => ?_
        simp only [List.length_map, Array.length_toList] at hp hq
        have := hG.st.inj p q hp hq (by simpa [Array.getD_eq_getD_getElem?, hp, hq] using e)
        omega)
      rw [hkey] at this
      exact this
    · refine (ztP (T := T) (hz j hj).2 (hz j hj).1 (hval.kept (no _ hbj1)) (hTn wn hself)).mono ?_
      rintro e1 w' ⟨rfl, hO1, hg1⟩
      refine ⟨rfl, ?_⟩
      have hds : (Sort.sort Sort.ltInt (gs.getD j default).2.toArray).size = (gs.getD j default).2.length := by rw [zqf]; simp
      refine (zq8 (T := T) (d := Sort.sort Sort.ltInt (gs.getD j default).2.toArray) (by rw [hds]; exact (hz j hj).2) (by rw [hds]; exact List.length_pos_iff.2 (hz j hj).1) hO1 (hTn w' hg1) (by have := hbase j hj; have := hg1.size; omega)).mono ?_
      rintro e2 w'' ⟨v', g', rfl, hO2, hg', hg2⟩
      refine ⟨v', rfl, ?_⟩
      have hg12 : wn.grownBy w'' (some (blk j)) := ⟨hg2.os.trans hg1.os, hg2.tape.trans hg1.tape, hg2.output.trans hg1.output, Nat.le_trans hg1.size hg2.size, fun b hb hne => (hg2.block b (Nat.lt_of_lt_of_le hb hg1.size) hne).trans (hg1.block b hb hne)⟩
      have hmj : m ≠ blk j := by have := hbase j hj; omega
      have hm2 : w''.heap[m]? = some (.map es clock) := (hg12.block m (by rw [ns]; omega) (by simpa using hmj)).trans ((no m (by omega)).trans hG.heap)
      have hg'b : base ≤ g' := by obtain ⟨_, _, _, _, h2, _⟩ := hO2; exact h2
      have hg'l : g' < w''.heap.size := by obtain ⟨_, _, _, _, _, h3, _⟩ := hO2; exact zi h3
      have hg'r : g' ≠ r := by
        rcases hg' with rfl | h3
        · exact hbj1
        · have := hg1.size; omega
      have hf : Instr.findNow (.int .i64) (.int .i64 (gs.getD j default).1) es.toList 0 = some (some (j, (es.getD j default).val)) := by
        rcases hG.find (gs.getD j default).1 with ⟨hn, -⟩ | ⟨i, hi, hi2, hf⟩
        · refine absurd ?_ hn
          refine List.mem_map.2 ⟨(gAt gs born seen).getD j default, ?_, by rw [hgj]⟩
          simp [List.getD, hjl]
        · rw [zdL] at hi
          rw [ztf hi] at hi2
          have := hk i j hi hj hi2
          subst this
          exact hf
      obtain ⟨es', hup, hG', hbn⟩ := hG.set (w1 := w'') (c := (gs.getD j default).1) (i := j) (u := (es.getD j default).val) (v := v') (g := g') (zs := zeh (gs.getD j default).2) hjl (by rw [hgj]) hf hm2
        (fun o => hO2.kept (by simp [Array.getElem?_setIfInBounds_ne (show m ≠ g' by omega)]))
        (fun o i hi hij => (hG.val i hi).kept (by
          rw [zdL] at hi
          have h1 := hbase i hi
          have h2 : blk i ≠ blk j := fun e => hij (hG.apart i j (by rw [zdL]; exact hi) hjl e)
          obtain ⟨h3, h4⟩ := hblk i hi
          show (w''.heap.setIfInBounds m o)[blk i]? = _
          rw [Array.getElem?_setIfInBounds_ne (show m ≠ blk i by omega), hg12.block (blk i) (by rw [ns]; exact h4) (by simpa using h2), no _ h3]))
        (fun i hi hij => by
          rw [zdL] at hi
          have h2 : blk i ≠ blk j := fun e => hij (hG.apart i j (by rw [zdL]; exact hi) hjl e)
          have h4 := (hblk i hi).2
          rcases hg' with rfl | h3
          · exact h2
          · have := hg1.size; omega)
      refine ⟨_, seen.push (born j), hup, ⟨⟨es', fun i => if i = j then g' else blk i, ?_, fun i hi => (hbn i (by rw [zdL]; exact hi)).trans (hborn i hi), fun i hi => ?_⟩, ?_, ?_, hmb, hbr, hwm⟩, zsZ hj hs⟩
      · rw [zwP hj (fun i hi e => hbi i j hi hj e)]
        exact hG'
      · show (if i = j then g' else blk i) ≠ r ∧ (if i = j then g' else blk i) < _
        by_cases e : i = j
        · rw [if_pos e]; exact ⟨hg'r, by simpa using hg'l⟩
        · rw [if_neg e]
          refine ⟨(hblk i hi).1, ?_⟩
          have := (hblk i hi).2; have := hg12.size; simp; omega
      · show (w''.heap.setIfInBounds m _)[r]? = _
        rw [Array.getElem?_setIfInBounds_ne (show m ≠ r by omega), hg12.block r (by rw [ns]; exact hrlt) (by simpa using Ne.symm hbj1), nr]
      · refine ⟨hg12.os.trans hgn.os, hg12.tape.trans hgn.tape, hg12.output.trans hgn.output, by simp; exact Nat.le_trans hgn.size hg12.size, fun b hb _ => ?_⟩
        show (w''.heap.setIfInBounds m _)[b]? = _
        have := hbase j hj
        rw [Array.getElem?_setIfInBounds_ne (show m ≠ b by omega), hg12.block b (Nat.lt_of_lt_of_le hb hgn.size) (by simp; omega), hgn.block b hb (by simp)]
def zwZ (r n : Nat) (born : Nat → Nat) (w : World) : Nat := match w.heap[r]? with
  | some (.mapIter _ _ seen _) => zgW n born seen
  | _ => 0
theorem Mid.mu {w wr : World} {m base r clock n : Nat} {gs : GI} {born : Nat → Nat} {seen : Array Nat} (h : Mid w m base r clock gs born seen wr) : zwZ r n born wr = zgW n born seen := by
  rw [zwZ, h.iter]
theorem zyb {gs : GI} {born : Nat → Nat} : gAt gs born #[] = gs := by
  refine List.ext_getElem (by simp [gAt]) fun j h1 h2 => ?_
  simp [gAt, List.getD, h2]
theorem zya {gs : GI} {born : Nat → Nat} {seen : Array Nat} (h : ∀ j, j < gs.length → seen.contains (born j) = true) : gAt gs born seen = gs.map fun p => (p.1, zeh p.2) := by
  refine List.ext_getElem (by simp [gAt]) fun j h1 h2 => ?_
  have hj : j < gs.length := by simpa using h2
  have := h j hj
  simp only [gAt, List.getElem_map, List.getElem_range, this, if_true]
  simp [List.getD, hj]
theorem Mid.start {w wr : World} {m base clock : Nat} {gs : GI} {es : Array MapEntry} {blk : Nat → Nat} (hG : Grp (O1 base) wr m gs es clock blk) (hz : ∀ j, j < gs.length → (gs.getD j default).2.length ≤ 536870912)
    (hgr : w.grownBy wr none) (hmb : m < base) (hb : base ≤ wr.heap.size) (hwm : w.heap.size ≤ m) :
    Mid w m base wr.heap.size clock gs (fun j => (es.getD j default).born) #[] (wr.alloc (.mapIter (some m) clock #[] clock)) := by
  refine ⟨⟨es, blk, ?_, fun j hj => rfl, fun j hj => ?_⟩, heap_alloc_new _ _, hgr.trans (World.grownBy_alloc _ _ _), hmb, hb, hwm⟩
  · rw [zyb]
    exact ⟨(heap_alloc_old _ _ (zi hG.heap)).trans hG.heap, hG.st, hG.size, hG.key, fun i hi => ((hG.val i hi).O2 (hz i hi)).kept (heap_alloc_old _ _ (hG.val i hi).lt.2), hG.apart⟩
  · have := (hG.val j hj).lt
    exact ⟨by omega, by simp; omega⟩
end Go.Ab
namespace Go.Ab
open Go Go.Proofs Go.MapKept Go.RowKit Go.WideMaps Go.Maps
theorem zxi : (Tryz.prog.info? 3).map (fun i => (i.zero, i.size, i.bytes)) = some (some (.int .i64 0), 1, 8) := by kernel_rfl
variable {T : Nat → Obj → Prop}
theorem zzH {cell rank : List Int} (hl : cell.length ≤ 536870912) : ∀ j, j < (zJ cell rank cell.length).length → ((zJ cell rank cell.length).getD j default).2 ≠ [] ∧ ((zJ cell rank cell.length).getD j default).2.length ≤ 536870912 := by
  intro j hj
  have hm : (zJ cell rank cell.length).getD j default ∈ zJ cell rank cell.length := by simp [List.getD, hj]
  obtain ⟨c, hc, e⟩ := List.mem_map.1 hm
  rw [← e]
  refine ⟨fun h => ?_, Nat.le_trans zti hl⟩
  rw [List.take_length] at hc
  obtain ⟨i, hi, h2⟩ := zdO.1 (zf8.1 hc)
  have : at0 rank i ∈ inC rank cell cell.length c := List.mem_map.2 ⟨i, List.mem_filter.2 ⟨List.mem_range.2 hi, by simpa using h2⟩, rfl⟩
  rw [show inC rank cell cell.length c = [] from h] at this
  cases this
theorem zyc {cell rank : List Int} : ∀ i j, i < (zJ cell rank cell.length).length → j < (zJ cell rank cell.length).length → ((zJ cell rank cell.length).getD i default).1 = ((zJ cell rank cell.length).getD j default).1 → i = j := by
  intro i j hi hj e
  have hn : ((zJ cell rank cell.length).map Prod.fst).Nodup := by rw [zpN]; exact zkB
  have hi' : i < ((zJ cell rank cell.length).map Prod.fst).length := by simpa using hi
  have hj' : j < ((zJ cell rank cell.length).map Prod.fst).length := by simpa using hj
  refine (List.getElem_inj (h₀ := hi') (h₁ := hj') hn).1 ?_
  simpa [List.getD, hi, hj] using e
set_option maxHeartbeats 4000000 in
set_option maxRecDepth 100000 in
theorem zof (b1 o1 cap1 b2 o2 cap2 n2 : Nat) (cell rank : List Int) (w : World) (hn : 0 < cell.length) (hn2 : cell.length ≤ n2) (hl : cell.length ≤ 536870912)
    (hT : ∀ b o, T b o → w.heap[b]? = some o) (hb1 : b1 < w.heap.size) (hb2 : b2 < w.heap.size)
    (hc1 : ∀ j, j < cell.length → w.cell? ⟨b1, o1 + j, none⟩ = some (.int .i64 (at0 cell j))) (hc2 : ∀ j, j < cell.length → w.cell? ⟨b2, o2 + j, none⟩ = some (.int .i64 (at0 rank j))) :
    Calls Tryz.prog 37 #[.slice (some ⟨b1, o1, none⟩) cell.length cap1, .slice (some ⟨b2, o2, none⟩) n2 cap2] w fun e w' => e = .returned (.map (some w.heap.size)) ∧ w.grownBy w' none ∧ ∃ es clock blk, Grp (O2 (w.heap.size + 1)) w' w.heap.size ((zJ cell rank cell.length).map fun p => (p.1, zeh p.2)) es clock blk := by
  have hmm := @run_makeMap Tryz.prog
  obtain ⟨i0, hi, hz0, hz1, hz2⟩ := info_parts zxi
  go_enter Tryz.func37, Tryz.ntmps37
  go_wp2
  go_loopw [13] (fun i wr => ∃ k : Nat, k ≤ cell.length ∧ i = .int .i64 k ∧ ∃ es clock blk, Grp (O1 (w.heap.size + 1)) wr w.heap.size (zJ cell rank k) es clock blk ∧ w.grownBy wr none ∧ w.heap.size + 1 ≤ wr.heap.size)
    (fun i _ => cell.length - (RowKit.intOf i).toNat)
  case atStart =>
    refine ⟨0, Nat.zero_le _, rfl, #[], 0, fun _ => 0, ?_, World.grownBy_alloc _ _ _, by simp⟩
    exact ⟨heap_alloc_new _ _, ⟨fun i j hi => by simp at hi, fun i hi => by simp at hi⟩, rfl, fun i hi => by simp [zJ, zx] at hi, fun i hi => by simp [zJ, zx] at hi, fun i j hi => by simp [zJ, zx] at hi⟩
  case round =>
    obtain ⟨k, hk, rfl, es, clock, blk, hG, hgr, hsz⟩ := hrel
    have hcx1 : k < cell.length → wr.cell? ⟨b1, o1 + k, none⟩ = some (.int .i64 (at0 cell k)) := fun hlt => (zdu (hgr.block b1 hb1 (by simp))).trans (hc1 k hlt)
    have hcx2 : k < cell.length → wr.cell? ⟨b2, o2 + k, none⟩ = some (.int .i64 (at0 rank k)) := fun hlt => (zdu (hgr.block b2 hb2 (by simp))).trans (hc2 k hlt)
    obtain ⟨v, zs, tgt, hvm, hlook, hown, hcase, hback⟩ := hG.look1 (Nat.lt_succ_self _) (at0 cell k)
    have hmw : w.heap.size < wr.heap.size := by omega
    have hzl : zs.length ≤ k := by
      rcases hcase with ⟨i, hi1, -, rfl, -⟩ | ⟨-, rfl, -⟩
      · have : (zJ cell rank k).getD i default ∈ zJ cell rank k := by simp [List.getD, hi1]
        obtain ⟨c, -, hc⟩ := List.mem_map.1 this
        rw [← hc]; exact zti
      · simp
    have hvb : ∀ b, b < w.heap.size → some b ≠ v.ownBlock := fun b hb e => by have := (hown.lt b e.symm).1; omega
    have hik0 : (0 : Int) ≤ (k : Int) := Int.natCast_nonneg _
    have hik1 : k < cell.length → (k : Int) < (n2 : Int) := fun h => by omega
    have hbk : k < cell.length → ∀ w1 gg cap o, (wr.drew.alloc o).grownBy w1 v.ownBlock → w1.ownsRow (w.heap.size + 1) 3 1 (.slice (some ⟨gg, 0, none⟩) (zs.length + 1) cap) (zs.length + 1) (zs.map (Value.int .i64) ++ [.int .i64 (at0 rank k)]) → (v.ownBlock = some gg ∨ gg = wr.heap.size + 1) →
        ∃ w2 es' clock' blk', (Instr.mapUpdate 76 (.map (some w.heap.size)) (.int .i64 (at0 cell k)) (.slice (some ⟨gg, 0, none⟩) (zs.length + 1) cap)).run Tryz.prog w1 = .ok () w2 ∧ Grp (O1 (w.heap.size + 1)) w2 w.heap.size (zJ cell rank (k + 1)) es' clock' blk' ∧ w.grownBy w2 none ∧ w.heap.size + 1 ≤ w2.heap.size := by
      intro hlt w1 gg cap o hgrow hown1 hat
      have h1 : wr.drew.grownBy w1 v.ownBlock := (World.grownBy_alloc wr.drew _ _).trans hgrow
      obtain ⟨w2, es', clock', blk', q1, q2, q3⟩ := hback w1 _ _ ⟨h1.os, h1.tape, h1.output, h1.size, h1.block⟩ hown1 (hat.elim (fun h => .inl h.symm) (fun h => .inr (.inr ⟨gg, rfl, by omega⟩)))
      have hs1 : wr.heap.size ≤ w1.heap.size := h1.size
      have hs2 := q3.size
      refine ⟨w2, es', clock', blk', q1, ?_, ⟨q3.os.trans (h1.os.trans hgr.os), q3.tape.trans (h1.tape.trans hgr.tape), q3.output.trans (h1.output.trans hgr.output), by omega, fun b hb _ => ?_⟩, by omega⟩
      · rcases hcase with ⟨i, hi1, hi2, rfl, rfl⟩ | ⟨hn1, rfl, rfl⟩
        · rw [zzc hlt hi1 hi2]; exact q2
        · rw [zzb hlt hn1]; exact q2
      · exact (q3.block b (by omega) (by simp; omega)).trans ((h1.block b (show b < wr.heap.size by omega) (hvb b hb)).trans (hgr.block b hb (by simp)))
    have hrange := run_range_map (P := Tryz.prog) wr 76 3 33 w.heap.size es clock Tryz.underlying76 hG.heap
    go_wp2_with fail
    · clear hrange
      have hlt : k < cell.length := by assumption
      have hik1 := hik1 hlt
      have hl0 : (Instr.lookup 76 (.map (some w.heap.size)) (.int .i64 (at0 cell k)) false).run Tryz.prog wr.drew = .ok v wr.drew := hlook _ rfl
      have hl1 : ∀ o, (Instr.lookup 76 (.map (some w.heap.size)) (.int .i64 (at0 cell k)) false).run Tryz.prog (wr.drew.alloc o) = .ok v (wr.drew.alloc o) := fun o => hlook _ (heap_alloc_old _ _ hmw)
      have hb2r : b2 < wr.heap.size := by omega
      have hl2 : ∀ o, (Instr.lookup 76 (.map (some w.heap.size)) (.int .i64 (at0 cell k)) false).run Tryz.prog (wr.alloc o).drew = .ok v (wr.alloc o).drew := fun o => hlook _ (heap_alloc_old _ _ hmw)
      have hc2k := hcx2 hlt
      go_region_law
        ((refine step_append_lies _ (by rfl) _ _ _ (by rfl) (w.heap.size + 1) 3 i0 _ 1 8 Tryz.underlying33 hi hz0 hz1 hz2 rfl (by omega) v zs.length (zs.map (Value.int .i64)) (by rfl) (hown.drew.alloc _)
            ⟨wr.heap.size, 0, none⟩ 1 1 [.int .i64 (at0 rank k)] (by rfl) (by rfl) (World.news_of_block (cs := #[.int .i64 (at0 rank k)]) (t := 3) (fr := (0, 0)) (heap_alloc_new _ _)) (by simp [Value.oneCell'])
            (by omega) (by unfold maxLen; omega) (by omega) (by simp; omega) (wr.heap.size + 1) (by simp) ?_; intro gg cap w1 hown1 hgrow hat hlt1; obtain ⟨w2, es', clock', blk', hup, hG2, hgr2, hsz2⟩ := hbk hlt w1 gg cap _ hgrow hown1 hat))
      all_goals
        clear hup hl0 hl1 hl2
        go_wp2
        go_roundw
        case rel =>
          exact ⟨k + 1, by omega, by go_num, es', clock', blk', hG2, hgr2, hsz2⟩
        case measure => simp [RowKit.intOf]; omega
    · have hke : k = cell.length := by omega
      subst hke
      have hz : ∀ j, j < (zJ cell rank cell.length).length → ((zJ cell rank cell.length).getD j default).2 ≠ [] ∧ ((zJ cell rank cell.length).getD j default).2.length ≤ 536870912 := zzH hl
      have hk : ∀ i j, i < (zJ cell rank cell.length).length → j < (zJ cell rank cell.length).length → ((zJ cell rank cell.length).getD i default).1 = ((zJ cell rank cell.length).getD j default).1 → i = j := zyc
      have hM := Mid.start hG (fun j hj => (hz j hj).2) hgr (Nat.lt_succ_self _) hsz (Nat.le_refl _)
      generalize hborn : (fun j => (es.getD j default).born) = born at hM
      generalize hrr : wr.heap.size = r at hM
      clear hback hbk hlook hcase hrange hG
      rw [show decide (cell.length < cell.length) = false by simp]
      go_loopw [8] (fun _ wr2 => ∃ seen, Mid w w.heap.size (w.heap.size + 1) r clock (zJ cell rank cell.length) born seen wr2) (fun _ wr2 => zwZ r (zJ cell rank cell.length).length born wr2)
      case atStart => exact ⟨#[], hM⟩
      case round =>
        obtain ⟨seen, hM2⟩ := hrel
        rcases hM2.round (T := T) 0 hT hk hz with ⟨hnext, hall⟩ | ⟨c, v, wn, hnext, hentry, hcalls⟩
        · go_wp2
          go_ret
          refine ⟨rfl, hM2.grown, ?_⟩
          obtain ⟨es2, blk2, h1, -⟩ := hM2.ex
          rw [zya hall] at h1
          exact ⟨es2, _, blk2, h1⟩
        · go_wp2_with (first
            | (go_at_call 68; refine hcalls.mono ?_; rintro e w' ⟨rfl, hcomp⟩)
            | (go_at_call 69; refine hcomp.mono ?_; rintro e w'' ⟨v', rfl, wz, seen', hup, hMz, hlt⟩))
          go_roundw
          case rel => exact ⟨seen', hMz⟩
          case measure => rw [hMz.mu, hM2.mu]; exact hlt
end Go.Ab
namespace Go.Ab
open Go Go.Proofs Go.MapKept
section
variable {α : Type} [Inhabited α] [DecidableEq α]
theorem zgB {d : Array α} {x : α} : ∀ {n : Nat}, x ∈ ddA d n ↔ ∃ i, i < n ∧ d[i]! = x
  | 0 => by simp [ddA]
  | n + 1 => by
    rw [ddA]
    constructor
    · intro h
      split at h
      · obtain ⟨i, h1, h2⟩ := zgB.1 h
        exact ⟨i, by omega, h2⟩
      · rcases List.mem_append.1 h with h | h
        · obtain ⟨i, h1, h2⟩ := zgB.1 h
          exact ⟨i, by omega, h2⟩
        · exact ⟨n, by omega, by simp at h; exact h.symm⟩
    · rintro ⟨i, h1, h2⟩
      split
      · rename_i hc
        by_cases e : i = n
        · subst e
          exact zgB.2 ⟨i - 1, by omega, by rw [← hc.2]; exact h2⟩
        · exact zgB.2 ⟨i, by omega, h2⟩
      · by_cases e : i = n
        · subst e; exact List.mem_append.2 (.inr (by simp [h2]))
        · exact List.mem_append.2 (.inl (zgB.2 ⟨i, by omega, h2⟩))
theorem zoP {lt : α → α → Bool} {d : Array α} (hs : ∀ i j, i < j → j < d.size → lt d[j]! d[i]! = false) (tri : ∀ x y, lt x y = false → lt y x = false → x = y) : ∀ {n : Nat}, n ≤ d.size → (ddA d n).Pairwise fun x y => lt x y = true
  | 0, _ => List.Pairwise.nil
  | n + 1, h => by
    rw [ddA]
    split
    · exact zoP hs tri (by omega)
    · rename_i hc
      refine List.pairwise_append.2 ⟨zoP hs tri (by omega), List.pairwise_singleton _ _, fun x hx y hy => ?_⟩
      obtain ⟨i, hi, rfl⟩ := zgB.1 hx
      have hy : y = d[n]! := by simpa using hy
      subst hy
      cases hb : lt d[i]! d[n]! with
      | true => rfl
      | false =>
        have e1 := tri _ _ hb (hs i n hi (by omega))
        refine absurd ⟨by omega, ?_⟩ hc
        by_cases e : i = n - 1
        · rw [← e]; exact e1.symm
        · refine (tri _ _ ?_ ?_)
          · exact hs (n - 1) n (by omega) (by omega)
          · rw [← e1]; exact hs i (n - 1) (by omega) (by omega)
theorem zr3 {R : α → α → Prop} (irr : ∀ x, ¬R x x) (tr : ∀ x y z, R x y → R y z → R x z) : ∀ {l l' : List α}, l.Pairwise R → l'.Pairwise R → (∀ x, x ∈ l ↔ x ∈ l') → l = l'
  | [], [], _, _, _ => rfl
  | [], y :: l', _, _, h => by have := (h y).2 (by simp); cases this
  | x :: l, [], _, _, h => by have := (h x).1 (by simp); cases this
  | x :: l, y :: l', h1, h2, h => by
    obtain ⟨a1, a2⟩ := List.pairwise_cons.1 h1
    obtain ⟨b1, b2⟩ := List.pairwise_cons.1 h2
    have hxy : x = y := by
      rcases List.mem_cons.1 ((h x).1 (by simp)) with e | hx
      · exact e
      · rcases List.mem_cons.1 ((h y).2 (by simp)) with e | hy
        · exact e.symm
        · exact absurd (tr _ _ _ (a1 y hy) (b1 x hx)) (irr x)
    subst hxy
    rw [zr3 irr tr a2 b2 fun z => ?_]
    constructor
    · intro hz
      rcases List.mem_cons.1 ((h z).1 (List.mem_cons_of_mem _ hz)) with rfl | h3
      · exact absurd (a1 z hz) (irr z)
      · exact h3
    · intro hz
      rcases List.mem_cons.1 ((h z).2 (List.mem_cons_of_mem _ hz)) with rfl | h3
      · exact absurd (b1 z hz) (irr z)
      · exact h3
end
theorem zxz {α : Type} [Inhabited α] {lt : α → α → Bool} (hS : Sort.SWO lt) (d : Array α) : (Sort.sort lt d).toList.Perm d.toList := by
  obtain ⟨⟨h1, -, h2⟩, -⟩ := Sort.sort_sorts lt hS d
  have e1 : (Sort.sort lt d).extract 0 d.size = Sort.sort lt d := by rw [← h1]; simp
  have e2 : d.extract 0 d.size = d := by simp
  rwa [e1, e2] at h2
theorem zyh {α : Type} [Inhabited α] {d : Array α} {x : α} : x ∈ d.toList ↔ ∃ i, i < d.size ∧ d[i]! = x := by
  constructor
  · intro h
    obtain ⟨i, hi, rfl⟩ := List.getElem_of_mem h
    rw [Array.length_toList] at hi
    exact ⟨i, hi, by simp [hi]⟩
  · rintro ⟨i, hi, rfl⟩
    rw [show d[i]! = d.toList[i]'(by simpa using hi) by simp [hi]]
    exact List.getElem_mem _
theorem zta (zs : List Int) : zeh zs = zjm zs := by
  have hS := Sort.swo_ltInt
  obtain ⟨⟨h1, -, -⟩, h3⟩ := Sort.sort_sorts Sort.ltInt hS zs.toArray
  refine zr3 (R := (· < ·)) (fun x => Int.lt_irrefl x) (fun x y z => Int.lt_trans) ?_ zcS fun x => ?_
  · have := zoP (lt := Sort.ltInt) (d := Sort.sort Sort.ltInt zs.toArray) (fun i j hij hj => h3 i j (Nat.zero_le _) hij (by rw [← h1]; exact hj)) (fun x y a b => by simp only [Sort.ltInt, decide_eq_false_iff_not] at a b; omega) (Nat.le_refl _)
    exact this.imp fun h => by simpa [Sort.ltInt] using h
  · rw [zky, zeh, zgB, ← zyh, (zxz hS zs.toArray).mem_iff]
end Go.Ab
namespace Go.Ab
open Go Go.Proofs Go.MapKept Go.RowKit Go.WideMaps Go.Maps
variable {T : Nat → Obj → Prop}
set_option maxRecDepth 100000 in
theorem zoe (a : Option Addr) (cap : Nat) (vb : Value) (w : World) :
    Calls Tryz.prog 37 #[.slice a 0 cap, vb] w fun e w' => e = .returned (.map (some w.heap.size)) ∧ w.grownBy w' none ∧ w'.heap[w.heap.size]? = some (.map #[] 0) := by
  have hmm := @run_makeMap Tryz.prog
  have hrange := run_range_map (P := Tryz.prog) (w.alloc (.map #[] 0)) 76 3 33 w.heap.size #[] 0 Tryz.underlying76 (heap_alloc_new _ _)
  have hnext : (Instr.next (.pointer (some ⟨w.heap.size + 1, 0, none⟩)) false 0).run Tryz.prog ((w.alloc (.map #[] 0)).alloc (.mapIter (some w.heap.size) 0 #[] 0)) = .ok (.tuple #[.bool false]) ((w.alloc (.map #[] 0)).alloc (.mapIter (some w.heap.size) 0 #[] 0)) := by
    rcases run_next_at (P := Tryz.prog) ((w.alloc (.map #[] 0)).alloc (.mapIter (some w.heap.size) 0 #[] 0)) 0 (w.heap.size + 1) w.heap.size 0 0 #[] #[] 0 (by have := heap_alloc_new (w.alloc (.map #[] 0)) (.mapIter (some w.heap.size) 0 #[] 0); simpa using this)
      ((heap_alloc_old _ _ (by simp)).trans (heap_alloc_new _ _)) (by simp) (Nat.le_refl _) with ⟨-, h⟩ | ⟨e, he, -⟩
    · exact h
    · simp [leftOf] at he
  simp only [show (w.alloc (.map #[] 0)).heap.size = w.heap.size + 1 by simp] at hrange
  go_enter Tryz.func37, Tryz.ntmps37
  go_wp2
  refine wp_loop_rounds 1 ?_
  rw [rounds_succ]
  go_wp2
  refine wp_loop_rounds 1 ?_
  rw [rounds_succ]
  go_wp2
  go_ret
  exact ⟨rfl, (World.grownBy_alloc _ _ _).trans (World.grownBy_alloc _ _ _), (heap_alloc_old _ _ (by simp)).trans (heap_alloc_new _ _)⟩
theorem zxf : zaK T := by
  intro cell rank hle h64
  refine zhz ⟨_, Tryz.func37, by decide, rfl⟩ fun B σ a w args hT hS hsz hargs => ?_
  have ha : args = #[args.getD 0 undef, args.getD 1 undef] := by
    apply Array.ext
    · simpa using hsz
    · intro i h1 h2
      match i, h2 with
      | 0, _ => simp [Array.getD, show 0 < args.size by omega]
      | 1, _ => simp [Array.getD, show 1 < args.size by omega]
  have h0 := hargs 0 (by simp)
  have h1 := hargs 1 (by simp)
  have fin : ∀ (e : Ending) (w' : World) (es : Array MapEntry) (clock : Nat) (blk : Nat → Nat), e = .returned (.map (some w.heap.size)) → w.grownBy w' none → Grp (O2 (w.heap.size + 1)) w' w.heap.size ((zJ cell rank cell.length).map fun p => (p.1, zeh p.2)) es clock blk →
      ∃ v' σ', e = .returned v' ∧ Sim B (fun _ => .undef) (zo []) (fun i => ([] : List (Option Ob)).length ≤ i) σ' a w' ∧ VSim σ' (zo []) (fun i => ([] : List (Option Ob)).length ≤ i) (B.X σ' (zo [])) w' (.d (.map (zd7 cell rank))) v' ∧
        ∀ i ob, ([] : List Ob)[i]? = some ob → zo [] i = none ∨ (σ' i = σ i ∧ ∃ ob', zo [] i = some ob' ∧ zbz ob ob') := by
    intro e w' es clock blk he hg hG
    have hX : ∀ b, w.heap.size ≤ b → ¬B.X σ (zo []) b := by
      rintro b hb (h | ⟨id, h, -⟩)
      · have := hS.olt b h; omega
      · exact h (by simp [zo])
    have hgl : ((zJ cell rank cell.length).map fun p => (p.1, zeh p.2)).length = (zx cell).length := by simp [zJ]
    have hgd : ∀ i, i < (zx cell).length → ((zJ cell rank cell.length).map fun p => (p.1, zeh p.2)).getD i default = ((zx cell).getD i 0, zW cell rank ((zx cell).getD i 0)) := by
      intro i hi
      simp only [zJ, List.take_length, List.map_map, List.getD, List.getElem?_map, List.getElem?_eq_getElem hi, Option.map_some, Option.getD_some, Function.comp, zta]
      rfl
    refine ⟨_, σ, he, ⟨fun t => .undef _, fun id ob h => by simp [zo] at h, fun i j b h => absurd (by simp [zo]) h, fun id b h => absurd (by simp [zo]) h, fun _ _ => by simp [zo], ?_, hS.nt, fun b hb => Nat.lt_of_lt_of_le (hS.olt b hb) hg.size, fun b o hp => (hg.block b (zi (hS.pins b o hp)) (by simp)).trans (hS.pins b o hp), fun id l h => by simp [zo] at h⟩, .d _ _ ?_, fun i ob h => by simp at h⟩
    · refine ⟨hg.os.trans hS.kept.os, hg.tape.trans hS.kept.tape, hg.output.trans hS.kept.output, Nat.le_trans hS.kept.size hg.size, fun b hb hR => (hg.block b (Nat.lt_of_lt_of_le hb hS.kept.size) (by simp)).trans (hS.kept.block b hb hR), fun b c e h => ?_⟩
      obtain ⟨c', h1, h2⟩ := hS.kept.cells b c e h
      exact ⟨c', (hg.block b (zi h1) (by simp)).trans h1, h2⟩
    · refine .map _ _ es clock (hX _ (Nat.le_refl _)) (zi hG.heap) hG.heap (by rw [hG.size, hgl]; simp) hG.st (fun i hi => ?_) (fun i hi => ?_)
      · rw [List.length_map] at hi
        rw [hG.key i (by rw [hgl]; exact hi), hgd i hi, show ((zx cell).map fun c => (D.int .i64 c, dI (zW cell rank c))).getD i (.nil, .nil) = (D.int .i64 ((zx cell).getD i 0), dI (zW cell rank ((zx cell).getD i 0))) by simp [List.getD, hi]]
        exact .int .i64 _ (by simp)
      · rw [List.length_map] at hi
        have hv := hG.val i (by rw [hgl]; exact hi)
        rw [hgd i hi] at hv
        rw [show ((zx cell).map fun c => (D.int .i64 c, dI (zW cell rank c))).getD i (.nil, .nil) = (D.int .i64 ((zx cell).getD i 0), dI (zW cell rank ((zx cell).getD i 0))) by simp [List.getD, hi]]
        simp only
        generalize zW cell rank ((zx cell).getD i 0) = zs at hv
        replace hv : O2 (w.heap.size + 1) w' (es.getD i default).val (blk i) zs := hv
        obtain ⟨cap, c, e, q1, q2, q3, q4, q5, q6, q7⟩ := hv
        rw [q1]
        have hl : (zs.map (D.int .i64)).length = zs.length := List.length_map _
        rw [← hl]
        refine .arr 1 (zs.map (D.int .i64)) (blk i) 0 cap (fun j => c.getD j undef) (hX _ (by omega)) (zi q3) (fun x hx => ?_) (by omega) (by omega) (fun j hj => ?_) (fun j k hj hk => ?_)
        · obtain ⟨y, -, rfl⟩ := List.mem_map.1 hx; rfl
        · have hjc : j < c.size := by omega
          simp [World.cell?, q3, Array.getD_eq_getD_getElem?, hjc]
        · have : k = 0 := by omega
          subst this
          rw [hl] at hj
          rw [Nat.mul_one, Nat.add_zero]
          rw [q7 j hj, show (zs.map (D.int .i64)).getD j .nil = .int .i64 (zs.getD j 0) by simp [List.getD, hj]]
          exact .int .i64 _ (by simp)
  have read : ∀ (xs : List Int) (v : Value), xs ≠ [] → zh (B.X σ (zo [])) w (dI xs) v → ∃ b off cap, v = .slice (some ⟨b, off, none⟩) xs.length cap ∧ b < w.heap.size ∧ ∀ j, j < xs.length → w.cell? ⟨b, off + j, none⟩ = some (.int .i64 (at0 xs j)) := by
    intro xs v hne hd
    unfold dI at hd
    have hl : (xs.map (D.int .i64)).length = xs.length := List.length_map _
    generalize hys : xs.map (D.int .i64) = ys at hd hl
    cases hd with
    | arr0 s a cap => exact absurd (List.eq_nil_of_length_eq_zero (by simpa using hl.symm)) hne
    | arr s _ b off cap cv g1 g2 g3 g4 g5 g6 g7 =>
      refine ⟨b, off, cap, by rw [hl], g2, fun j hj => ?_⟩
      have h6 := g6 j (by omega)
      have h7 := g7 j 0 (by omega) (by omega)
      rw [Nat.mul_one, Nat.add_zero, ← hys, show (xs.map (D.int .i64)).getD j .nil = .int .i64 (at0 xs j) by simp [List.getD, at0, hj]] at h7
      rw [h6]
      generalize cv j = z at h7
      cases h7; rfl
  rw [ha]
  have e0 : ([V.d (dI cell), V.d (dI rank)].getD 0 .undef) = .d (dI cell) := rfl
  have e1 : ([V.d (dI cell), V.d (dI rank)].getD 1 .undef) = .d (dI rank) := rfl
  rw [e0] at h0
  rw [e1] at h1
  generalize args.getD 0 undef = va at h0
  generalize args.getD 1 undef = vb at h1
  cases h0 with
  | d _ _ hd0 =>
  cases h1 with
  | d _ _ hd1 =>
  by_cases hc : cell = []
  · subst hc
    have hv : ∃ a' cap, va = .slice a' 0 cap := by
      unfold dI at hd0
      cases hd0 with
      | arr0 s a' cap => exact ⟨a', cap, rfl⟩
      | arr s _ b off cap cv => exact ⟨_, cap, rfl⟩
    obtain ⟨a', cap, rfl⟩ := hv
    refine (zoe a' cap vb w).mono ?_
    rintro e w' ⟨he, hg, hh⟩
    exact fin e w' #[] 0 (fun _ => 0) he hg ⟨hh, ⟨fun i j hi => by simp at hi, fun i hi => by simp at hi⟩, rfl, fun i hi => by simp [zJ, zx] at hi, fun i hi => by simp [zJ, zx] at hi, fun i j hi => by simp [zJ, zx] at hi⟩
  · have hpos : 0 < cell.length := List.length_pos_iff.2 hc
    obtain ⟨b1, o1, cap1, rfl, l1, c1⟩ := read cell va hc hd0
    obtain ⟨b2, o2, cap2, rfl, l2, c2⟩ := read rank vb (fun e => by rw [e] at hle; simp at hle; exact hc (List.eq_nil_of_length_eq_zero (by simp [hle]))) hd1
    refine (zof (T := T) b1 o1 cap1 b2 o2 cap2 rank.length cell rank w hpos hle (by omega) (fun b o ht => hS.pins b o (hT b o ht)) l1 l2 c1 (fun j hj => c2 j (by omega))).mono ?_
    rintro e w' ⟨he, hg, es, clock, blk, hG⟩
    exact fin e w' es clock blk he hg hG
end Go.Ab
namespace Go.Ab
open Go Go.Proofs
theorem zzK {α:Type} [DecidableEq α] : ∀ {l l':List α},l.Nodup→(∀ x∈l,x∈l')→l.length≤l'.length
 | [],_,_,_=>Nat.zero_le _
 | x::t,l',h,hs=>by
  obtain ⟨h1,h2⟩:=List.nodup_cons.1 h
  have hx:=hs x (by simp)
  have:=zzK (l:=t) (l':=l'.erase x) h2 fun y hy=>(List.mem_erase_of_ne (fun e=>h1 (by rw [← e];exact hy))).2 (hs y (List.mem_cons_of_mem _ hy))
  rw [List.length_erase_of_mem hx] at this
  have hp:=List.length_pos_of_mem hx
  simp only [List.length_cons];omega
theorem zz0 {α:Type} (f:α→Nat) : ∀ {l:List α},l≠[] → ∃ x∈l,∀ y∈l,f y≤f x
 | [],h=>absurd rfl h
 | [x],_=>⟨x,by simp,by simp⟩
 | x::y::t,_=>by
  obtain ⟨z,h1,h2⟩:=zz0 f (l:=y::t) (by simp)
  by_cases hz:f x≤f z
  ·refine ⟨z,List.mem_cons_of_mem _ h1,fun u hu=>?_⟩
   rcases List.mem_cons.1 hu with rfl|hu
   ·exact hz
   ·exact h2 u hu
  ·refine ⟨x,by simp,fun u hu=>?_⟩
   rcases List.mem_cons.1 hu with rfl|hu
   ·exact Nat.le_refl _
   ·have:=h2 u hu;omega
def cmp (r:List (BitVec 64)) (w v:Nat):Bool:=rb r w v||rb r v w
structure zz4 (r:List (BitVec 64)):Prop where
 len:r.length≤64
 ins : ∀ w v,rb r w v=true→v < r.length
 refl : ∀ w,w < r.length→rb r w w=true
 tr : ∀ w u v,rb r w u=true→rb r u v=true→rb r w v=true
 conn : ∀ w v i,cmp r w v=true→cmp r w i=true→cmp r v i=true
end Go.Ab
namespace Go.Ab
open Go Go.Proofs
theorem zxB {p:PM} {a:Nat} : (zb6 p a).length=p.W.toNat:=by simp [zb6]
theorem zyp {p:PM} {a:Nat} (hW:p.W≤64) {w v:Nat} : rb (zb6 p a) w v=(decide (w < p.W.toNat)&&decide (v < p.W.toNat)&&(at0 (za p.cell a) v==at0 (za p.cell a) w)&&decide (at0 (za p.rank a) v≤at0 (za p.rank a) w)):=by
 by_cases hw:w < p.W.toNat
 ·have:(zb6 p a)[w]? = some (zcT (za p.cell a) (za p.rank a) w p.W.toNat):=by simp [zb6,hw]
  rw [zun this,zcT,zes]
  by_cases hv:v < p.W.toNat
  ·simp [hw,hv,show v < 64 by omega]
  ·simp [hv]
 ·rw [zvB (by rw [zxB];omega)];simp [hw]
theorem zlZ {p:PM} {a:Nat} (hW:p.W≤64) {w v:Nat} : rb (zb6 p a) w v=true↔w < p.W.toNat∧v < p.W.toNat∧at0 (za p.cell a) v=at0 (za p.cell a) w∧at0 (za p.rank a) v≤at0 (za p.rank a) w:=by
 rw [zyp hW]
 simp only [Bool.and_eq_true,decide_eq_true_eq,beq_iff_eq,and_assoc]
theorem zp4 {α:Type} {l:List α} {f:α→List Int} {a:Nat} {x:α} (h:l[a]? = some x):za (l.map f) a=f x:=zaV (by rw [List.getElem?_map,h];rfl)
theorem zwA {p:PM} (h0:zbc p.W p.cell.length p.val=0) (h1:p.rank.length=p.cell.length) (h2:zjP p) (h3:zea p) (h4:zfo p):zy p=0:=by
 unfold zy
 rw [if_neg (not_not_intro h0),if_neg (not_not_intro h1),if_neg (not_not_intro h2),if_neg (not_not_intro h3),if_neg (not_not_intro h4)]
end Go.Ab
namespace Go.Ab
open Go Go.Proofs
theorem znJ {α:Type} {p:α→Bool} {l:List α} : ∀ (i:Nat) (x:α),l[i]? = some x→p x=true → ∃ k y,zcf p l=((k:Nat):Int)∧k≤i∧l[k]? = some y∧p y=true ∧ ∀ j z,j < k→l[j]? = some z→p z=false:=by
 intro i
 induction i using Nat.strongRecOn with
 | _ i ih =>
  intro x hx hp
  by_cases h : ∃ j z,j < i∧l[j]? = some z∧p z=true
  ·obtain ⟨j,z,h1,h2,h3⟩:=h
   obtain ⟨k,y,a1,a2,a3,a4,a5⟩:=ih j h1 z h2 h3
   exact ⟨k,y,a1,by omega,a3,a4,a5⟩
  ·have hn : ∀ j z,j < i→l[j]? = some z→p z=false:=fun j z h1 h2=>by
    cases hb:p z with
    | false=>rfl
    | true=>exact absurd ⟨j,z,h1,h2,hb⟩ h
   exact ⟨i,x,zfy hx hp hn,Nat.le_refl _,hx,hp,hn⟩
theorem zkE {v:BitVec 64} {ws:List Int} : ∀ (n i:Nat),(zcm v ws n).getLsbD i=(decide (i < 64)&&decide (i < n)&&v.getLsbD (at0 ws i).toNat)
 | 0,i=>by simp [zcm]
 | n+1,i=>by
  have hone : ∀ j,((v >>> (at0 ws n).toNat)&&&1#64).getLsbD j=(decide (j=0)&&v.getLsbD (at0 ws n).toNat):=fun j=>by
   rw [BitVec.getLsbD_and,BitVec.getLsbD_ushiftRight]
   by_cases h:j=0
   ·subst h;simp
   ·simp [h]
  rw [zcm,BitVec.getLsbD_or,zkE n i,BitVec.getLsbD_shiftLeft,hone]
  by_cases h64:i < 64
  ·by_cases h1:i=n
   ·subst h1;simp [h64]
   ·by_cases h2:i < n
    ·simp [h64,h2,show i < n+1 by omega]
    ·have:i - n≠0:=by omega
     simp [h64,h2,show ¬ i < n+1 by omega,this]
  ·simp [h64]
theorem ztm {s:BitVec 64} {n:Nat} {x:Int} : x∈wsL s n ↔ ∃ i:Nat,i < n∧s.getLsbD i=true∧x=i:=by
 unfold wsL
 rw [List.mem_map]
 constructor
 ·rintro ⟨i,h,rfl⟩
  rw [List.mem_filter,List.mem_range] at h
  exact ⟨i,h.1,h.2,rfl⟩
 ·rintro ⟨i,h1,h2,rfl⟩
  exact ⟨i,List.mem_filter.2 ⟨List.mem_range.2 h1,h2⟩,rfl⟩
section
variable {p:PM} {ws:List Int} {a:Nat}
def cAt (p:PM) (ws:List Int) (a i:Nat):Int:=at0 (za p.cell a) (at0 ws i).toNat
def rAt (p:PM) (ws:List Int) (a i:Nat):Int:=at0 (za p.rank a) (at0 ws i).toNat
theorem zeo:(zad p ws a).length=ws.length:=by simp [zad]
theorem zvy:(zb5 p ws a).length=ws.length:=by simp [zb5]
theorem zg3 {i:Nat} (h:i < ws.length):at0 (zbI p ws a) i=rAt p ws a i:=zkY (zdN h)
theorem ziT {i:Nat} (h:i < ws.length) : ∃ k,at0 (zad p ws a) i=((k:Nat):Int)∧k≤i∧cAt p ws a k=cAt p ws a i ∧ ∀ j,j < ws.length→cAt p ws a j=cAt p ws a i→k≤j:=by
 have e:at0 (zad p ws a) i=zcf (fun x:Int=>decide (at0 (za p.cell a) x.toNat=at0 (za p.cell a) (at0 ws i).toNat)) ws:=zkY (zdN h)
 obtain ⟨k,y,h1,h2,h3,h4,h5⟩:=znJ (p:=fun x:Int=>decide (at0 (za p.cell a) x.toNat=at0 (za p.cell a) (at0 ws i).toNat)) i (at0 ws i) (zdN h) (by simp)
 refine ⟨k,e.trans h1,h2,?_,fun j hj hc=>?_⟩
 ·unfold cAt
  rw [zY h3]
  exact of_decide_eq_true h4
 ·apply Classical.byContradiction
  intro hn
  have:=h5 j _ (by omega) (zdN hj)
  rw [show at0 (za p.cell a) (at0 ws j).toNat=at0 (za p.cell a) (at0 ws i).toNat from hc] at this
  simp at this
theorem zec {i j:Nat} (hi:i < ws.length) (hj:j < ws.length):at0 (zad p ws a) i=at0 (zad p ws a) j↔cAt p ws a i=cAt p ws a j:=by
 obtain ⟨k,h1,h2,h3,h4⟩:=ziT (p:=p) (a:=a) hi
 obtain ⟨l,g1,g2,g3,g4⟩:=ziT (p:=p) (a:=a) hj
 rw [h1,g1]
 constructor
 ·intro e
  have:k=l:=by omega
  subst this
  exact h3.symm.trans g3
 ·intro e
  have:=h4 l (by omega) (g3.trans e.symm)
  have:=g4 k (by omega) (h3.trans e)
  omega
theorem zyP:ztA (zad p ws a):=by
 intro i hi
 rw [zeo] at hi
 obtain ⟨k,h1,h2,h3,h4⟩:=ziT (p:=p) (a:=a) hi
 refine ⟨by omega,by omega,?_⟩
 rw [h1,Int.toNat_natCast,← h1]
 exact (zec (by omega) hi).2 h3
theorem zji {l:List Int} (h:zez l) {i j:Nat} (hi:i < l.length) (hj:j < l.length):at0 l i≤at0 l j↔i≤j:=by
 constructor
 ·intro e
  apply Classical.byContradiction
  intro hn
  have:=zeP h (show j < i by omega) hi
  omega
 ·intro e
  by_cases hij:i=j
  ·subst hij;exact Int.le_refl _
  ·have:=zeP h (show i < j by omega) hj
   omega
abbrev rks (p:PM) (ws:List Int) (a i:Nat):List Int:=zW (zad p ws a) (zbI p ws a) (at0 (zad p ws a) i)
theorem ztl {i:Nat} {x:Int} (hi:i < ws.length):x∈rks p ws a i ↔ ∃ j,j < ws.length∧cAt p ws a j=cAt p ws a i∧rAt p ws a j=x:=by
 rw [zd5]
 constructor
 ·rintro ⟨w,h1,h2,h3⟩
  rw [zeo] at h1
  exact ⟨w,h1,(zec h1 hi).1 h2,by rw [← zg3 h1];exact h3⟩
 ·rintro ⟨w,h1,h2,h3⟩
  exact ⟨w,by rw [zeo];exact h1,(zec h1 hi).2 h2,by rw [zg3 h1];exact h3⟩
theorem zf9 {i:Nat} (hi:i < ws.length) : ∃ m,at0 (zb5 p ws a) i=((m:Nat):Int)∧m < (rks p ws a i).length∧at0 (rks p ws a i) m=rAt p ws a i:=by
 have hm:rAt p ws a i∈rks p ws a i:=(ztl hi).2 ⟨i,hi,rfl,rfl⟩
 obtain ⟨k,hk⟩:=List.getElem?_of_mem hm
 obtain ⟨m,y,h1,h2,h3,h4,h5⟩:=znJ (p:=fun y:Int=>at0 (zbI p ws a) i==y) k _ hk (by rw [zg3 hi];simp)
 refine ⟨m,(zr9 hi).trans h1,(List.getElem?_eq_some_iff.1 h3).1,?_⟩
 rw [zY h3]
 have:at0 (zbI p ws a) i=y:=by simpa using h4
 rw [← this,zg3 hi]
theorem zvE {i j:Nat} (hi:i < ws.length) (hj:j < ws.length) (h:cAt p ws a i=cAt p ws a j):rks p ws a i=rks p ws a j:=by
 unfold rks
 rw [(zec hi hj).2 h]
theorem zsa {i j:Nat} (hi:i < ws.length) (hj:j < ws.length) (h:cAt p ws a i=cAt p ws a j):at0 (zb5 p ws a) i≤at0 (zb5 p ws a) j↔rAt p ws a i≤rAt p ws a j:=by
 obtain ⟨m,h1,h2,h3⟩:=zf9 (p:=p) (a:=a) hi
 obtain ⟨n,g1,g2,g3⟩:=zf9 (p:=p) (a:=a) hj
 rw [zvE hi hj h] at h2 h3
 have hr:zez (rks p ws a j):=zcS
 rw [h1,g1,← h3,← g3,zji hr h2 g2]
 exact Int.ofNat_le
theorem zyo:znb (zad p ws a) (zb5 p ws a):=by
 intro i hi
 rw [zeo] at hi
 obtain ⟨m,h1,h2,h3⟩:=zf9 (p:=p) (a:=a) hi
 refine ⟨by omega,?_⟩
 by_cases h0:m=0
 ·left;omega
 ·right
  have hx:at0 (rks p ws a i) (m - 1)∈rks p ws a i:=zdO.2 ⟨m - 1,by omega,rfl⟩
  obtain ⟨j,h4,h5,h6⟩:=(ztl hi).1 hx
  refine ⟨j,by rw [zeo];exact h4,(zec h4 hi).2 h5,?_⟩
  obtain ⟨n,g1,g2,g3⟩:=zf9 (p:=p) (a:=a) h4
  rw [zvE h4 hi h5] at g2 g3
  rw [h6] at g3
  have hr:zez (rks p ws a i):=zcS
  have e1:=(zji hr g2 (show m - 1 < (rks p ws a i).length by omega)).1 (Int.le_of_eq g3)
  have e2:=(zji hr (show m - 1 < (rks p ws a i).length by omega) g2).1 (Int.le_of_eq g3.symm)
  omega
end
theorem zyq {p:PM} (hg:zwh p) {s:BitVec 64} (hs:s &&& ~~~(zM p.W)=0) (h0 : ¬s=0) {ws:List Int} (hws:ws=wsL s p.W.toNat) :
  (1≤ws.length∧ws.length≤64)∧zy (zah p ws)=0 ∧ ∀ a,a < p.cell.length → ∀ i k,i < ws.length→k < ws.length→rb (zb6 (zah p ws) a) i k=rb (zb6 p a) (at0 ws i).toNat (at0 ws k).toNat:=by
 have hw1:=hg.w1
 have hw2:=hg.w2
 have hl:ws.length≤64:=by have:=zpn (s:=s) (n:=p.W.toNat);rw [← hws] at this;omega
 have hb : ∀ i,s.getLsbD i=true→(i:Int) < p.W:=by
  have:bad p.W s=false:=by
   rw [bad,decide_eq_false_iff_not,Classical.not_not];exact hs
  exact (zfs (by omega)).1 this
 have hl1:1≤ws.length:=by
  apply Classical.byContradiction
  intro hn
  apply h0
  apply BitVec.eq_of_getLsbD_eq
  intro i _
  cases hbi:s.getLsbD i with
  | false=>simp
  | true =>
   have:=hb i hbi
   have hm:(i:Int)∈ws:=by rw [hws];exact ztm.2 ⟨i,by omega,hbi,rfl⟩
   have:=List.length_pos_of_mem hm
   omega
 have hW:(zah p ws).W=ws.length:=rfl
 have hm : ∀ i,i < ws.length→0≤at0 ws i∧at0 ws i < p.W:=fun i hi=>by
  have:at0 ws i∈ws:=zdO.2 ⟨i,hi,rfl⟩
  rw [hws] at this
  obtain ⟨j,h1,h2,h3⟩:=ztm.1 this
  rw [← hws] at h3
  omega
 have rc : ∀ a,a < p.cell.length→za (zah p ws).cell a=zad p ws a:=fun a ha=>by
  show za ((List.range p.cell.length).map (zad p ws)) a=_
  exact zp4 (by simp [ha])
 have rr : ∀ a,a < p.cell.length→za (zah p ws).rank a=zb5 p ws a:=fun a ha=>by
  show za ((List.range p.cell.length).map (zb5 p ws)) a=_
  exact zp4 (by simp [ha])
 have hcl:(zah p ws).cell.length=p.cell.length:=by simp [zah]
 refine ⟨⟨hl1,hl⟩,zwA ?_ ?_ ?_ ?_ ?_,fun a ha i k hi hk=>?_⟩
 ·have h4:=hg.n4
  have h8:=hg.v8
  show zbc (ws.length:Int) ((zah p ws).cell.length:Int) (p.val.map fun v=>zcm v ws ws.length)=0
  rw [hcl]
  unfold zbc
  rw [if_neg (by omega),if_neg (by rw [List.length_map];omega),if_neg]
  rw [List.any_map,List.any_eq_true]
  rintro ⟨v,-,hv⟩
  have:bad (ws.length:Int) (zcm v ws ws.length)=false:=(zfs (by omega)).2 fun i hi=>by
   rw [zkE] at hi
   simp only [Bool.and_eq_true,decide_eq_true_eq] at hi
   omega
  simp only [Function.comp] at hv
  rw [this] at hv;cases hv
 ·simp [zah]
 ·intro a ha
  rw [hcl] at ha
  rw [rc a ha,rr a ha,zeo,zvy]
  exact ⟨rfl,rfl⟩
 ·intro a ha
  rw [hcl] at ha
  rw [rc a ha];exact zyP
 ·intro a ha
  rw [hcl] at ha
  rw [rc a ha,rr a ha];exact zyo
 ·rw [Bool.eq_iff_iff,zlZ (by rw [hW];omega),zlZ hw2,rc a ha,rr a ha,hW]
  obtain ⟨a1,a2⟩:=hm i hi
  obtain ⟨b1,b2⟩:=hm k hk
  have e1:=zec (p:=p) (a:=a) hk hi
  constructor
  ·rintro ⟨-,-,h3,h4⟩
   have h5:=e1.1 h3
   exact ⟨by omega,by omega,h5,(zsa hk hi h5).1 h4⟩
  ·rintro ⟨-,-,h3,h4⟩
   exact ⟨by omega,by omega,e1.2 h3,(zsa hk hi h3).2 h4⟩
end Go.Ab
namespace Go.Ab
open Go Go.Proofs
def kmP (p:PM):KM:=⟨p.W,p.val,(List.range p.cell.length).map fun a=>(List.range p.W.toNat).map fun w=>zcI (za p.cell a) w⟩
theorem zzI {p:PM} (hc:zy p=0):zgk p (fun a w=>zcI (za p.cell a) w)=(kmP p,0):=by rw [zgk,if_neg (not_not_intro hc)];rfl
section
variable {p:PM} (hc:zy p=0)
include hc
theorem ztt {a:Nat} (ha:a < p.cell.length):(za p.cell a).length=p.W.toNat:=by
 have h:=(zB hc).lens
 have w1:=(zB hc).w1
 have:=(h a ha).1
 omega
theorem zvk {a w u:Nat} (ha:a < p.cell.length) (hw:w < p.W.toNat):rb ((kmP p).rel.getD a []) w u=true↔InC p a w u:=by
 have w2:=(zB hc).w2
 have hl:=ztt hc ha
 have e:(kmP p).rel.getD a []=(List.range p.W.toNat).map fun w=>zcI (za p.cell a) w:=by simp [kmP,List.getD,ha]
 rw [e]
 unfold rb InC zcI
 rw [List.getD,List.getElem?_map,List.getElem?_range hw]
 show (zF _ _).getLsbD u=true↔_
 rw [zet (by omega),hl,beq_iff_eq]
theorem zja:zcC (kmP p) where
 w1:=(zB hc).w1
 w2:=(zB hc).w2
 n4:=by simpa [kmP] using (zB hc).n4
 v8:=(zB hc).v8
 len r hr:=by
  obtain ⟨a,-,rfl⟩:=List.mem_map.1 hr
  have:=(zB hc).w1
  show ((List.map _ (List.range p.W.toNat)).length:Int)=p.W
  rw [List.length_map,List.length_range];omega
 val:=(zB hc).val
 rel r hr s hs:=by
  obtain ⟨a,ha,rfl⟩:=List.mem_map.1 hr
  obtain ⟨w,hw,rfl⟩:=List.mem_map.1 hs
  have w1:=(zB hc).w1
  have w2:=(zB hc).w2
  have hl:=ztt hc (List.mem_range.1 ha)
  refine (zeV (show (0:Int)≤p.W by omega)).2 fun i hi=>?_
  unfold zcI at hi
  rw [zet (by omega)] at hi
  show i < p.W.toNat
  omega
theorem zig:zV (kmP p)=0:=zt8 (zja hc)
theorem zgi:(kmP p).rel.length=p.cell.length:=by simp [kmP]
theorem zgj {a w u:Nat} (hw:w < p.W.toNat):zcR (zaj (kmP p)) a w u↔a < p.cell.length∧InC p a w u:=by
 have hl:=zgi hc
 constructor
 ·intro h
  have ha:=(ziw (zja hc) h).2.2
  rw [hl] at ha
  refine ⟨ha,(zvk hc ha hw).1 ?_⟩
  have:=(zfa (m:=kmP p) (i:=(a:Int)) (w:=w) (u:=u) ⟨by omega,by omega⟩).2 h
  rwa [zc2,Int.toNat_natCast] at this
 ·rintro ⟨ha,h⟩
  have:=(zfa (m:=kmP p) (i:=(a:Int)) (w:=w) (u:=u) ⟨by omega,by omega⟩).1 (by rw [zc2,Int.toNat_natCast];exact (zvk hc ha hw).2 h)
  exact this
theorem zih {g w u:Nat} (hw:w < p.W.toNat):ze9 (kmP p).W.toNat (zaj (kmP p)) g w u↔Suc p g w u:=by
 unfold ze9 Suc
 constructor
 ·rintro ⟨-,a,h1,h2⟩
  obtain ⟨h3,h4⟩:=(zgj hc hw).1 h2
  exact ⟨hw,a,h3,h1,h4⟩
 ·rintro ⟨-,a,h3,h1,h4⟩
  exact ⟨h4.1,a,h1,(zgj hc hw).2 ⟨h3,h4⟩⟩
theorem zm5 {h:Hd} (hf:zou (kmP p) h) (h12:h.op≠12) {x y:BitVec 64} {X Y:Nat→Prop} (hx : ∀ u,x.getLsbD u=true↔u < p.W.toNat∧X u) (hy : ∀ u,y.getLsbD u=true↔u < p.W.toNat∧Y u) :
  zcB p h x y=(zaR (kmP p) h x y).1:=by
 have hsem:=(zlf (zig hc) hf hx hy).2
 have g:=zB hc
 have w1:=g.w1
 have w2:=g.w2
 have hext : ∀ {a b:BitVec 64} {P:Nat→Prop},(∀ w,a.getLsbD w=true↔w < p.W.toNat∧P w)→(∀ w,b.getLsbD w=true↔w < p.W.toNat∧P w)→a=b:=fun ha hb=>BitVec.eq_of_getLsbD_eq fun i _=>by rw [Bool.eq_iff_iff,ha,hb]
 have hall : ∀ w,w < p.W.toNat→(zM p.W).getLsbD w=true:=fun w hw=>by rw [zbT (by omega) (by omega),decide_eq_true_eq];omega
 have hnx : ∀ w,w < p.W.toNat→((zM p.W &&& ~~~x).getLsbD w=true ↔ ¬X w):=fun w hw=>by
  rw [BitVec.getLsbD_and,hall w hw,Bool.true_and,BitVec.getLsbD_not,decide_eq_true (show w < 64 by omega),Bool.true_and,Bool.not_eq_true',← Bool.not_eq_true,hx]
  exact ⟨fun h h2=>h ⟨hw,h2⟩,fun h h2=>h h2.2⟩
 obtain ⟨o1,o2⟩:=hf.op
 have f2:=hf.agent
 have f3:=hf.group
 have f1:=hf.fact
 clear hf
 obtain ⟨op,i,e,G⟩:=h
 dsimp only at o1 o2 f1 f2 f3 h12
 have hop:op=1∨op=2∨op=3∨op=4∨op=5∨op=6∨op=7∨op=8∨op=9∨op=10∨op=11∨op=13:=by omega
 rcases hop with rfl|rfl|rfl|rfl|rfl|rfl|rfl|rfl|rfl|rfl|rfl|rfl
 ·rfl
 ·rfl
 ·have hi:=f1 rfl
  rw [show zaR (kmP p) ⟨3,i,e,G⟩ x y=((kmP p).val.getD i.toNat 0#64,true) from if_neg (show ¬((kmP p).val.length:Int)≤i by omega)]
  rfl
 ·rfl
 ·rfl
 ·rfl
 ·rfl
 ·rfl
 ·have hi:=f2 (.inl rfl)
  rw [zgi hc] at hi
  refine hext (P:=fun w => ∀ v,InC p i.toNat w v→X v) (fun w=>?_) fun w=>(hsem w).trans (and_congr_right fun hw=>?_)
  ·have:=zkw (p:=p) hc (a:=i.toNat) (by omega) (s:=x) (w:=w)
   rw [show ((i.toNat:Nat):Int)=i by omega] at this
   show (zeN p i x).getLsbD w=true↔_
   rw [this]
   refine and_congr_right fun hw=>forall_congr' fun v=>forall_congr' fun hv=>?_
   rw [hx]
   exact ⟨fun h=>h.2,fun h=>⟨hv.1,h⟩⟩
  ·show (∀ u,u < p.W.toNat→zcR (zaj (kmP p)) i.toNat w u→X u)↔_
   refine forall_congr' fun u=>?_
   rw [zgj hc hw]
   exact ⟨fun h h2=>h h2.1 ⟨by omega,h2⟩,fun h _ h2=>h h2.2⟩
 ·have hi:=f2 (.inr rfl)
  rw [zgi hc] at hi
  refine hext (P:=fun w => ∃ v,InC p i.toNat w v∧X v) (fun w=>?_) fun w=>(hsem w).trans (and_congr_right fun hw=>?_)
  ·have:=zkw (p:=p) hc (a:=i.toNat) (by omega) (s:=zM p.W &&& ~~~x) (w:=w)
   rw [show ((i.toNat:Nat):Int)=i by omega] at this
   show (zM p.W &&& ~~~zeN p i (zM p.W &&& ~~~x)).getLsbD w=true↔_
   by_cases hw:w < p.W.toNat
   ·rw [BitVec.getLsbD_and,hall w hw,Bool.true_and,BitVec.getLsbD_not,decide_eq_true (show w < 64 by omega),Bool.true_and,Bool.not_eq_true',← Bool.not_eq_true,this]
    constructor
    ·intro h
     refine ⟨hw,Classical.byContradiction fun hn=>h ⟨hw,fun v hv=>(hnx v hv.1).2 fun hX=>hn ⟨v,hv,hX⟩⟩⟩
    ·rintro ⟨-,v,hv,hX⟩ ⟨-,h⟩
     exact (hnx v hv.1).1 (h v hv) hX
   ·have:(zM p.W).getLsbD w=false:=by
     rcases Nat.lt_or_ge w 64 with h64|h64
     ·rw [zbT (by omega) h64,decide_eq_false];omega
     ·exact BitVec.getLsbD_of_ge _ _ h64
    rw [BitVec.getLsbD_and,this]
    exact ⟨fun h=>by simp at h,fun h=>absurd h.1 hw⟩
  ·show (∃ u,u < p.W.toNat∧zcR (zaj (kmP p)) i.toNat w u∧X u)↔_
   refine exists_congr fun u=>?_
   rw [zgj hc hw]
   exact ⟨fun h=>⟨h.2.1.2,h.2.2⟩,fun h=>⟨h.1.1,⟨by omega,h.1⟩,h.2⟩⟩
 ·refine hext (P:=fun w => ∀ v,Suc p G.toNat w v→X v) (fun w=>?_) fun w=>(hsem w).trans (and_congr_right fun hw=>?_)
  ·show (zhT p G.toNat x).getLsbD w=true↔_
   rw [zpz hc]
   refine and_congr_right fun hw=>forall_congr' fun v=>forall_congr' fun hv=>?_
   rw [hx]
   exact ⟨fun h=>h.2,fun h=>⟨hv.lt,h⟩⟩
  ·show (∀ u,ze9 (kmP p).W.toNat (zaj (kmP p)) G.toNat w u→X u)↔_
   exact forall_congr' fun u=>by rw [zih hc hw]
 ·refine hext (P:=fun w => ∀ v,CP p G.toNat x w v→Y v) (fun w=>?_) fun w=>(hsem w).trans (and_congr_right fun hw=>?_)
  ·show (zeZ p G.toNat x y).getLsbD w=true↔_
   rw [zeE hc]
   refine and_congr_right fun hw=>forall_congr' fun v=>forall_congr' fun hv=>?_
   have hvl:v < p.W.toNat:=by cases hv with
    | base h _=>exact h.lt
    | step _ h _=>exact h.lt
   rw [hy]
   exact ⟨fun h=>h.2,fun h=>⟨hvl,h⟩⟩
  ·show (∀ u,CPt (ze9 (kmP p).W.toNat (zaj (kmP p)) G.toNat) X w u→Y u)↔_
   have to : ∀ u,CPt (ze9 (kmP p).W.toNat (zaj (kmP p)) G.toNat) X w u→u < p.W.toNat∧CP p G.toNat x w u:=fun u h=>by
    induction h with
    | one a b =>
     have h1:=(zih hc hw).1 a
     exact ⟨h1.lt,.base h1 ((hx _).2 ⟨h1.lt,b⟩)⟩
    | more _ a b ih =>
     have h1:=(zih hc ih.1).1 a
     exact ⟨h1.lt,.step ih.2 h1 ((hx _).2 ⟨h1.lt,b⟩)⟩
   have fro : ∀ u,CP p G.toNat x w u→u < p.W.toNat∧CPt (ze9 (kmP p).W.toNat (zaj (kmP p)) G.toNat) X w u:=fun u h=>by
    induction h with
    | base a b=>exact ⟨a.lt,.one ((zih hc hw).2 a) ((hx _).1 b).2⟩
    | step _ a b ih=>exact ⟨a.lt,.more ih.2 ((zih hc ih.1).2 a) ((hx _).1 b).2⟩
   exact forall_congr' fun u=>⟨fun h h2=>h (fro u h2).2,fun h h2=>h (to u h2).2⟩
theorem znF : ∀ (t:Tm),t.ok→t.all (zou (kmP p))→t.all (fun h=>h.op≠12)→ev (zcB p) 0#64 t=(ev (vnK (kmP p)) (0#64,false) t).1
 | .z h,h1,h2,h3=>by
  have h4 : ¬(4≤h.op∧h.op≤21):=by simpa [zak] using h1.2.1
  have hop:=h2.op
  have hd : ∀ u,(0#64).getLsbD u=true↔u < p.W.toNat∧False:=fun u=>by simp
  have e:ev (vnK (kmP p)) (0#64,false) (.z h)=zaR (kmP p) h 0#64 0#64:=if_pos ⟨fun h=>by omega,fun h=>by omega⟩
  rw [e]
  exact zm5 hc h2 h3 hd hd
 | .u h x,h1,h2,h3=>by
  obtain ⟨a1,a2⟩:=zgE (zig hc) x h1.2.2.2 h2.2
  have h5 : ¬(5≤h.op∧h.op≤8∨h.op=13∨h.op=14∨h.op=16∨h.op=19∨h.op=21):=by simpa [zae] using h1.2.2.1
  have hd : ∀ u,(0#64).getLsbD u=true↔u < p.W.toNat∧False:=fun u=>by simp
  have e:ev (vnK (kmP p)) (0#64,false) (.u h x)=zaR (kmP p) h (ev (vnK (kmP p)) (0#64,false) x).1 0#64:=if_pos ⟨fun _=>a1,fun h=>by omega⟩
  rw [e,← zm5 hc h2.1 h3.1 a2 hd,← znF x h1.2.2.2 h2.2 h3.2]
  rfl
 | .b h x y,h1,h2,h3=>by
  obtain ⟨a1,a2⟩:=zgE (zig hc) x h1.2.2.2.1 h2.2.1
  obtain ⟨b1,b2⟩:=zgE (zig hc) y h1.2.2.2.2 h2.2.2
  have e:ev (vnK (kmP p)) (0#64,false) (.b h x y)=zaR (kmP p) h (ev (vnK (kmP p)) (0#64,false) x).1 (ev (vnK (kmP p)) (0#64,false) y).1:=if_pos ⟨fun _=>a1,fun _=>b1⟩
  rw [e,← zm5 hc h2.1 h3.1 a2 b2,← znF x h1.2.2.2.1 h2.2.1 h3.2.1,← znF y h1.2.2.2.2 h2.2.2 h3.2.2]
  rfl
theorem zvf {f:List Nd} (hfr:zaz .i64 (fun p q=>p &&& ~~~q) (uni zbj (cL f):Int) 11=0):zbN p f=zas (kmP p) f:=by
 have hlt:uni zbj (cL f) < 2 ^ 63:=Nat.lt_of_lt_of_le ((zgV zbj (b:=9)).2 fun n _=>zmB n.hd) (by decide)
 have hsub:=(zhw hlt (b:=11) (by decide)).1 hfr
 have le11 : ∀ i,(11:Nat).testBit i=true→i < 4:=fun i hi=>by
  refine Nat.lt_of_not_le fun h=>?_
  rw [Nat.testBit_lt_two_pow (Nat.lt_of_lt_of_le (show 11 < 2 ^ 4 by decide) (Nat.pow_le_pow_right (by decide) h))] at hi;cases hi
 have hb : ∀ b:Nat,(∀ i,i < 4→(11:Nat).testBit i=true→b.testBit i=true)→b < 2 ^ 63→zaz .i64 (fun p q=>p &&& ~~~q) (uni zbj (cL f):Int) (b:Int)=0:=fun b h hb=>(zhw hlt hb).2 fun i hi=>h i (le11 i (hsub i hi)) (hsub i hi)
 have h59:zaz .i64 (fun p q=>p &&& ~~~q) (uni zbj (cL f):Int) 59=0:=hb 59 (by decide) (by decide)
 have h15:zaz .i64 (fun p q=>p &&& ~~~q) (uni zbj (cL f):Int) 15=0:=hb 15 (by decide) (by decide)
 have hreq:zby (kmP p) f=if zbh f≠0 then zbh f else if zdK f p.cell.length p.val.length=false then 2 else 0:=by
  rw [zby,if_neg (not_not_intro (zig hc)),zgi hc]
  by_cases h:zbh f=0
  ·rw [if_neg (not_not_intro h),if_neg (not_not_intro h),if_neg (not_not_intro h15)];rfl
  ·rw [if_pos h,if_pos h]
 rw [zbN,if_neg (not_not_intro hc)]
 by_cases h0:zbh f=0
 ·rw [if_neg (not_not_intro h0),if_neg (not_not_intro h59)]
  rw [if_neg (not_not_intro h0)] at hreq
  cases hfit:zdK f p.cell.length p.val.length with
  | false =>
   rw [hfit,if_pos rfl] at hreq
   rw [if_pos rfl,zf7 (by omega),hreq]
  | true =>
   rw [hfit,if_neg (by decide)] at hreq
   obtain ⟨h2,-⟩:=znR hreq
   obtain ⟨t1,t2⟩:=ztb hreq
   have t3:(zhu f).all fun h=>h.op≠12:=by
    refine ((zeX h0).1.all _).1 fun n hn e=>?_
    have h3:(uni zbj (cL f)).testBit 2=true:=by
     rw [zle]
     refine List.any_eq_true.2 ⟨n,hn,?_⟩
     rw [zbj,e];decide
    exact absurd (hsub 2 h3) (by decide)
   obtain ⟨p1,p2,p3⟩:=zdI.1 h0
   rw [if_neg (by decide),zvK (zv9 p) (zeX h0).1,show zat f (f.length - 1)=zhu f from rfl,znF hc _ t1 t2 t3]
   unfold zas zhu
   rw [if_neg (by omega),zlb (zsm (kmP p)) p3 f [] (by simp) (by simp) (fun i hi=>by simp at hi) (f.length - 1) (by omega)]
 ·rw [if_pos h0]
  rw [if_pos h0] at hreq
  rw [zf7 (by omega),hreq]
theorem zsq {s:BitVec 64} (hs : ∀ v,s.getLsbD v=true→v < p.W.toNat):wsL s p.W.toNat=(zZ s).map fun i:Nat=>(i:Int):=by
 have w2:=(zB hc).w2
 unfold wsL zZ
 congr 1
 have : ∀ k,p.W.toNat≤k→(List.range k).filter (fun i=>s.getLsbD i)=(List.range p.W.toNat).filter fun i=>s.getLsbD i:=fun k hk=>by
  induction k with
  | zero=>rw [show p.W.toNat=0 by omega]
  | succ k ih =>
   by_cases e:p.W.toNat=k+1
   ·rw [e]
   ·rw [List.range_succ,List.filter_append,ih (by omega),List.filter_cons,if_neg (fun h=>by have:=hs k h;omega),List.filter_nil,List.append_nil]
 exact (this 64 (by omega)).symm
omit hc in
theorem zlJ {l l':List (BitVec 64)} {w w':Nat} : ∀ k,(∀ i,i < k→((l.getD i 0#64).getLsbD w=true↔(l'.getD i 0#64).getLsbD w'=true))→zbD l w k=zbD l' w' k
 | 0,_=>rfl
 | k+1,h=>by
  rw [zbD,zbD,zlJ k fun i hi=>h i (by omega)]
  have:=h k (by omega)
  by_cases h1:(l.getD k 0#64).getLsbD w=true
  ·rw [if_pos h1,if_pos (this.1 h1)]
  ·rw [if_neg h1,if_neg (fun h2=>h1 (this.2 h2))]
theorem zwV {s:BitVec 64} (h0 : ¬s=0#64) (hs : ∀ v,s.getLsbD v=true→v < p.W.toNat):zy (zah p (wsL s p.W.toNat))=0∧kmP (zah p (wsL s p.W.toNat))=zdf (kmP p) (zZ s):=by
 have g:=zB hc
 have w1:=g.w1
 have w2:=g.w2
 have hin:s &&& ~~~(zM p.W)=0:=zrN (m:=kmP p) (zig hc) hs
 obtain ⟨⟨l1,l2⟩,hk,-⟩:=zyq g hin h0 rfl
 refine ⟨hk,?_⟩
 have hws:=zsq hc hs
 have hlen:(wsL s p.W.toNat).length=(zZ s).length:=by rw [hws,List.length_map]
 have hat : ∀ i,i < (zZ s).length→(at0 (wsL s p.W.toNat) i).toNat=(zZ s).getD i 0:=fun i hi=>by
  rw [hws]
  simp [at0,List.getD,hi]
 have hmem : ∀ i,i < (zZ s).length→(zZ s).getD i 0 < p.W.toNat:=fun i hi=>by
  refine hs _ (zn8.1 ?_)
  rw [List.getD,List.getElem?_eq_getElem hi];exact List.getElem_mem _
 generalize wsL s p.W.toNat=ws at *
 generalize zZ s=bs at *
 have ga:=zja hk
 have gb:=zwr (zja hc) (l:=bs) (by omega) (by omega)
 have hW:(kmP (zah p ws)).W=(zdf (kmP p) bs).W:=by show (ws.length:Int)=(bs.length:Int);omega
 have hWn:(kmP (zah p ws)).W.toNat=bs.length:=by rw [hW];show ((bs.length:Nat):Int).toNat=_;omega
 refine zze ga gb hW (by simp [kmP,zah,zdf]) (by simp [kmP,zah,zdf]) (fun w hw=>?_) fun i r r' e1 e2 v u hv hu=>?_
 ·rw [hWn] at hw
  rw [zxU (by omega) hw]
  unfold zoU zuk
  rw [show (kmP (zah p ws)).val.length=(kmP p).val.length by simp [kmP,zah]]
  congr 1
  refine zlJ _ fun i hi=>?_
  have hi:i < p.val.length:=hi
  have e1:(kmP (zah p ws)).val.getD i 0#64=zcm (p.val.getD i 0#64) ws ws.length:=by simp [kmP,zah,List.getD,hi]
  rw [e1,zkE,hat w hw,decide_eq_true (show w < 64 by omega),decide_eq_true (show w < ws.length by omega),Bool.true_and,Bool.true_and]
  exact Iff.rfl
 ·rw [hWn] at hv hu
  have hil:i < p.cell.length:=by
   have:=(List.getElem?_eq_some_iff.1 e1).1
   rw [zmY,zgi hk] at this
   simpa [zah] using this
  have h1:r v u=true↔InC (zah p ws) i v u:=by
   have hvW:v < (zah p ws).W.toNat:=by show v < ((ws.length:Nat):Int).toNat;omega
   have:=zgj hk (a:=i) (w:=v) (u:=u) hvW
   rw [show zcR (zaj (kmP (zah p ws))) i v u↔r v u=true from ⟨fun ⟨r2,a,b⟩=>by rw [e1] at a;cases a;exact b,fun h=>⟨r,e1,h⟩⟩] at this
   rw [this]
   exact ⟨fun h=>h.2,fun h=>⟨by simpa [zah] using hil,h⟩⟩
  obtain ⟨s0,hs0⟩ : ∃ s0,(zaj (kmP p))[i]? = some s0:=⟨_,List.getElem?_eq_getElem (by rw [zmY,zgi hc];exact hil)⟩
  have h3':(zqM bs (zaj (kmP p)))[i]? = some fun a b=>s0 (bs.getD a 0) (bs.getD b 0):=by unfold zqM;rw [List.getElem?_map,hs0];rfl
  rw [Bool.eq_iff_iff,h1,zxW (by omega) e2 h3' hv hu]
  have h2:=zgj hc (a:=i) (w:=bs.getD v 0) (u:=bs.getD u 0) (hmem v hv)
  rw [show zcR (zaj (kmP p)) i (bs.getD v 0) (bs.getD u 0)↔s0 (bs.getD v 0) (bs.getD u 0)=true from ⟨fun ⟨r2,a,b⟩=>by rw [hs0] at a;cases a;exact b,fun h=>⟨s0,hs0,h⟩⟩] at h2
  rw [h2]
  have hrow:za (zah p ws).cell i=zad p ws i:=zaV (by simp [zah,hil])
  unfold InC
  rw [hrow]
  show (u < ((ws.length:Nat):Int).toNat∧at0 (zad p ws i) u=at0 (zad p ws i) v)↔_
  rw [zec (by omega) (by omega)]
  unfold cAt
  rw [hat u hu,hat v hv]
  exact ⟨fun h=>⟨hil,hmem u hu,h.2⟩,fun h=>⟨by omega,h.2.2⟩⟩
end
end Go.Ab
namespace Go.Ab
open Go Go.Proofs Go.MapKept
theorem Sim.grown {B : zq} {ρ : Nat → V} {M : Nat → Option Ob} {F : Nat → Prop} {σ : Nat → Option Nat} {a : Act} {w w' : World} (h : Sim B ρ M F σ a w) (hg : w.grownBy w' none) : Sim B ρ M F σ a w' := by
  refine h.step ⟨fun id ob hid => .inr ⟨rfl, ob, hid, zbz.refl ob⟩, fun id h1 h2 => ⟨h1, h2⟩, hg.size, fun b _ hb => hg.block b hb (by simp), fun b _ hx => hx, fun id b c e _ _ hc => ⟨c, (hg.block b (zi hc) (by simp)).trans hc, rfl⟩⟩
    (fun id ob hid => .inl ⟨hid, rfl, fun b hb => ?_⟩) h.inj h.mine h.free ?_ (fun b hb => hg.block b (h.olt b hb) (by simp)) (fun _ _ h => h)
  · obtain ⟨o, ho⟩ := (h.mem id ob hid).block hb
    exact hg.block b (zi ho) (by simp)
  · refine ⟨hg.os.trans h.kept.os, hg.tape.trans h.kept.tape, hg.output.trans h.kept.output, Nat.le_trans h.kept.size hg.size, fun b hb hR => (hg.block b (Nat.lt_of_lt_of_le hb h.kept.size) (by simp)).trans (h.kept.block b hb hR), fun b c e hc => ?_⟩
    obtain ⟨c', h1, h2⟩ := h.kept.cells b c e hc
    exact ⟨c', (hg.block b (zi h1) (by simp)).trans h1, h2⟩
theorem zvz {w w' : World} {X : Nat → Prop} {cell rank : List Int} {es : Array MapEntry} {clock : Nat} {blk : Nat → Nat} (hX : ∀ b, w.heap.size ≤ b → ¬X b)
    (hG : Grp (O2 (w.heap.size + 1)) w' w.heap.size ((zJ cell rank cell.length).map fun p => (p.1, zeh p.2)) es clock blk) : zh X w' (.map (zd7 cell rank)) (.map (some w.heap.size)) := by
  have hgl : ((zJ cell rank cell.length).map fun p => (p.1, zeh p.2)).length = (zx cell).length := by simp [zJ]
  have hgd : ∀ i, i < (zx cell).length → ((zJ cell rank cell.length).map fun p => (p.1, zeh p.2)).getD i default = ((zx cell).getD i 0, zW cell rank ((zx cell).getD i 0)) := by
    intro i hi
    simp only [zJ, List.take_length, List.map_map, List.getD, List.getElem?_map, List.getElem?_eq_getElem hi, Option.map_some, Option.getD_some, Function.comp, zta]
    rfl
  refine .map _ _ es clock (hX _ (Nat.le_refl _)) (zi hG.heap) hG.heap (by rw [hG.size, hgl]; simp) hG.st (fun i hi => ?_) (fun i hi => ?_)
  · rw [List.length_map] at hi
    rw [hG.key i (by rw [hgl]; exact hi), hgd i hi, show ((zx cell).map fun c => (D.int .i64 c, dI (zW cell rank c))).getD i (.nil, .nil) = (D.int .i64 ((zx cell).getD i 0), dI (zW cell rank ((zx cell).getD i 0))) by simp [List.getD, hi]]
    exact .int .i64 _ (by simp)
  · rw [List.length_map] at hi
    have hv := hG.val i (by rw [hgl]; exact hi)
    rw [hgd i hi] at hv
    rw [show ((zx cell).map fun c => (D.int .i64 c, dI (zW cell rank c))).getD i (.nil, .nil) = (D.int .i64 ((zx cell).getD i 0), dI (zW cell rank ((zx cell).getD i 0))) by simp [List.getD, hi]]
    simp only
    generalize zW cell rank ((zx cell).getD i 0) = zs at hv
    replace hv : O2 (w.heap.size + 1) w' (es.getD i default).val (blk i) zs := hv
    obtain ⟨cap, c, e, q1, q2, q3, q4, q5, q6, q7⟩ := hv
    rw [q1]
    have hl : (zs.map (D.int .i64)).length = zs.length := List.length_map _
    rw [← hl]
    refine .arr 1 (zs.map (D.int .i64)) (blk i) 0 cap (fun j => c.getD j undef) (hX _ (by omega)) (zi q3) (fun x hx => ?_) (by omega) (by omega) (fun j hj => ?_) (fun j k hj hk => ?_)
    · obtain ⟨y, -, rfl⟩ := List.mem_map.1 hx; rfl
    · have hjc : j < c.size := by omega
      simp [World.cell?, q3, Array.getD_eq_getD_getElem?, hjc]
    · have : k = 0 := by omega
      subst this
      rw [hl] at hj
      rw [Nat.mul_one, Nat.add_zero]
      rw [q7 j hj, show (zs.map (D.int .i64)).getD j .nil = .int .i64 (zs.getD j 0) by simp [List.getD, hj]]
      exact .int .i64 _ (by simp)
end Go.Ab
namespace Go.Ab
open Go Go.Proofs Go.MapKept
variable {T : Nat → Obj → Prop}
theorem zvA {cell rank : List Int} (hle : cell.length ≤ rank.length) (h64 : rank.length ≤ 64) : Fn Tryz.prog T zc8 [.own 0, .own 1] [zay cell, zay rank] (.d (.map (zd7 cell rank))) [some (zay cell), some (zay rank)] := by
  refine zhz ⟨_, Tryz.func37, by decide, rfl⟩ fun B σ a w args hT hS hsz hargs => ?_
  have ha : args = #[args.getD 0 undef, args.getD 1 undef] := by
    apply Array.ext
    · simpa using hsz
    · intro i h1 h2
      match i, h2 with
      | 0, _ => simp [Array.getD, show 0 < args.size by omega]
      | 1, _ => simp [Array.getD, show 1 < args.size by omega]
  have h0 := hargs 0 (by simp)
  have h1 := hargs 1 (by simp)
  have fin : ∀ (e : Ending) (w' : World) (es : Array MapEntry) (clock : Nat) (blk : Nat → Nat), e = .returned (.map (some w.heap.size)) → w.grownBy w' none → Grp (O2 (w.heap.size + 1)) w' w.heap.size ((zJ cell rank cell.length).map fun p => (p.1, zeh p.2)) es clock blk →
      ∃ v' σ', e = .returned v' ∧ Sim B (fun _ => .undef) (zo [some (zay cell), some (zay rank)]) (fun i => 2 ≤ i) σ' a w' ∧ VSim σ' (zo [some (zay cell), some (zay rank)]) (fun i => 2 ≤ i) (B.X σ' (zo [some (zay cell), some (zay rank)])) w' (.d (.map (zd7 cell rank))) v' ∧
        ∀ i ob, [zay cell, zay rank][i]? = some ob → zo [some (zay cell), some (zay rank)] i = none ∨ (σ' i = σ i ∧ ∃ ob', zo [some (zay cell), some (zay rank)] i = some ob' ∧ zbz ob ob') := by
    intro e w' es clock blk he hg hG
    refine ⟨_, σ, he, hS.grown hg, .d _ _ (zvz (fun b hb => ?_) hG), fun i ob hi => .inr ⟨rfl, ob, ?_, zbz.refl ob⟩⟩
    · rintro (h | ⟨id, h, h2⟩)
      · have := hS.olt b h; omega
      · obtain ⟨ob, hob⟩ := Option.ne_none_iff_exists'.1 h
        obtain ⟨o, ho⟩ := (hS.mem id ob hob).block h2
        have := zi ho; omega
    · match i, hi with
      | 0, hi => simpa [zo] using hi
      | 1, hi => simpa [zo] using hi
  rw [ha]
  have m0 : zo ([zay cell, zay rank].map some) 0 = some (zay cell) := rfl
  have m1 : zo ([zay cell, zay rank].map some) 1 = some (zay rank) := rfl
  change VSim _ _ _ _ _ (.own 0) _ at h0
  change VSim _ _ _ _ _ (.own 1) _ at h1
  generalize args.getD 0 undef = va at h0
  generalize args.getD 1 undef = vb at h1
  have rd : ∀ {g : Nat} {v : Value} {xs : List Int}, O2 0 w v g xs → ∃ cap, v = .slice (some ⟨g, 0, none⟩) xs.length cap ∧ g < w.heap.size ∧ ∀ j, j < xs.length → w.cell? ⟨g, 0 + j, none⟩ = some (.int .i64 (at0 xs j)) := by
    rintro g v xs ⟨cap, c, e, q1, -, q3, q4, q5, -, q7⟩
    refine ⟨cap, q1, zi q3, fun j hj => ?_⟩
    have hjc : j < c.size := by omega
    have := q7 j hj
    rw [Array.getD_eq_getD_getElem?, Array.getElem?_eq_getElem hjc] at this
    simp only [Option.getD_some] at this
    simp [World.cell?, q3, hjc, this, at0]
  by_cases hc : cell = []
  · subst hc
    have hv : ∃ a' cap, va = .slice a' 0 cap := by
      cases h0 with
      | ownDead _ ad l c g1 => rw [m0] at g1; cases g1
      | ownNil => exact ⟨none, 0, rfl⟩
      | own _ s xs b cap c e g1 g2 g3 g4 g5 =>
        rw [m0] at g1
        simp only [zay, Option.some.injEq, Ob.row.injEq] at g1
        obtain ⟨-, rfl⟩ := g1
        exact ⟨_, cap, rfl⟩
    obtain ⟨a', cap, rfl⟩ := hv
    refine (zoe a' cap vb w).mono ?_
    rintro e w' ⟨he, hg, hh⟩
    exact fin e w' #[] 0 (fun _ => 0) he hg ⟨hh, ⟨fun i j hi => by simp at hi, fun i hi => by simp at hi⟩, rfl, fun i hi => by simp [zJ, zx] at hi, fun i hi => by simp [zJ, zx] at hi, fun i j hi => by simp [zJ, zx] at hi⟩
  · have hpos : 0 < cell.length := List.length_pos_iff.2 hc
    obtain ⟨g1, -, o1⟩ := zph h0 (hS.mem 0 _ m0) m0 (by omega) hc
    obtain ⟨g2, -, o2⟩ := zph h1 (hS.mem 1 _ m1) m1 (by omega) (fun e => by rw [e] at hle; simp at hle; exact hc hle)
    obtain ⟨cap1, rfl, l1, c1⟩ := rd o1
    obtain ⟨cap2, rfl, l2, c2⟩ := rd o2
    refine (zof (T := T) g1 0 cap1 g2 0 cap2 rank.length cell rank w hpos hle (by omega) (fun b o ht => hS.pins b o (hT b o ht)) l1 l2 c1 (fun j hj => c2 j (by omega))).mono ?_
    rintro e w' ⟨he, hg, es, clock, blk, hG⟩
    exact fin e w' es clock blk he hg hG
end Go.Ab
namespace Go.Ab
open Go Go.Proofs
set_option maxRecDepth 10000
set_option maxHeartbeats 4000000
variable {T:Nat→Obj→Prop}
noncomputable def zow (m:KM) (f:List Nd):KM×List Int×Int:=if (zas m f).2≠0 then (zwd,[],(zas m f).2) else if (zas m f).1=0#64 then (zwd,[],11) else (zdf m (zZ (zas m f).1),(zZ (zas m f).1).map fun i:Nat=>(i:Int),0)
theorem zpP {m:KM} {f:List Nd} (h:(zas m f).2=0):zV m=0 ∧ ∀ v,(zas m f).1.getLsbD v=true→v < m.W.toNat:=by
 have hr:zby m f=0:=Classical.byContradiction fun hn=>hn (by rw [zf7 hn] at h;exact h)
 exact ⟨(zix hr).1,fun v hv=>(((znR hr).2 v).1 hv).1⟩
theorem zzE (l:List Nat):dN l=dI (l.map fun i:Nat=>(i:Int)):=by simp [dN,dI]
theorem zy8 (hT:zma T) (m:KM) (f:List Nd):Fn Tryz.prog T zfO [.d (dKM m),.d (dF f)] [] (.d (zzU (zow m f))) []:=by
 have ch:=zu0 (T:=T) m f
 refine zd zt zls (by show 2≤28;decide) ?_
 unfold zow
 by_cases he:(zas m f).2=0
 ·rw [if_neg (not_not_intro he)]
  obtain ⟨hk0,hin⟩:=zpP he
  rw [he] at ch
  by_cases h0:(zas m f).1=0#64
  ·rw [if_pos h0]
   rw [h0] at ch
   (repeat' ((conv=>whnf);first|refine vA ?_|refine vG ?_|refine vH ?_|refine vT ?_|refine yN ch ⟨⟨rfl,rfl⟩,⟨rfl,rfl⟩,rfl⟩ ?_));all_goals try conv=>whnf
   all_goals rfl
  ·rw [if_neg h0]
   have cr:=zrD (T:=T) hT hk0 h0 hin
   generalize (zas m f).1=s at *
   (repeat' ((conv=>whnf);first|refine vA ?_|refine vH ?_|(refine vF ?_ ?_<;>intro hc)|refine vT ?_|refine yN ch ⟨⟨rfl,rfl⟩,⟨rfl,rfl⟩,rfl⟩ ?_|refine yN cr ⟨⟨rfl,rfl⟩,⟨rfl,rfl⟩,rfl⟩ ?_));all_goals try conv=>whnf
   ·exact absurd ‹s=0› h0
   ·rw [zzE];rfl
 ·rw [if_pos he]
  (repeat' ((conv=>whnf);first|refine vA ?_|((first|refine vD ?_ ?_|refine vF ?_ ?_)<;>intro hc)|refine vT ?_|refine yN ch ⟨⟨rfl,rfl⟩,⟨rfl,rfl⟩,rfl⟩ ?_));all_goals try conv=>whnf
  all_goals first|rfl|exact absurd ‹(zas m f).2=0› he
noncomputable def zhB (p:PM) (f:List Nd):PM×List Int×Int:=if (zbN p f).2≠0 then (⟨0,[],[],[]⟩,[],(zbN p f).2) else if (zbN p f).1=0#64 then (⟨0,[],[],[]⟩,[],11) else zhp p (zbN p f).1
theorem zzV (hR:zaK T) (hRO:zqT T) (p:PM) (hp:zaM p.rank) (f:List Nd):Fn Tryz.prog T zh4 [.d (dPM p),.d (dF f)] [] (.d (zyR (zhB p f))) []:=by
 refine zd zt zpa (by show 2≤28;decide) ?_
 (repeat' ((conv=>whnf);first|refine vA ?_|((first|refine vD ?_ ?_|refine vF ?_ ?_)<;>intro hc)|refine vT ?_|refine yN (zwG hR p hp f) ⟨⟨rfl,rfl⟩,⟨rfl,rfl⟩,rfl⟩ ?_|refine yN (zsH hR hRO p hp _) ⟨⟨rfl,rfl⟩,⟨rfl,rfl⟩,rfl⟩ ?_));all_goals try conv=>whnf
 ·rw [zhB,if_pos ‹_›];rfl
 ·rw [zhB,if_neg (by omega),if_pos ‹_›];rfl
 ·rw [zhB,if_neg (by omega),if_neg ‹_›];rfl
theorem zzZ {p:PM} (hc:zy p=0) {f:List Nd} (hfr:zaz .i64 (fun p q=>p &&& ~~~q) (uni zbj (cL f):Int) 11=0):(zhB p f).2.2=(zow (kmP p) f).2.2∧((zhB p f).2.2=0→zy (zhB p f).1=0∧kmP (zhB p f).1=(zow (kmP p) f).1∧(zhB p f).2.1=(zow (kmP p) f).2.1):=by
 have e:=zvf hc hfr
 unfold zhB zow
 rw [e]
 by_cases h1:(zas (kmP p) f).2=0
 ·rw [if_neg (not_not_intro h1),if_neg (not_not_intro h1)]
  by_cases h2:(zas (kmP p) f).1=0#64
  ·rw [if_pos h2,if_pos h2]
   exact ⟨rfl,fun h=>by cases h⟩
  ·rw [if_neg h2,if_neg h2]
   obtain ⟨hk,hin⟩:=zpP h1
   generalize (zas (kmP p) f).1=s at *
   have hs:s &&& ~~~(zM p.W)=0:=zrN hk hin
   obtain ⟨a1,a2⟩:=zwV hc h2 hin
   rw [zhp,if_neg (not_not_intro hc),if_neg (not_not_intro hs),if_neg (show ¬s=0 from h2)]
   exact ⟨rfl,fun _=>⟨a1,a2,zsq hc hin⟩⟩
 ·rw [if_pos h1,if_pos h1]
  exact ⟨rfl,fun h=>absurd h h1⟩
end Go.Ab
namespace Go.Ab
open Go Go.Proofs
set_option maxRecDepth 10000
set_option maxHeartbeats 4000000
variable {T:Nat→Obj→Prop}
def zrS:Fs:=fun f vs obs =>
 cond (Nat.beq f zc8) (match vs,obs with
  | [.d (.arr 1 a),.d (.arr 1 b)],[]=>match zi7 a,zi7 b with
   | some a,some b=>cond (Nat.ble a.length b.length&&Nat.ble a.length 64) (some (.d (.map (zd7 a b)),[])) none
   | _,_=>none
  | [.own 0,.own 1],[.row 1 a,.row 1 b]=>match zi7 a,zi7 b with
   | some a,some b=>cond (Nat.ble a.length b.length&&Nat.ble b.length 64) (some (.d (.map (zd7 a b)),[some (.row 1 (a.map (D.int .i64))),some (.row 1 (b.map (D.int .i64)))])) none
   | _,_=>none
  | _,_=>none)
 (cond (Nat.beq f zaH) (match vs,obs with
  | [.d (.u64 w)],[]=>some (.d (.int .i64 (Lib.ctz 64 w.toNat)),[])
  | _,_=>none)
 (cond (Nat.beq f zdl) (match vs,obs with
  | [.d (.u64 w)],[]=>some (.d (.int .i64 (Sort.bitsLen w.toNat:Int)),[])
  | _,_=>none) none))
noncomputable def zyQ:Cfg:=⟨zm Tryz.prog,zrS,fun _ _ _=>none,fun _=>false,fun f=>Nat.beq f zcO,150⟩
theorem zvl (hT:zma T):ztC Tryz.prog T zrS:=by
 intro f vs obs v obs' h
 unfold zrS at h
 cases h1:Nat.beq f zc8 with
 | true =>
  rw [h1,cond_true] at h
  rw [Nat.eq_of_beq_eq_true h1]
  split at h
  ·split at h
   ·rename_i a b ha hb
    rw [zgO ha,zgO hb]
    cases hc:Nat.ble a.length b.length&&Nat.ble a.length 64 with
    | true =>
     rw [hc] at h
     rw [Bool.and_eq_true,Nat.ble_eq,Nat.ble_eq] at hc
     cases h
     exact zxf _ _ hc.1 hc.2
    | false=>rw [hc] at h;cases h
   ·cases h
  ·split at h
   ·rename_i a b ha hb
    rw [zgO ha,zgO hb]
    cases hc:Nat.ble a.length b.length&&Nat.ble b.length 64 with
    | true =>
     rw [hc] at h
     rw [Bool.and_eq_true,Nat.ble_eq,Nat.ble_eq] at hc
     cases h
     exact zvA hc.1 hc.2
    | false=>rw [hc] at h;cases h
   ·cases h
  ·cases h
 | false =>
  rw [h1,cond_false] at h
  cases h2:Nat.beq f zaH with
  | true =>
   rw [h2,cond_true] at h
   rw [Nat.eq_of_beq_eq_true h2]
   split at h
   ·cases h;exact hT _
   ·cases h
  | false =>
   rw [h2,cond_false] at h
   cases h4:Nat.beq f zdl with
   | true =>
    rw [h4,cond_true] at h
    rw [Nat.eq_of_beq_eq_true h4]
    split at h
    ·cases h;exact zy6 _
    ·cases h
   | false=>rw [h4] at h;cases h
theorem zx0 (hT:zma T):ztB Tryz.prog T zyQ:=⟨fun f c h=>h,zvl hT,fun g vs obs xs h=>by cases h⟩
set_option maxRecDepth 1000000 in
theorem zsf:evF zyQ 60 zcO [] []=some (.d (.bool true),[]):=by kernel_rfl
theorem zzt (hT:zma T):Fn Tryz.prog T zcO [] [] (.d (.bool true)) []:=zpy zt (zx0 hT) 60 _ _ _ _ _ zsf
end Go.Ab
