/- A part of the proofs of this seat: functions and their contracts. -/
import Derived.Test.YtffknaghkomefaaGreatMF
set_option linter.unusedVariables false
set_option linter.unusedSimpArgs false
set_option linter.unusedSectionVars false
namespace Go.Ab
open Go Go.Proofs
set_option linter.unusedVariables false
set_option linter.unusedSimpArgs false
theorem least_ex {K:Nat→Prop} {R:Nat→Int} (h0 : ∀ i,K i→0≤R i) : ∀ (n:Nat) (i:Nat),K i→(R i).toNat≤n → ∃ j,K j ∧ ∀ u,K u→R j≤R u:=by
 intro n
 induction n with
 | zero=>intro i hi hn;exact ⟨i,hi,fun u hu=>by have:=h0 i hi;have:=h0 u hu;omega⟩
 | succ n ih =>
  intro i hi hn
  by_cases h : ∃ u,K u∧R u < R i
  ·obtain ⟨u,h1,h2⟩:=h
   exact ih u h1 (by have:=h0 u h1;have:=h0 i hi;omega)
  ·exact ⟨i,hi,fun u hu=>by
    apply Classical.byContradiction
    intro hn
    exact h ⟨u,hu,by omega⟩⟩
section
variable {p:PM} {a w:Int} (hat:At p a w)
include hat
theorem cellL_bit {i:Nat} : (cellL p a w).getLsbD i=true↔i < p.W.toNat∧at0 (rowAt p.cell a.toNat) i=at0 (rowAt p.cell a.toNat) w.toNat:=by
 obtain ⟨-,-,h1,-,h3,-⟩:=hat.rows
 rw [cellL,if_pos hat,cellSet,setTo_bit]
 simp only [Bool.and_eq_true,decide_eq_true_eq,beq_iff_eq]
 constructor
 ·rintro ⟨⟨-,h4⟩,h5⟩;exact ⟨by omega,h5⟩
 ·rintro ⟨h4,h5⟩;exact ⟨⟨by omega,by omega⟩,h5⟩
theorem bestL_bit {s:BitVec 64} {i:Nat} : (bestL p a w s).getLsbD i=true↔(s.getLsbD i=true∧(cellL p a w).getLsbD i=true) ∧ ∀ u,s.getLsbD u=true→(cellL p a w).getLsbD u=true→at0 (rowAt p.rank a.toNat) i≤at0 (rowAt p.rank a.toNat) u:=by
 obtain ⟨-,-,h1,h2,h3,-⟩:=hat.rows
 have hc : ∀ i,(cellSet (rowAt p.cell a.toNat) w.toNat).getLsbD i=(cellL p a w).getLsbD i:=fun i=>by rw [cellL,if_pos hat]
 rw [bestL,if_pos hat,bestSet,best_bit]
 simp only [BitVec.getLsbD_and,Bool.and_eq_true,hc]
 constructor
 ·rintro ⟨h4,h5,h6⟩
  exact ⟨h5,fun u hu hu'=>h6 u (by have:=(cellL_bit hat).1 hu';omega) ⟨hu,hu'⟩⟩
 ·rintro ⟨h4,h5⟩
  exact ⟨by have:=(cellL_bit hat).1 h4.2;omega,h4,fun u _ hu=>h5 u hu.1 hu.2⟩
theorem rank_nonneg {i:Nat} (h:(cellL p a w).getLsbD i=true):0≤at0 (rowAt p.rank a.toNat) i:=by
 obtain ⟨-,-,h1,h2,h3,-⟩:=hat.rows
 have hg:=checkL_good hat.ok
 have h4:=(cellL_bit hat).1 h
 have ha:=hat.a0
 have ha':=hat.a1
 exact ((hg.ranked a.toNat (by omega)) i (by omega)).1
theorem within1 (s:BitVec 64):bestL p a w s &&& ~~~(cellL p a w&&&s)=0#64:=by
 rw [zero_iff]
 intro i
 rw [BitVec.getLsbD_and]
 cases hb:(bestL p a w s).getLsbD i with
 | false=>simp
 | true =>
  obtain ⟨⟨h1,h2⟩,-⟩:=(bestL_bit hat).1 hb
  simp [h1,h2]
theorem within2 (s:BitVec 64):bestL p a w s=0#64↔cellL p a w&&&s=0#64:=by
 constructor
 ·intro h
  apply Classical.byContradiction
  intro hn
  rw [zero_iff] at hn
  have : ∃ i,(cellL p a w&&&s).getLsbD i=true:=by
   apply Classical.byContradiction
   intro h'
   apply hn
   intro i
   cases hb:(cellL p a w&&&s).getLsbD i with
   | false=>rfl
   | true=>exact absurd ⟨i,hb⟩ h'
  obtain ⟨i,hi⟩:=this
  rw [BitVec.getLsbD_and,Bool.and_eq_true] at hi
  obtain ⟨j,h1,h2⟩:=least_ex (K:=fun i=>s.getLsbD i=true∧(cellL p a w).getLsbD i=true) (R:=fun i=>at0 (rowAt p.rank a.toNat) i) (fun i hi=>rank_nonneg hat hi.2) _ i ⟨hi.2,hi.1⟩ (Nat.le_refl _)
  have:=(bestL_bit hat).2 ⟨h1,fun u hu hu'=>h2 u ⟨hu,hu'⟩⟩
  rw [h] at this
  simp at this
 ·intro h
  rw [zero_iff] at h ⊢
  intro i
  cases hb:(bestL p a w s).getLsbD i with
  | false=>rfl
  | true =>
   obtain ⟨⟨h1,h2⟩,-⟩:=(bestL_bit hat).1 hb
   have:=h i
   rw [BitVec.getLsbD_and,h1,h2] at this
   cases this
theorem within3:(cellL p a w).getLsbD w.toNat=true:=by
 have h0:=hat.w0
 have h1:=hat.w1
 exact (cellL_bit hat).2 ⟨by omega,rfl⟩
theorem within4 {s t:BitVec 64} (h:bestL p a w s&&&t≠0#64):bestL p a w (s&&&t)=bestL p a w s&&&t:=by
 have : ∃ i,(bestL p a w s&&&t).getLsbD i=true:=by
  apply Classical.byContradiction
  intro h'
  apply h
  rw [zero_iff]
  intro i
  cases hb:(bestL p a w s&&&t).getLsbD i with
  | false=>rfl
  | true=>exact absurd ⟨i,hb⟩ h'
 obtain ⟨i,hi⟩:=this
 rw [BitVec.getLsbD_and,Bool.and_eq_true,bestL_bit hat] at hi
 refine bits_ext fun j hj=>?_
 rw [BitVec.getLsbD_and,Bool.and_eq_true,bestL_bit hat,bestL_bit hat]
 simp only [BitVec.getLsbD_and,Bool.and_eq_true]
 obtain ⟨⟨⟨h1,h2⟩,h3⟩,h4⟩:=hi
 constructor
 ·rintro ⟨⟨⟨a1,a2⟩,a3⟩,a4⟩
  refine ⟨⟨⟨a1,a3⟩,fun u hu hu'=>?_⟩,a2⟩
  have:=a4 i ⟨h1,h4⟩ h2
  have:=h3 u hu hu'
  omega
 ·rintro ⟨⟨⟨a1,a3⟩,a4⟩,a2⟩
  exact ⟨⟨⟨a1,a2⟩,a3⟩,fun u hu hu'=>a4 u hu.1 hu'⟩
end
end Go.Ab
namespace Go.Ab
set_option linter.unusedVariables false
set_option linter.unusedSimpArgs false
structure Nd where
 op:Int
 i:Int
 e:Int
 g:Int
 x:Int
 y:Int
 deriving DecidableEq,Inhabited
structure Hd where
 op:Int
 i:Int
 e:Int
 g:Int
 deriving DecidableEq,Inhabited
def Nd.hd (n:Nd):Hd:=⟨n.op,n.i,n.e,n.g⟩
def isOp (op:Int):Bool:=decide (1≤op∧op≤21)
def useX (op:Int):Bool:=decide (4≤op∧op≤21)
def useY (op:Int):Bool:=decide (5≤op∧op≤8∨op=13∨op=14∨op=16∨op=19∨op=21)
def useFact (op:Int):Bool:=decide (op=3)
def useAgent (op:Int):Bool:=decide (op=9∨op=10∨op=14∨op=15)
def useEvent (op:Int):Bool:=decide (op=17)
def useGroup (op:Int):Bool:=decide (11≤op∧op≤13)
def fragOf (op:Int):Int :=
 if op=9∨op=10 then 1 else if op=11 then 2 else if op=12 then 4 else if op=13 then 8 else if op=14 then 16 else if op=15 then 32 else if op=16 then 64 else if op=17 then 128 else
 if 18≤op∧op≤21 then 256 else 0
theorem useX_of_useY {op:Int} (h:useY op=true):useX op=true:=by
 simp only [useX,useY,decide_eq_true_eq] at h ⊢;omega
def opdOk (used:Bool) (f at_:Int):Bool:=used&&decide (0≤f)&&decide (f < at_) || !used&&decide (f=0)
def outside (used:Bool) (v lo hi:Int):Bool:=used&&(decide (v < lo)||decide (hi < v))
def nErr (n:Nd) (at_:Int):Int :=
 if isOp n.op=false then 10 else
 if opdOk (useX n.op) n.x at_=false∨opdOk (useY n.op) n.y at_=false then 3 else
 if (!(useFact n.op||useAgent n.op||useEvent n.op)&&decide (n.i≠0)||(!useEvent n.op&&decide (n.e≠0))||(!useGroup n.op&&decide (n.g≠0)))=true then 3 else
 if (outside (useFact n.op) n.i 0 7||outside (useAgent n.op) n.i 0 3||outside (useEvent n.op) n.i 0 7||outside (useEvent n.op) n.e 0 7||outside (useGroup n.op) n.g 1 15)=true then 2 else 0
def fErrGo:List Nd→Nat→Int
 | [],_=>0
 | n::r,k=>if nErr n k≠0 then nErr n k else fErrGo r (k+1)
def fErr (f:List Nd):Int:=if f.length=0 then 3 else if 200 < f.length then 8 else fErrGo f 0
def Okay (f:List Nd):Prop := ∀ (k:Nat) n,f[k]? = some n→nErr n k=0
theorem fErrGo_ok : ∀ (f:List Nd) (k:Nat),fErrGo f k=0 ↔ ∀ (j:Nat) n,f[j]? = some n→nErr n (k+j:Nat)=0
 | [],k=>by simp [fErrGo]
 | n::r,k=>by
  unfold fErrGo
  constructor
  ·intro h
   split at h
   ·contradiction
   ·rename_i h0
    intro j m hj
    cases j with
    | zero=>simp at hj;subst hj;simpa using h0
    | succ j =>
     have:=(fErrGo_ok r (k+1)).1 h j m (by simpa using hj)
     rwa [show k+1+j=k+(j+1) by omega] at this
  ·intro h
   have h0:=h 0 n (by simp)
   rw [if_neg (by simpa using h0)]
   refine (fErrGo_ok r (k+1)).2 fun j m hj=>?_
   have:=h (j+1) m (by simpa using hj)
   rwa [show k+(j+1)=k+1+j by omega] at this
theorem fErr_ok {f:List Nd} : fErr f=0↔0 < f.length∧f.length≤200∧Okay f:=by
 unfold fErr Okay
 have:=fErrGo_ok f 0
 simp only [Nat.zero_add] at this
 by_cases h1:f.length=0
 ·rw [if_pos h1];omega
 ·rw [if_neg h1]
  by_cases h2:200 < f.length
  ·rw [if_pos h2];omega
  ·rw [if_neg h2,this]
   exact ⟨fun h=>⟨by omega,by omega,h⟩,fun h=>h.2.2⟩
theorem nErr_ok {n:Nd} {a:Int} (h:nErr n a=0):isOp n.op=true∧(useX n.op=true→0≤n.x∧n.x < a)∧(useX n.op=false→n.x=0)∧(useY n.op=true→0≤n.y∧n.y < a)∧(useY n.op=false→n.y=0) ∧
  (useFact n.op=true→0≤n.i∧n.i≤7)∧(useAgent n.op=true→0≤n.i∧n.i≤3)∧(useEvent n.op=true→0≤n.i∧n.i≤7∧0≤n.e∧n.e≤7)∧(useGroup n.op=true→1≤n.g∧n.g≤15) ∧
  (useFact n.op=false→useAgent n.op=false→useEvent n.op=false→n.i=0)∧(useEvent n.op=false→n.e=0)∧(useGroup n.op=false→n.g=0):=by
 unfold nErr at h
 split at h
 ·cases h
 ·rename_i h1
  split at h
  ·cases h
  ·rename_i h2
   split at h
   ·cases h
   ·rename_i h3
    split at h
    ·cases h
    ·rename_i h4
     generalize useX n.op=a1 at *
     generalize useY n.op=a2 at *
     generalize useFact n.op=a3 at *
     generalize useAgent n.op=a4 at *
     generalize useEvent n.op=a5 at *
     generalize useGroup n.op=a6 at *
     refine ⟨by simpa using h1,?_⟩
     simp only [opdOk,outside] at h2 h3 h4
     cases a1<;>cases a2<;>cases a3<;>cases a4<;>cases a5<;>cases a6<;>simp at h2 h3 h4 ⊢ <;> omega
theorem nErr_of {n:Nd} {a:Int} (h:isOp n.op=true∧(useX n.op=true→0≤n.x∧n.x < a)∧(useX n.op=false→n.x=0)∧(useY n.op=true→0≤n.y∧n.y < a)∧(useY n.op=false→n.y=0) ∧
  (useFact n.op=true→0≤n.i∧n.i≤7)∧(useAgent n.op=true→0≤n.i∧n.i≤3)∧(useEvent n.op=true→0≤n.i∧n.i≤7∧0≤n.e∧n.e≤7)∧(useGroup n.op=true→1≤n.g∧n.g≤15) ∧
  (useFact n.op=false→useAgent n.op=false→useEvent n.op=false→n.i=0)∧(useEvent n.op=false→n.e=0)∧(useGroup n.op=false→n.g=0)):nErr n a=0:=by
 unfold nErr
 generalize useX n.op=a1 at *
 generalize useY n.op=a2 at *
 generalize useFact n.op=a3 at *
 generalize useAgent n.op=a4 at *
 generalize useEvent n.op=a5 at *
 generalize useGroup n.op=a6 at *
 rw [if_neg (by simp [h.1]),if_neg,if_neg,if_neg]
 all_goals
  try simp only [opdOk,outside]
  cases a1<;>cases a2<;>cases a3<;>cases a4<;>cases a5<;>cases a6<;>simp at h ⊢ <;> omega
structure FSt where
 out:List Nd
 done:List (Nat×Nat)
def put (l:List Nd) (x:Nd):Nat×List Nd:=match l.idxOf? x with
 | some k=>(k,l)
 | none=>(l.length,l++[x])
def fin (f:List Nd):Nat→Nat→FSt→Nat×FSt
 | 0,_,s=>(0,s)
 | k+1,i,s=>match s.done.lookup i with
  | some r=>(r,s)
  | none =>
   let n:=f.getD i default
   let a:=cond (useX n.op) (fin f k n.x.toNat s) (n.x.toNat,s)
   let b:=cond (useY n.op) (fin f k n.y.toNat a.2) (n.y.toNat,a.2)
   let p:=put b.2.out { n with x:=a.1,y:=b.1 }
   (p.1,⟨p.2,b.2.done++[(i,p.1)]⟩)
def compactL (f:List Nd) (root:Nat):List Nd:=(fin f (root+1) root ⟨[],[]⟩).2.out
inductive Tm where
 | z (h:Hd)
 | u (h:Hd) (x:Tm)
 | b (h:Hd) (x y:Tm)
def tm (f:List Nd):Nat→Nat→Tm
 | 0,_ => .z default
 | k+1,i =>
  let n:=f.getD i default
  cond (useY n.op) (.b n.hd (tm f k n.x.toNat) (tm f k n.y.toNat)) (cond (useX n.op) (.u n.hd (tm f k n.x.toNat)) (.z n.hd))
def tmOf (f:List Nd) (i:Nat):Tm:=tm f (i+1) i
theorem okay_at {f:List Nd} (hf:Okay f) {i:Nat} (hi:i < f.length):nErr (f.getD i default) i=0:=hf i _ (by simp [hi])
theorem okay_x {f:List Nd} (hf:Okay f) {i:Nat} (hi:i < f.length) (h:useX (f.getD i default).op=true):0≤(f.getD i default).x∧(f.getD i default).x.toNat < i:=by
 have:=(nErr_ok (okay_at hf hi)).2.1 h;omega
theorem okay_y {f:List Nd} (hf:Okay f) {i:Nat} (hi:i < f.length) (h:useY (f.getD i default).op=true):0≤(f.getD i default).y∧(f.getD i default).y.toNat < i:=by
 have:=(nErr_ok (okay_at hf hi)).2.2.2.1 h;omega
theorem tm_fuel {f:List Nd} (hf:Okay f) : ∀ (k k' i:Nat),i < f.length→i < k→i < k'→tm f k i=tm f k' i
 | 0,_,_,_,h,_=>by omega
 | _+1,0,_,_,_,h=>by omega
 | k+1,k'+1,i,hi,h1,h2=>by
  unfold tm
  simp only
  cases hy:useY (f.getD i default).op with
  | true =>
   have e1:=okay_x hf hi (useX_of_useY hy)
   have e2:=okay_y hf hi hy
   simp only [cond_true]
   rw [tm_fuel hf k k' _ (by omega) (by omega) (by omega),tm_fuel hf k k' (f.getD i default).y.toNat (by omega) (by omega) (by omega)]
  | false =>
   simp only [cond_false]
   cases hx:useX (f.getD i default).op with
   | true =>
    have e1:=okay_x hf hi hx
    simp only [cond_true]
    rw [tm_fuel hf k k' _ (by omega) (by omega) (by omega)]
   | false=>rfl
theorem tmOf_eq {f:List Nd} (hf:Okay f) {i:Nat} (hi:i < f.length):tmOf f i=cond (useY (f.getD i default).op) (.b (f.getD i default).hd (tmOf f (f.getD i default).x.toNat) (tmOf f (f.getD i default).y.toNat)) (cond (useX (f.getD i default).op) (.u (f.getD i default).hd (tmOf f (f.getD i default).x.toNat)) (.z (f.getD i default).hd)):=by
 unfold tmOf
 rw [tm]
 try simp only
 cases hy:useY (f.getD i default).op with
 | true =>
  have e1:=okay_x hf hi (useX_of_useY hy)
  have e2:=okay_y hf hi hy
  simp only [cond_true]
  rw [tm_fuel hf i _ _ (by omega) (by omega) (Nat.lt_succ_self _),tm_fuel hf i _ (f.getD i default).y.toNat (by omega) (by omega) (Nat.lt_succ_self _)]
 | false =>
  simp only [cond_false]
  cases hx:useX (f.getD i default).op with
  | true =>
   have e1:=okay_x hf hi hx
   simp only [cond_true]
   rw [tm_fuel hf i _ _ (by omega) (by omega) (Nat.lt_succ_self _)]
  | false=>rfl
theorem tm_append {f g:List Nd} (hf:Okay f) : ∀ (k i:Nat),i < f.length→tm (f++g) k i=tm f k i
 | 0,_,_=>rfl
 | k+1,i,hi=>by
  unfold tm
  simp only
  have e:(f++g).getD i default=f.getD i default:=by simp [List.getD,List.getElem?_append_left hi]
  rw [e]
  cases hy:useY (f.getD i default).op with
  | true =>
   have e1:=okay_x hf hi (useX_of_useY hy)
   have e2:=okay_y hf hi hy
   simp only [cond_true]
   rw [tm_append hf k _ (by omega),tm_append hf k (f.getD i default).y.toNat (by omega)]
  | false =>
   simp only [cond_false]
   cases hx:useX (f.getD i default).op with
   | true =>
    have e1:=okay_x hf hi hx
    simp only [cond_true]
    rw [tm_append hf k _ (by omega)]
   | false=>rfl
theorem tmOf_append {f g:List Nd} (hf:Okay f) {i:Nat} (hi:i < f.length):tmOf (f++g) i=tmOf f i:=tm_append hf _ _ hi
def Tm.all (p:Hd→Prop):Tm→Prop
 | .z h=>p h
 | .u h x=>p h∧x.all p
 | .b h x y=>p h∧x.all p∧y.all p
def Tm.size:Tm→Nat
 | .z _=>1
 | .u _ x=>x.size+1
 | .b _ x y=>x.size+y.size+1
structure HdOk (h:Hd):Prop where
 op:isOp h.op=true
 fact:useFact h.op=true→0≤h.i∧h.i≤7
 agent:useAgent h.op=true→0≤h.i∧h.i≤3
 event:useEvent h.op=true→0≤h.i∧h.i≤7∧0≤h.e∧h.e≤7
 group:useGroup h.op=true→1≤h.g∧h.g≤15
 i0:useFact h.op=false→useAgent h.op=false→useEvent h.op=false→h.i=0
 e0:useEvent h.op=false→h.e=0
 g0:useGroup h.op=false→h.g=0
theorem nErr_iff {n:Nd} {a:Int} : nErr n a=0↔HdOk n.hd∧(useX n.op=true→0≤n.x∧n.x < a)∧(useX n.op=false→n.x=0)∧(useY n.op=true→0≤n.y∧n.y < a)∧(useY n.op=false→n.y=0):=by
 constructor
 ·intro h
  obtain ⟨h1,h2,h3,h4,h5,h6,h7,h8,h9,h10,h11,h12⟩:=nErr_ok h
  exact ⟨⟨h1,h6,h7,h8,h9,h10,h11,h12⟩,h2,h3,h4,h5⟩
 ·rintro ⟨⟨h1,h6,h7,h8,h9,h10,h11,h12⟩,h2,h3,h4,h5⟩
  exact nErr_of ⟨h1,h2,h3,h4,h5,h6,h7,h8,h9,h10,h11,h12⟩
def Tm.ok:Tm→Prop
 | .z h=>HdOk h∧useX h.op=false∧useY h.op=false
 | .u h x=>HdOk h∧useX h.op=true∧useY h.op=false∧x.ok
 | .b h x y=>HdOk h∧useX h.op=true∧useY h.op=true∧x.ok∧y.ok
theorem tmOf_ok {f:List Nd} (hf:Okay f) : ∀ (n i:Nat),i < n→i < f.length→(tmOf f i).ok
 | 0,_,h,_=>by omega
 | n+1,i,h,hi=>by
  rw [tmOf_eq hf hi]
  have h0:=(nErr_iff.1 (okay_at hf hi)).1
  cases hy:useY (f.getD i default).op with
  | true =>
   have e1:=okay_x hf hi (useX_of_useY hy)
   have e2:=okay_y hf hi hy
   exact ⟨h0,useX_of_useY hy,hy,tmOf_ok hf n _ (by omega) (by omega),tmOf_ok hf n _ (by omega) (by omega)⟩
  | false =>
   cases hx:useX (f.getD i default).op with
   | true =>
    have e1:=okay_x hf hi hx
    exact ⟨h0,hx,hy,tmOf_ok hf n _ (by omega) (by omega)⟩
   | false=>exact ⟨h0,hx,hy⟩
def nd (h:Hd) (x y:Nat):Nd:=⟨h.op,h.i,h.e,h.g,x,y⟩
def finT:Tm→List Nd→Nat×List Nd
 | .z h,l=>put l (nd h 0 0)
 | .u h x,l=>put (finT x l).2 (nd h (finT x l).1 0)
 | .b h x y,l=>put (finT y (finT x l).2).2 (nd h (finT x l).1 (finT y (finT x l).2).1)
theorem put_found {l:List Nd} {x:Nd} {k:Nat} (h:l.idxOf? x=some k):put l x=(k,l):=by unfold put;rw [h]
theorem put_new {l:List Nd} {x:Nd} (h:l.idxOf? x=none):put l x=(l.length,l++[x]):=by unfold put;rw [h]
theorem idx_append {l m:List Nd} {x:Nd} {k:Nat} (h:l.idxOf? x=some k):(l++m).idxOf? x=some k:=by
 simp only [List.idxOf?] at h ⊢
 rw [List.findIdx?_append,h];rfl
theorem idx_get {l:List Nd} {x:Nd} {k:Nat} (h:l.idxOf? x=some k):l[k]? = some x:=by
 simp only [List.idxOf?] at h
 obtain ⟨h1,h2,h3⟩:=List.findIdx?_eq_some_iff_getElem.1 h
 simp at h2
 simp [h1,h2]
theorem idx_self {l:List Nd} {x:Nd} (h:l.idxOf? x=none):(l++[x]).idxOf? x=some l.length:=by
 simp only [List.idxOf?] at h ⊢
 rw [List.findIdx?_append,h]
 simp
theorem idx_none {l:List Nd} {x:Nd} (h:l.idxOf? x=none):x ∉ l:=by
 simp only [List.idxOf?,List.findIdx?_eq_none_iff] at h
 intro hx
 simpa using h x hx
theorem put_ext (l:List Nd) (x:Nd):(∃ m,(put l x).2=l++m)∧(put l x).2.idxOf? x=some (put l x).1:=by
 cases h:l.idxOf? x with
 | some k=>rw [put_found h];exact ⟨⟨[],by simp⟩,h⟩
 | none=>rw [put_new h];exact ⟨⟨[x],rfl⟩,idx_self h⟩
theorem finT_ext : ∀ (t:Tm) (l:List Nd),∃ m,(finT t l).2=l++m
 | .z h,l=>(put_ext _ _).1
 | .u h x,l=>by
  obtain ⟨m,hm⟩:=finT_ext x l
  obtain ⟨m',hm'⟩:=(put_ext (finT x l).2 (nd h (finT x l).1 0)).1
  exact ⟨m++m',by rw [finT,hm',hm,List.append_assoc]⟩
 | .b h x y,l=>by
  obtain ⟨m,hm⟩:=finT_ext x l
  obtain ⟨m2,hm2⟩:=finT_ext y (finT x l).2
  obtain ⟨m',hm'⟩:=(put_ext (finT y (finT x l).2).2 (nd h (finT x l).1 (finT y (finT x l).2).1)).1
  exact ⟨m++m2++m',by rw [finT,hm',hm2,hm,List.append_assoc,List.append_assoc,List.append_assoc]⟩
def HasT (t:Tm) (l:List Nd) (r:Nat):Prop:=finT t l=(r,l)
theorem HasT.mono : ∀ {t:Tm} {l:List Nd} {r:Nat} (m:List Nd),HasT t l r→HasT t (l++m) r
 | .z h,l,r,m,hh=>by
  unfold HasT finT at *
  cases hi:l.idxOf? (nd h 0 0) with
  | some k=>rw [put_found hi] at hh;cases hh;rw [put_found (idx_append hi)]
  | none=>rw [put_new hi] at hh;have:=congrArg (fun p=>p.2.length) hh;simp at this
 | .u h x,l,r,m,hh=>by
  unfold HasT at *
  obtain ⟨a,ha⟩:=finT_ext x l
  obtain ⟨b,hb⟩:=(put_ext (finT x l).2 (nd h (finT x l).1 0)).1
  have e:a=[]∧b=[]:=by
   have:(finT (.u h x) l).2=l++a++b:=by rw [finT,hb,ha]
   rw [hh] at this
   have:=congrArg List.length this
   simp only [List.length_append] at this
   exact ⟨List.length_eq_zero_iff.1 (by omega),List.length_eq_zero_iff.1 (by omega)⟩
  obtain ⟨rfl,rfl⟩:=e
  rw [List.append_nil] at ha
  have hx:HasT x l (finT x l).1:=Prod.ext rfl ha
  have hx':=HasT.mono m hx
  unfold HasT at hx'
  rw [finT,ha] at hh
  rw [finT,hx']
  cases hi:l.idxOf? (nd h (finT x l).1 0) with
  | some k=>rw [put_found hi] at hh;cases hh;exact put_found (idx_append hi)
  | none=>rw [put_new hi] at hh;have:=congrArg (fun p=>p.2.length) hh;simp at this
 | .b h x y,l,r,m,hh=>by
  unfold HasT at *
  obtain ⟨a,ha⟩:=finT_ext x l
  obtain ⟨c,hc⟩:=finT_ext y (finT x l).2
  obtain ⟨b,hb⟩:=(put_ext (finT y (finT x l).2).2 (nd h (finT x l).1 (finT y (finT x l).2).1)).1
  have e:a=[]∧c=[]∧b=[]:=by
   have:(finT (.b h x y) l).2=l++a++c++b:=by rw [finT,hb,hc,ha]
   rw [hh] at this
   have:=congrArg List.length this
   simp only [List.length_append] at this
   exact ⟨List.length_eq_zero_iff.1 (by omega),List.length_eq_zero_iff.1 (by omega),List.length_eq_zero_iff.1 (by omega)⟩
  obtain ⟨rfl,rfl,rfl⟩:=e
  rw [List.append_nil] at ha hc
  rw [ha] at hc
  have hx:HasT x l (finT x l).1:=Prod.ext rfl ha
  have hy:HasT y l (finT y l).1:=Prod.ext rfl hc
  have hx':=HasT.mono m hx
  have hy':=HasT.mono m hy
  unfold HasT at hx' hy'
  rw [finT,ha,hc] at hh
  rw [finT,hx']
  simp only
  rw [hy']
  cases hi:l.idxOf? (nd h (finT x l).1 (finT y l).1) with
  | some k=>rw [put_found hi] at hh;cases hh;exact put_found (idx_append hi)
  | none=>rw [put_new hi] at hh;have:=congrArg (fun p=>p.2.length) hh;simp at this
theorem finT_has : ∀ (t:Tm) (l:List Nd),HasT t (finT t l).2 (finT t l).1
 | .z h,l=>by
  unfold HasT finT
  exact put_found (put_ext _ _).2
 | .u h x,l=>by
  obtain ⟨m,hm⟩:=(put_ext (finT x l).2 (nd h (finT x l).1 0)).1
  have h1:=(finT_has x l).mono m
  rw [← hm] at h1
  unfold HasT at *
  rw [finT,finT,h1]
  exact put_found (put_ext _ _).2
 | .b h x y,l=>by
  obtain ⟨m,hm⟩:=(put_ext (finT y (finT x l).2).2 (nd h (finT x l).1 (finT y (finT x l).2).1)).1
  obtain ⟨m2,hm2⟩:=finT_ext y (finT x l).2
  have h1:=((finT_has x l).mono m2).mono m
  rw [← hm2] at h1
  have h2:=(finT_has y (finT x l).2).mono m
  rw [← hm] at h1 h2
  unfold HasT at *
  rw [finT,finT,h1]
  simp only
  rw [h2]
  exact put_found (put_ext _ _).2
theorem put_lt (l:List Nd) (x:Nd):(put l x).1 < (put l x).2.length:=by
 have:=idx_get (put_ext l x).2
 exact (List.getElem?_eq_some_iff.1 this).1
theorem finT_lt : ∀ (t:Tm) (l:List Nd),(finT t l).1 < (finT t l).2.length
 | .z _,_=>put_lt _ _
 | .u _ _,_=>put_lt _ _
 | .b _ _ _,_=>put_lt _ _
theorem put_okay {l:List Nd} {x:Nd} (hl:Okay l) (h:nErr x l.length=0):Okay (put l x).2:=by
 cases hi:l.idxOf? x with
 | some k=>rw [put_found hi];exact hl
 | none =>
  rw [put_new hi]
  intro k n hk
  simp only [List.getElem?_append] at hk
  split at hk
  ·exact hl k n hk
  ·rename_i h1
   have:k=l.length:=by
    have:=(List.getElem?_eq_some_iff.1 hk).1;simp at this;omega
   subst this
   simp at hk;subst hk;exact h
theorem put_tree {l:List Nd} {x:Nd} (hl:Okay l) (h:nErr x l.length=0):(put l x).2.getD (put l x).1 default=x:=by
 have:=idx_get (put_ext l x).2
 simp [List.getD,this]
theorem nat_of {k:Nat} : ((k:Nat):Int).toNat=k:=by omega
theorem finT_okay : ∀ (t:Tm) (l:List Nd),t.ok→Okay l→Okay (finT t l).2∧tmOf (finT t l).2 (finT t l).1=t
 | .z h,l,ht,hl=>by
  have hn:nErr (nd h 0 0) l.length=0:=nErr_iff.2 ⟨ht.1,fun e=>by have:=ht.2.1;simp [nd] at e;simp [this] at e,fun _=>rfl,fun e=>by have:=ht.2.2;simp [nd] at e;simp [this] at e,fun _=>rfl⟩
  have h1:=put_okay hl hn
  refine ⟨h1,?_⟩
  have h2:=tmOf_eq h1 (put_lt l (nd h 0 0))
  rw [put_tree hl hn] at h2
  rw [finT,h2]
  simp only [nd,ht.2.1,ht.2.2,cond_false,Nd.hd]
 | .u h x,l,ht,hl=>by
  obtain ⟨a1,a2⟩:=finT_okay x l ht.2.2.2 hl
  have a3:=finT_lt x l
  have hn:nErr (nd h (finT x l).1 0) (finT x l).2.length=0:=nErr_iff.2 ⟨ht.1,fun e=>⟨by simp [nd],by simp only [nd];omega⟩,fun e=>by have:=ht.2.1;simp [nd] at e;simp [this] at e,fun e=>by have:=ht.2.2.1;simp [nd] at e;simp [this] at e,fun _=>rfl⟩
  have h1:=put_okay a1 hn
  refine ⟨h1,?_⟩
  have h2:=tmOf_eq h1 (put_lt (finT x l).2 (nd h (finT x l).1 0))
  rw [put_tree a1 hn] at h2
  obtain ⟨m,hm⟩:=(put_ext (finT x l).2 (nd h (finT x l).1 0)).1
  rw [finT,h2]
  simp only [nd,ht.2.1,ht.2.2.1,cond_false,cond_true,Nd.hd,nat_of]
  have h3:tmOf (put (finT x l).2 (nd h (finT x l).1 0)).2 (finT x l).1=x:=by rw [hm,tmOf_append a1 a3,a2]
  simp only [nd] at h3
  rw [h3]
 | .b h x y,l,ht,hl=>by
  obtain ⟨a1,a2⟩:=finT_okay x l ht.2.2.2.1 hl
  have a3:=finT_lt x l
  obtain ⟨b1,b2⟩:=finT_okay y (finT x l).2 ht.2.2.2.2 a1
  have b3:=finT_lt y (finT x l).2
  obtain ⟨m2,hm2⟩:=finT_ext y (finT x l).2
  have hn:nErr (nd h (finT x l).1 (finT y (finT x l).2).1) (finT y (finT x l).2).2.length=0:=nErr_iff.2 ⟨ht.1,fun e=>⟨by simp [nd],by simp only [nd];rw [hm2,List.length_append];omega⟩,
   fun e=>by have:=ht.2.1;simp [nd] at e;simp [this] at e,fun e=>⟨by simp [nd],by simp only [nd];omega⟩,fun e=>by have:=ht.2.2.1;simp [nd] at e;simp [this] at e⟩
  have h1:=put_okay b1 hn
  refine ⟨h1,?_⟩
  have h2:=tmOf_eq h1 (put_lt (finT y (finT x l).2).2 (nd h (finT x l).1 (finT y (finT x l).2).1))
  rw [put_tree b1 hn] at h2
  obtain ⟨m,hm⟩:=(put_ext (finT y (finT x l).2).2 (nd h (finT x l).1 (finT y (finT x l).2).1)).1
  rw [finT,h2]
  simp only [nd,ht.2.1,ht.2.2.1,cond_false,cond_true,Nd.hd,nat_of]
  have h3:tmOf (put (finT y (finT x l).2).2 (nd h (finT x l).1 (finT y (finT x l).2).1)).2 (finT x l).1=x:=by
   rw [hm,tmOf_append b1 (by rw [hm2,List.length_append];omega),hm2,tmOf_append a1 a3,a2]
  have h4:tmOf (put (finT y (finT x l).2).2 (nd h (finT x l).1 (finT y (finT x l).2).1)).2 (finT y (finT x l).2).1=y:=by
   rw [hm,tmOf_append b1 b3,b2]
  simp only [nd] at h3 h4
  rw [h3,h4]
theorem put_all (p:Hd→Prop) (l:List Nd) (x:Nd):(∀ n∈(put l x).2,p n.hd)↔(∀ n∈l,p n.hd)∧p x.hd:=by
 cases hi:l.idxOf? x with
 | some k =>
  rw [put_found hi]
  have:=List.mem_of_getElem? (idx_get hi)
  exact ⟨fun h=>⟨h,h x this⟩,fun h=>h.1⟩
 | none =>
  rw [put_new hi]
  simp only [List.mem_append,List.mem_singleton]
  exact ⟨fun h=>⟨fun n hn=>h n (.inl hn),h x (.inr rfl)⟩,fun h n hn=>hn.elim (h.1 n) (fun e=>e▸h.2)⟩
theorem finT_all (p:Hd→Prop) : ∀ (t:Tm) (l:List Nd),(∀ n∈(finT t l).2,p n.hd)↔(∀ n∈l,p n.hd)∧t.all p
 | .z h,l=>put_all p l _
 | .u h x,l=>by
  rw [finT,put_all,finT_all p x l,Tm.all]
  exact ⟨fun ⟨⟨a,b⟩,c⟩=>⟨a,c,b⟩,fun ⟨a,c,b⟩=>⟨⟨a,b⟩,c⟩⟩
 | .b h x y,l=>by
  rw [finT,put_all,finT_all p y _,finT_all p x l,Tm.all]
  exact ⟨fun ⟨⟨⟨a,b⟩,d⟩,c⟩=>⟨a,c,b,d⟩,fun ⟨a,c,b,d⟩=>⟨⟨⟨a,b⟩,d⟩,c⟩⟩
theorem all_size : ∀ (t:Tm) (l:List Nd) (r:Nat),t.ok→Okay l→l.length≤r→r < (finT t l).2.length→(tmOf (finT t l).2 r).size≤t.size∧(r+1 < (finT t l).2.length→(tmOf (finT t l).2 r).size < t.size)
 | .z h,l,r,ht,hl,h1,h2=>by
  obtain ⟨o1,o2⟩:=finT_okay (.z h) l ht hl
  have:(finT (.z h) l).1=r ∧ ¬ r+1 < (finT (.z h) l).2.length:=by
   unfold finT at h2 ⊢
   cases hi:l.idxOf? (nd h 0 0) with
   | some k=>rw [put_found hi] at h2;simp at h2;omega
   | none=>rw [put_new hi] at h2 ⊢;simp at h2 ⊢;omega
  rw [← this.1,o2]
  rw [this.1]
  exact ⟨Nat.le_refl _,fun h=>absurd h this.2⟩
 | .u h x,l,r,ht,hl,h1,h2=>by
  obtain ⟨o1,o2⟩:=finT_okay (.u h x) l ht hl
  obtain ⟨a1,a2⟩:=finT_okay x l ht.2.2.2 hl
  have ih:=all_size x l r ht.2.2.2 hl h1
  by_cases hr:r < (finT x l).2.length
  ·obtain ⟨m,hm⟩:=(put_ext (finT x l).2 (nd h (finT x l).1 0)).1
   have e:tmOf (finT (.u h x) l).2 r=tmOf (finT x l).2 r:=by rw [finT,hm,tmOf_append a1 hr]
   rw [e]
   have:=(ih hr).1
   simp only [Tm.size]
   omega
  ·have:(finT (.u h x) l).1=r ∧ ¬ r+1 < (finT (.u h x) l).2.length:=by
    unfold finT at h2 ⊢
    cases hi:(finT x l).2.idxOf? (nd h (finT x l).1 0) with
    | some k=>rw [put_found hi] at h2;simp at h2;omega
    | none=>rw [put_new hi] at h2 ⊢;simp at h2 ⊢;omega
   rw [← this.1,o2,this.1]
   exact ⟨Nat.le_refl _,fun h=>absurd h this.2⟩
 | .b h x y,l,r,ht,hl,h1,h2=>by
  obtain ⟨o1,o2⟩:=finT_okay (.b h x y) l ht hl
  obtain ⟨a1,a2⟩:=finT_okay x l ht.2.2.2.1 hl
  obtain ⟨b1,b2⟩:=finT_okay y (finT x l).2 ht.2.2.2.2 a1
  have ih:=all_size x l r ht.2.2.2.1 hl h1
  obtain ⟨m2,hm2⟩:=finT_ext y (finT x l).2
  obtain ⟨m,hm⟩:=(put_ext (finT y (finT x l).2).2 (nd h (finT x l).1 (finT y (finT x l).2).1)).1
  by_cases hr:r < (finT x l).2.length
  ·have e:tmOf (finT (.b h x y) l).2 r=tmOf (finT x l).2 r:=by
    rw [finT,hm,tmOf_append b1 (by rw [hm2,List.length_append];omega),hm2,tmOf_append a1 hr]
   rw [e]
   have:=(ih hr).1
   simp only [Tm.size]
   omega
  ·have ih2:=all_size y (finT x l).2 r ht.2.2.2.2 a1 (by omega)
   by_cases hr2:r < (finT y (finT x l).2).2.length
   ·have e:tmOf (finT (.b h x y) l).2 r=tmOf (finT y (finT x l).2).2 r:=by
     rw [finT,hm,tmOf_append b1 hr2]
    rw [e]
    have:=(ih2 hr2).1
    simp only [Tm.size]
    omega
   ·have:(finT (.b h x y) l).1=r ∧ ¬ r+1 < (finT (.b h x y) l).2.length:=by
     unfold finT at h2 ⊢
     cases hi:(finT y (finT x l).2).2.idxOf? (nd h (finT x l).1 (finT y (finT x l).2).1) with
     | some k=>rw [put_found hi] at h2;simp at h2;omega
     | none=>rw [put_new hi] at h2 ⊢;simp at h2 ⊢;omega
    rw [← this.1,o2,this.1]
    exact ⟨Nat.le_refl _,fun h=>absurd h this.2⟩
theorem okay_nil:Okay []:=fun k n h=>by simp at h
theorem finT_last {t:Tm} (ht:t.ok):(finT t []).1+1=(finT t []).2.length:=by
 have h1:=finT_lt t []
 have h2:=(finT_okay t [] ht okay_nil).2
 by_cases h:(finT t []).1+1 < (finT t []).2.length
 ·have:=(all_size t [] (finT t []).1 ht okay_nil (by simp) h1).2 h
  rw [h2] at this;omega
 ·omega
end Go.Ab
namespace Go.Ab
set_option linter.unusedVariables false
set_option linter.unusedSimpArgs false
structure FInv (f:List Nd) (s:FSt):Prop where
 has : ∀ i r,s.done.lookup i=some r→HasT (tmOf f i) s.out r
 rng : ∀ p∈s.done,p.1 < f.length
 keys:(s.done.map Prod.fst).Nodup
 len:s.out.length≤s.done.length
theorem lookup_none {d:List (Nat×Nat)} {i:Nat} (h : ∀ p∈d,p.1≠i):d.lookup i=none:=by
 induction d with
 | nil=>rfl
 | cons p d ih =>
  obtain ⟨a,b⟩:=p
  have h0:=h (a,b) (by simp)
  have:(i==a)=false:=by simpa using fun e=>h0 e.symm
  simp only [List.lookup,this]
  exact ih fun q hq=>h q (by simp [hq])
theorem lookup_some {d:List (Nat×Nat)} {i r:Nat} (h:d.lookup i=some r):(i,r)∈d:=by
 induction d with
 | nil=>simp at h
 | cons p d ih =>
  obtain ⟨a,b⟩:=p
  simp only [List.lookup] at h
  split at h
  ·rename_i e;simp at e;cases h;simp [e]
  ·exact List.mem_cons_of_mem _ (ih h)
theorem lookup_not {d:List (Nat×Nat)} {i:Nat} (h:d.lookup i=none) : ∀ p∈d,p.1≠i:=by
 induction d with
 | nil=>simp
 | cons p d ih =>
  obtain ⟨a,b⟩:=p
  simp only [List.lookup] at h
  split at h
  ·cases h
  ·rename_i e
   intro q hq
   rcases List.mem_cons.1 hq with rfl|hq
   ·intro h';subst h';simp at e
   ·exact ih h q hq
theorem lookup_append {d:List (Nat×Nat)} {i j r q:Nat} (h:(d++[(i,r)]).lookup j=some q):d.lookup j=some q∨(j=i∧q=r∧d.lookup j=none):=by
 induction d with
 | nil =>
  simp only [List.nil_append,List.lookup] at h
  split at h
  ·rename_i e;simp at e;cases h;exact .inr ⟨e,rfl,rfl⟩
  ·cases h
 | cons p d ih =>
  obtain ⟨a,b⟩:=p
  simp only [List.cons_append,List.lookup] at h ⊢
  split at h
  ·exact .inl h
  ·exact ih h
theorem lookup_mono {d e:List (Nat×Nat)} {i r:Nat} (h:d.lookup i=some r):(d++e).lookup i=some r:=by
 induction d with
 | nil=>simp at h
 | cons p d ih =>
  obtain ⟨a,b⟩:=p
  simp only [List.cons_append,List.lookup] at h ⊢
  split at h
  ·exact h
  ·exact ih h
theorem nd_of {n:Nd} {a b:Nat} : ({ n with x:=(a:Int),y:=(b:Int) } : Nd)=nd n.hd a b:=rfl
theorem fin_spec {f:List Nd} (hf:Okay f) : ∀ (k i:Nat) (s:FSt),i < k→i < f.length→FInv f s →
  FInv f (fin f k i s).2∧(fin f k i s).1=(finT (tmOf f i) s.out).1∧(fin f k i s).2.out=(finT (tmOf f i) s.out).2∧(∃ l,(fin f k i s).2.done=s.done++l ∧ ∀ p∈l,p.1≤i)
 | 0,i,s,h,_,_=>by omega
 | k+1,i,s,hk,hi,hs=>by
  unfold fin
  cases hd:s.done.lookup i with
  | some r =>
   have:=hs.has i r hd
   unfold HasT at this
   refine ⟨hs,?_,?_,[],by simp,by simp⟩
   ·rw [this]
   ·rw [this]
  | none =>
   simp only
   have key : ∀ (a b:Nat) (s2:FSt),FInv f s2→(∃ l,s2.done=s.done++l ∧ ∀ p∈l,p.1 < i)→finT (tmOf f i) s.out=put s2.out (nd (f.getD i default).hd a b) →
     (∃ m,s2.out=s.out++m) →
     FInv f ⟨(put s2.out (nd (f.getD i default).hd a b)).2,s2.done++[(i,(put s2.out (nd (f.getD i default).hd a b)).1)]⟩∧(put s2.out (nd (f.getD i default).hd a b)).1=(finT (tmOf f i) s.out).1 ∧
     (put s2.out (nd (f.getD i default).hd a b)).2=(finT (tmOf f i) s.out).2∧(∃ l,s2.done++[(i,(put s2.out (nd (f.getD i default).hd a b)).1)]=s.done++l ∧ ∀ p∈l,p.1≤i):=by
    intro a b s2 h2 hl hT hm
    obtain ⟨l,hl1,hl2⟩:=hl
    obtain ⟨m,hm⟩:=(put_ext s2.out (nd (f.getD i default).hd a b)).1
    have hni : ∀ p∈s2.done,p.1≠i:=by
     intro p hp
     rw [hl1,List.mem_append] at hp
     rcases hp with hp|hp
     ·exact lookup_not hd p hp
     ·have:=hl2 p hp;omega
    refine ⟨⟨fun j r hj=>?_,fun p hp=>?_,?_,?_⟩,by rw [hT],by rw [hT],l++[(i,(put s2.out (nd (f.getD i default).hd a b)).1)],by rw [hl1,List.append_assoc],fun p hp=>?_⟩
    ·rcases lookup_append hj with h|⟨rfl,rfl,-⟩
     ·have:=(h2.has j r h).mono m
      rw [← hm] at this;exact this
     ·rw [← hT];exact finT_has _ _
    ·rcases List.mem_append.1 hp with hp|hp
     ·exact h2.rng p hp
     ·simp at hp;subst hp;exact hi
    ·simp only [List.map_append,List.map_cons,List.map_nil]
     rw [List.nodup_append]
     refine ⟨h2.keys,by simp,fun x hx y hy=>?_⟩
     simp at hy;subst hy
     obtain ⟨p,hp,rfl⟩:=List.mem_map.1 hx
     exact hni p hp
    ·have:=h2.len
     simp only [List.length_append,List.length_cons,List.length_nil]
     cases hx:s2.out.idxOf? (nd (f.getD i default).hd a b) with
     | some k=>rw [put_found hx];simp only;omega
     | none=>rw [put_new hx];simp only [List.length_append,List.length_cons,List.length_nil];omega
    ·rcases List.mem_append.1 hp with hp|hp
     ·have:=hl2 p hp;omega
     ·simp at hp;subst hp;exact Nat.le_refl _
   have hT:=tmOf_eq hf hi
   have hn:=nErr_iff.1 (okay_at hf hi)
   cases hy:useY (f.getD i default).op with
   | true =>
    have hx:=useX_of_useY hy
    have e1:=okay_x hf hi hx
    have e2:=okay_y hf hi hy
    simp only [hy,hx,cond_true] at hT ⊢
    obtain ⟨a1,a2,a3,la,a4,a5⟩:=fin_spec hf k (f.getD i default).x.toNat s (by omega) (by omega) hs
    obtain ⟨b1,b2,b3,lb,b4,b5⟩:=fin_spec hf k (f.getD i default).y.toNat (fin f k (f.getD i default).x.toNat s).2 (by omega) (by omega) a1
    obtain ⟨m1,hm1⟩:=finT_ext (tmOf f (f.getD i default).x.toNat) s.out
    obtain ⟨m2,hm2⟩:=finT_ext (tmOf f (f.getD i default).y.toNat) (fin f k (f.getD i default).x.toNat s).2.out
    refine key _ _ _ b1 ⟨la++lb,by rw [b4,a4,List.append_assoc],fun p hp=>?_⟩ ?_ ⟨m1++m2,by rw [b3,hm2,a3,hm1,List.append_assoc]⟩
    ·rcases List.mem_append.1 hp with hp|hp
     ·have:=a5 p hp;omega
     ·have:=b5 p hp;omega
    ·rw [hT,finT,b3,b2,a3,a2]
   | false =>
    cases hx:useX (f.getD i default).op with
    | true =>
     have e1:=okay_x hf hi hx
     simp only [hy,hx,cond_true,cond_false] at hT ⊢
     obtain ⟨a1,a2,a3,la,a4,a5⟩:=fin_spec hf k (f.getD i default).x.toNat s (by omega) (by omega) hs
     obtain ⟨m1,hm1⟩:=finT_ext (tmOf f (f.getD i default).x.toNat) s.out
     have e0:(f.getD i default).y.toNat=0:=by rw [hn.2.2.2.2 hy];rfl
     refine key _ _ _ a1 ⟨la,a4,fun p hp=>by have:=a5 p hp;omega⟩ ?_ ⟨m1,by rw [a3,hm1]⟩
     rw [hT,finT,a2,a3,e0]
    | false =>
     simp only [hy,hx,cond_true,cond_false] at hT ⊢
     have e0:(f.getD i default).y.toNat=0:=by rw [hn.2.2.2.2 hy];rfl
     have e1:(f.getD i default).x.toNat=0:=by rw [hn.2.2.1 hx];rfl
     refine key _ _ _ hs ⟨[],by simp,by simp⟩ ?_ ⟨[],by simp⟩
     rw [hT,finT,e0,e1]
theorem fin_fuel {f:List Nd} (hf:Okay f) : ∀ (k k' i:Nat) (s:FSt),i < k→i < k'→i < f.length→fin f k i s=fin f k' i s
 | 0,_,_,_,h,_,_=>by omega
 | _+1,0,_,_,_,h,_=>by omega
 | k+1,k'+1,i,s,h1,h2,hi=>by
  unfold fin
  cases hd:s.done.lookup i with
  | some r=>rfl
  | none =>
   simp only
   cases hy:useY (f.getD i default).op with
   | true =>
    have hx:=useX_of_useY hy
    have e1:=okay_x hf hi hx
    have e2:=okay_y hf hi hy
    simp only [hx,cond_true]
    rw [fin_fuel hf k k' (f.getD i default).x.toNat s (by omega) (by omega) (by omega),fin_fuel hf k k' (f.getD i default).y.toNat _ (by omega) (by omega) (by omega)]
   | false =>
    cases hx:useX (f.getD i default).op with
    | true =>
     have e1:=okay_x hf hi hx
     simp only [cond_true,cond_false]
     rw [fin_fuel hf k k' (f.getD i default).x.toNat s (by omega) (by omega) (by omega)]
    | false=>rfl
theorem inv_nil (f:List Nd):FInv f ⟨[],[]⟩:=⟨fun i r h=>by simp at h,by simp,by simp,by simp⟩
theorem fnodup_le {l:List Nat} {n:Nat} (h:l.Nodup) (hn : ∀ x∈l,x < n):l.length≤n:=by
 have h2:l ⊆ List.range n:=fun x hx=>List.mem_range.2 (hn x hx)
 have:=List.Nodup.length_le_of_subset h h2
 simpa using this
structure Canon (t:Tm) (c:List Nd):Prop where
 ok:Okay c
 pos:0 < c.length
 tree:tmOf c (c.length - 1)=t
 all : ∀ p:Hd→Prop,(∀ n∈c,p n.hd)↔t.all p
theorem canonT {t:Tm} (ht:t.ok):Canon t (finT t []).2:=by
 have h1:=finT_last ht
 obtain ⟨h2,h3⟩:=finT_okay t [] ht okay_nil
 refine ⟨h2,by omega,by rw [← h1,Nat.add_sub_cancel];exact h3,fun p=>?_⟩
 rw [finT_all p t []];simp
theorem compactL_eq {f:List Nd} (hf:Okay f) {i:Nat} (hi:i < f.length):compactL f i=(finT (tmOf f i) []).2∧(compactL f i).length≤f.length∧(fin f (i+1) i ⟨[],[]⟩).1+1=(compactL f i).length:=by
 obtain ⟨a1,a2,a3,a4⟩:=fin_spec hf (i+1) i ⟨[],[]⟩ (by omega) hi (inv_nil f)
 refine ⟨a3,?_,?_⟩
 ·have h1:=a1.len
  have h2:=fnodup_le a1.keys (n:=f.length) (fun x hx=>by obtain ⟨p,hp,rfl⟩:=List.mem_map.1 hx;exact a1.rng p hp)
  rw [List.length_map] at h2
  unfold compactL;omega
 ·unfold compactL
  rw [a2,a3]
  exact finT_last (tmOf_ok hf (i+1) i (by omega) hi)
theorem compactL_canon {f:List Nd} (hf:Okay f) {i:Nat} (hi:i < f.length):Canon (tmOf f i) (compactL f i):=by
 rw [(compactL_eq hf hi).1];exact canonT (tmOf_ok hf (i+1) i (by omega) hi)
def sets {β:Type} (v:Hd→β→β→β) (d:β):List Nd→List β→List β
 | [],acc=>acc
 | n::r,acc=>sets v d r (acc++[v n.hd (acc.getD n.x.toNat d) (acc.getD n.y.toNat d)])
def ev {β:Type} (v:Hd→β→β→β) (d:β):Tm→β
 | .z h=>v h d d
 | .u h x=>v h (ev v d x) d
 | .b h x y=>v h (ev v d x) (ev v d y)
structure Uses {β:Type} (v:Hd→β→β→β):Prop where
 x : ∀ h a b c,useX h.op=false→v h a c=v h b c
 y : ∀ h a b c,useY h.op=false→v h c a=v h c b
theorem sets_len {β:Type} (v:Hd→β→β→β) (d:β) : ∀ (l:List Nd) (acc:List β),(sets v d l acc).length=acc.length+l.length
 | [],acc=>by simp [sets]
 | n::r,acc=>by rw [sets,sets_len v d r];simp;omega
theorem sets_go {β:Type} {v:Hd→β→β→β} {d:β} (hv:Uses v) {f:List Nd} (hf:Okay f) : ∀ (l:List Nd) (acc:List β),f.drop acc.length=l→acc.length≤f.length→(∀ i,i < acc.length→acc.getD i d=ev v d (tmOf f i)) →
  ∀ i,i < f.length→(sets v d l acc).getD i d=ev v d (tmOf f i)
 | [],acc,h1,h2,h3,i,hi=>by
  have:acc.length=f.length:=by
   have:=congrArg List.length h1;simp at this;omega
  exact h3 i (by omega)
 | n::r,acc,h1,h2,h3,i,hi=>by
  have hlt:acc.length < f.length:=by
   have:=congrArg List.length h1;simp at this;omega
  have hn:f.getD acc.length default=n:=by
   have:=congrArg (fun l=>l[0]?) h1
   simp at this
   simp [List.getD,this]
  rw [sets]
  refine sets_go hv hf r _ ?_ (by simp;omega) (fun j hj=>?_) i hi
  ·simp only [List.length_append,List.length_cons,List.length_nil]
   have:=congrArg List.tail h1
   simpa using this
  ·by_cases hj2:j < acc.length
   ·rw [show (acc++[v n.hd (acc.getD n.x.toNat d) (acc.getD n.y.toNat d)]).getD j d=acc.getD j d by simp [List.getD,List.getElem?_append_left hj2]]
    exact h3 j hj2
   ·simp at hj
    have e:j=acc.length:=by omega
    subst e
    rw [show (acc++[v n.hd (acc.getD n.x.toNat d) (acc.getD n.y.toNat d)]).getD acc.length d=v n.hd (acc.getD n.x.toNat d) (acc.getD n.y.toNat d) by simp [List.getD]]
    rw [tmOf_eq hf hlt,hn]
    cases hy:useY n.op with
    | true =>
     have hx:=useX_of_useY hy
     have e1:=okay_x hf hlt (by rw [hn];exact hx)
     have e2:=okay_y hf hlt (by rw [hn];exact hy)
     rw [hn] at e1 e2
     simp only [cond_true,ev]
     rw [h3 _ e1.2,h3 _ e2.2]
    | false =>
     cases hx:useX n.op with
     | true =>
      have e1:=okay_x hf hlt (by rw [hn];exact hx)
      rw [hn] at e1
      simp only [cond_true,cond_false,ev]
      rw [h3 _ e1.2]
      exact hv.y _ _ _ _ hy
     | false =>
      simp only [cond_false,ev]
      rw [hv.x _ _ d _ hx,hv.y _ _ d _ hy]
theorem sets_last {β:Type} {v:Hd→β→β→β} {d:β} (hv:Uses v) {t:Tm} {c:List Nd} (hc:Canon t c):(sets v d c []).getD (c.length - 1) d=ev v d t:=by
 have hp:=hc.pos
 rw [sets_go hv hc.ok c [] (by simp) (by simp) (fun i hi=>by simp at hi) (c.length - 1) (by omega),hc.tree]
end Go.Ab
namespace Go.Ab
open Go Go.Proofs
set_option linter.unusedSimpArgs false
set_option linter.unusedVariables false
set_option maxRecDepth 10000
set_option maxHeartbeats 4000000
variable {T:Nat→Obj→Prop}
theorem TestS.yes {b:Bool} {p q:Prop} (hb:b=true) (h:p):TestS b p q:=⟨fun _=>h,fun e=>by rw [hb] at e;cases e⟩
theorem TestS.no {b:Bool} {p q:Prop} (hb:b=false) (h:q):TestS b p q:=⟨fun e=>(by rw [hb] at e;cases e),fun _=>h⟩
theorem TestS.decY {x:Prop} [Decidable x] {p q:Prop} (hx:x) (h:p):TestS (decide x) p q := .yes (decide_eq_true hx) h
theorem TestS.decN {x:Prop} [Decidable x] {p q:Prop} (hx : ¬x) (h:q):TestS (decide x) p q := .no (decide_eq_false hx) h
abbrev dNd (n:Nd):D := .agg [.int .i64 n.op,.int .i64 n.i,.int .i64 n.e,.int .i64 n.g,.int .i64 n.x,.int .i64 n.y]
abbrev dF (f:List Nd):D := .arr 6 (f.map dNd)
abbrev dUse (op:Int):D := .agg [.bool (useX op),.bool (useY op),.bool (useFact op),.bool (useAgent op),.bool (useGroup op),.bool (useEvent op),.int .i64 (fragOf op)]
theorem fn_uses (op:Int):Fn Tryz.prog T f_formula_uses [.d (.int .i64 op)] [] (.d (.tup [dUse op,.bool (isOp op)])) []:=by
 by_cases h:1≤op∧op≤21
 ·have:op=1∨op=2∨op=3∨op=4∨op=5∨op=6∨op=7∨op=8∨op=9∨op=10∨op=11∨op=12∨op=13∨op=14∨op=15∨op=16∨op=17∨op=18∨op=19∨op=20∨op=21:=by omega
  clear h
  rcases this with rfl|rfl|rfl|rfl|rfl|rfl|rfl|rfl|rfl|rfl|rfl|rfl|rfl|rfl|rfl|rfl|rfl|rfl|rfl|rfl|rfl
  all_goals refine fn_dataR hmix k_formula_uses (by show 1≤55;decide) ?_
  all_goals (repeat' ((conv=>whnf);first|refine TestS.decN (by omega) ?_|refine TestS.decY (by omega) ?_|refine vA ?_));all_goals try conv=>whnf
  all_goals first|rfl|kernel_rfl|skip
 ·refine fn_dataR hmix k_formula_uses (by show 1≤55;decide) ?_
  (repeat' ((conv=>whnf);first|refine TestS.decN (by omega) ?_|refine vA ?_));all_goals try conv=>whnf
  have e1:isOp op=false:=by simp only [isOp,decide_eq_false_iff_not];omega
  have e2:useX op=false:=by simp only [useX,decide_eq_false_iff_not];omega
  have e3:useY op=false:=by simp only [useY,decide_eq_false_iff_not];omega
  have e4:useFact op=false:=by simp only [useFact,decide_eq_false_iff_not];omega
  have e5:useAgent op=false:=by simp only [useAgent,decide_eq_false_iff_not];omega
  have e6:useGroup op=false:=by simp only [useGroup,decide_eq_false_iff_not];omega
  have e7:useEvent op=false:=by simp only [useEvent,decide_eq_false_iff_not];omega
  have e8:fragOf op=0:=by unfold fragOf; (repeat' rw [if_neg (by omega)])
  rw [e1,dUse,e2,e3,e4,e5,e6,e7,e8]
  first|rfl|skip
theorem fn_operand (u:Bool) (f a:Int):Fn Tryz.prog T f_formula_operand [.d (.bool u),.d (.int .i64 f),.d (.int .i64 a)] [] (.d (.bool (opdOk u f a))) []:=by
 refine fn_dataR hmix k_formula_operand (by show 3≤25;decide) ?_
 (repeat' ((conv=>whnf);first|refine vA ?_|refine vE ?_|((first|refine vF ?_ ?_|refine vI ?_ ?_)<;>intro hc<;>try simp only [vL] at hc)|refine vZ ?_));all_goals try conv=>whnf
 all_goals (cases u<;>simp_all [opdOk]<;>omega)
theorem fn_outside (u:Bool) (v lo hi:Int):Fn Tryz.prog T f_formula_nodeError_1 [.d (.bool u),.d (.int .i64 v),.d (.int .i64 lo),.d (.int .i64 hi)] [] (.d (.bool (outside u v lo hi))) []:=by
 refine fn_dataR hmix k_formula_nodeError_1 (by show 4≤20;decide) ?_
 (repeat' ((conv=>whnf);first|refine vA ?_|((first|refine vF ?_ ?_|refine vI ?_ ?_)<;>intro hc<;>try simp only [vL] at hc)|refine vZ ?_));all_goals try conv=>whnf
 all_goals (cases u<;>simp_all [outside]<;>omega)
def nErrB (ok ux uy fa ag ev gr:Bool) (n:Nd) (at_:Int):Int :=
 if ok=false then 10 else
 if opdOk ux n.x at_=false∨opdOk uy n.y at_=false then 3 else
 if (!(fa||ag||ev)&&decide (n.i≠0)||(!ev&&decide (n.e≠0))||(!gr&&decide (n.g≠0)))=true then 3 else
 if (outside fa n.i 0 7||outside ag n.i 0 3||outside ev n.i 0 7||outside ev n.e 0 7||outside gr n.g 1 15)=true then 2 else 0
set_option maxHeartbeats 40000000 in
theorem fn_nodeErrB (ok ux uy fa ag ev gr:Bool) (fr:Int) (n:Nd) (a:Int) (hu:Fn Tryz.prog T f_formula_uses [.d (.int .i64 n.op)] [] (.d (.tup [.agg [.bool ux,.bool uy,.bool fa,.bool ag,.bool gr,.bool ev,.int .i64 fr],.bool ok])) []) :
  Fn Tryz.prog T f_formula_nodeError [.d (dNd n),.d (.int .i64 a)] [] (.d (.int .i64 (nErrB ok ux uy fa ag ev gr n a))) []:=by
 refine fn_dataR hmix k_formula_nodeError (by show 2≤106;decide) ?_
 (repeat' ((conv=>whnf);first|refine vA ?_|refine vE ?_|((first|refine vD ?_ ?_|refine vI ?_ ?_)<;>intro hc)|refine vX ?_|refine yD hu (by (repeat refine ⟨⟨rfl,rfl⟩,?_⟩);rfl) rfl ?_|refine yD (fn_operand _ _ _) ⟨⟨rfl,rfl⟩,⟨rfl,rfl⟩,⟨rfl,rfl⟩,rfl⟩ rfl ?_|refine yD (fn_outside _ _ _ _) (by (repeat refine ⟨⟨rfl,rfl⟩,?_⟩);rfl) rfl ?_));all_goals try conv=>whnf
 all_goals (clear hu;simp_all [nErrB])
theorem fn_nodeError (n:Nd) (a:Int):Fn Tryz.prog T f_formula_nodeError [.d (dNd n),.d (.int .i64 a)] [] (.d (.int .i64 (nErr n a))) []:=by
 exact fn_nodeErrB _ _ _ _ _ _ _ _ n a (fn_uses n.op)
theorem fn_fCheck (f:List Nd):Fn Tryz.prog T f_formula_Check [.d (dF f)] [] (.d (.int .i64 (fErr f))) []:=by
 refine fn_dataR hmix k_formula_Check (by show 1≤26;decide) ?_
 (repeat' ((conv=>whnf);first|refine vA ?_|(refine vF ?_ ?_<;>intro hc<;>try simp only [vL] at hc)|refine vJ fun hg=>?_|refine vX ?_));all_goals try conv=>whnf
 ·simp_all [fErr]
 ·rw [fErr,if_neg (by omega),if_pos (by omega)]
 ·have h0 : ¬f.length=0:=by omega
  refine loop_intro (fun (k:Nat)=>[(12,.d (dF f)),(13,.d (.int .i64 ((f.map dNd).length:Int))),(14,.d (.int .i64 ((k:Int))))]) (fun (k:Nat)=>k≤f.length∧fErr f=fErrGo (f.drop k) k) (fun (k:Nat)=>f.length - k) (0) (⟨by simp,by rw [fErr,if_neg (by omega),if_neg (by omega)];rfl⟩) (by (repeat' first|exact trivial|exact rfl|refine And.intro ?_ ?_)) ?_
  rintro k ⟨hk,hI⟩
  (repeat' ((conv=>whnf);first|refine vA ?_|((first|refine vD ?_ ?_|refine vF ?_ ?_)<;>intro hc<;>try simp only [vL] at hc)|(refine vQ ?_ fun x hx=>?_;·omega)|(refine vO ?_ ?_;·omega)|refine vX ?_|refine yD (fn_nodeError _ _) ⟨⟨rfl,rfl⟩,⟨rfl,rfl⟩,rfl⟩ rfl ?_));all_goals try conv=>whnf
  ·rw [hI,drop_cons hx,fErrGo,if_pos hc]
  ·exact ⟨k+1,[],[],⟨by (omega),by rw [hI,drop_cons hx,fErrGo,if_neg (by simpa using hc)]⟩,by (omega),by (refine ⟨rfl,rfl,rfl,?_,?_⟩;repeat' first|exact trivial|exact rfl|refine And.intro ?_ ?_)⟩
  ·rw [hI,List.drop_eq_nil_of_le (by omega)];rfl
end Go.Ab
namespace Go.Ab
open Go Go.Proofs
set_option linter.unusedSimpArgs false
set_option linter.unusedVariables false
set_option maxRecDepth 10000
set_option maxHeartbeats 4000000
variable {T:Nat→Obj→Prop}
abbrev dDone (d:List (Nat×Nat)):List (D×D):=d.map fun p=>(D.int .i64 (p.1:Int),D.int .i64 (p.2:Int))
def dNum (l:List Nd) (k:Nat):List (D×D):=match l with
 | []=>[]
 | n::r=>(dNd n,.int .i64 (k:Int))::dNum r (k+1)
theorem same_nd (a b:Nd):D.eqk (dNd a) (dNd b)=some (decide (a=b)):=by
 obtain ⟨a1,a2,a3,a4,a5,a6⟩:=a
 obtain ⟨b1,b2,b3,b4,b5,b6⟩:=b
 show some (decide (a1=b1)&&(decide (a2=b2)&&(decide (a3=b3)&&(decide (a4=b4)&&(decide (a5=b5)&&(decide (a6=b6)&&true))))))=_
 simp only [Nd.mk.injEq,Bool.decide_and,Bool.and_true]
theorem find_done (d:List (Nat×Nat)) (i:Nat):findD (dDone d) (.int .i64 (i:Int))=some ((d.lookup i).map fun r=>D.int .i64 (r:Int)):=by
 induction d with
 | nil=>rfl
 | cons p d ih =>
  obtain ⟨a,b⟩:=p
  show (match some (decide ((i:Int)=(a:Int))) with
   | some true=>some (some (D.int .i64 (b:Int)))
   | some false=>findD (dDone d) (.int .i64 (i:Int))
   | none=>none)=_
  by_cases h:i=a
  ·subst h;simp [List.lookup]
  ·have h1:decide ((i:Int)=(a:Int))=false:=by simp only [decide_eq_false_iff_not];omega
   have h2:(i==a)=false:=by simpa using h
   rw [h1]
   simp only [List.lookup,h2]
   exact ih
theorem find_num (x:Nd) : ∀ (l:List Nd) (k:Nat),findD (dNum l k) (dNd x)=some ((l.idxOf? x).map fun r=>D.int .i64 ((k+r:Nat):Int))
 | [],k=>rfl
 | n::r,k=>by
  have ih:=find_num x r (k+1)
  show (match D.eqk (dNd x) (dNd n) with
   | some true=>some (some (D.int .i64 (k:Int)))
   | some false=>findD (dNum r (k+1)) (dNd x)
   | none=>none)=_
  rw [same_nd]
  by_cases h:x=n
  ·subst h;simp [List.idxOf?,List.findIdx?_cons]
  ·have h2:(n==x)=false:=by simpa using fun e=>h e.symm
   simp only [h,decide_false,ih,List.idxOf?,List.findIdx?_cons,h2]
   cases r.findIdx? (· == x) with
   | none=>rfl
   | some j=>simp;omega
theorem dNum_append (x:Nd) : ∀ (l:List Nd) (k:Nat),dNum (l++[x]) k=dNum l k++[(dNd x,.int .i64 ((k+l.length:Nat):Int))]
 | [],k=>rfl
 | n::r,k=>by
  show (dNd n,D.int .i64 (k:Int))::dNum (r++[x]) (k+1)=_
  rw [dNum_append x r (k+1),show k+1+r.length=k+(n::r).length by simp;omega]
  rfl
theorem dNum_append' (x:Nd) (l:List Nd):dNum (l++[x]) 0=dNum l 0++[(dNd x,.int .i64 (((l.map dNd).length:Nat):Int))]:=by
 rw [dNum_append,List.length_map,Nat.zero_add]
abbrev finFn:V := .fn f_formula_compact_1 [.ptr 0 0,.ptr 1 0,.ptr 2 0,.ptr 3 0,.ptr 4 0]
abbrev finOb (f:List Nd) (out:V) (s:FSt):List Ob:=[.box [.map 5],.box [.d (dF f)],.box [finFn],.box [.map 6],.box [out],.map (dDone s.done),.map (dNum s.out 0)]
abbrev finVs (i:Int):List V:=[.d (.int .i64 i),.ptr 0 0,.ptr 1 0,.ptr 2 0,.ptr 3 0,.ptr 4 0]
abbrev finUp (f:List Nd) (s:FSt):List (Option Ob):=[some (.box [.map 5]),some (.box [.d (dF f)]),some (.box [finFn]),some (.box [.map 6]),some (.box [.own 8]),some (.map (dDone s.done)),some (.map (dNum s.out 0)),none,some (.row 6 (s.out.map dNd))]
abbrev finUp0 (f:List Nd) (s:FSt):List (Option Ob):=[some (.box [.map 5]),some (.box [.d (dF f)]),some (.box [finFn]),some (.box [.map 6]),some (.box [.own 7]),some (.map (dDone s.done)),some (.map (dNum s.out 0)),some (.row 6 (s.out.map dNd))]
theorem uses_of {op:Int} {x y:Bool} (hx:useX op=x) (hy:useY op=y):Fn Tryz.prog T f_formula_uses [.d (.int .i64 op)] [] (.d (.tup [.agg [.bool x,.bool y,.bool (useFact op),.bool (useAgent op),.bool (useGroup op),.bool (useEvent op),.int .i64 (fragOf op)],.bool (isOp op)])) []:=by
 subst hx;subst hy
 exact fn_uses op
theorem dDone_append (d:List (Nat×Nat)) (i r:Nat):dDone (d++[(i,r)])=dDone d++[(.int .i64 (i:Int),.int .i64 (r:Int))]:=by simp
theorem find_num_some {x:Nd} {l:List Nd} {j:Nat} (h:l.idxOf? x=some j):findD (dNum l 0) (dNd x)=some (some (.int .i64 (j:Int))):=by
 rw [find_num,h];simp
theorem find_num_none {x:Nd} {l:List Nd} (h:l.idxOf? x=none):findD (dNum l 0) (dNd x)=some none:=by
 rw [find_num,h];rfl
theorem find_done_none {d:List (Nat×Nat)} {i:Nat} (h:d.lookup i=none):findD (dDone d) (.int .i64 (i:Int))=some none:=by
 rw [find_done,h];rfl
theorem fin_ff {f:List Nd} (hf:Okay f) {k:Nat} {s:FSt} (hk:k < f.length) (hd:s.done.lookup k=none) (hx:useX (f.getD k default).op=false) (hy:useY (f.getD k default).op=false) :
  fin f (k+1) k s=((put s.out (f.getD k default)).1,⟨(put s.out (f.getD k default)).2,s.done++[(k,(put s.out (f.getD k default)).1)]⟩):=by
 have hn:=nErr_iff.1 (okay_at hf hk)
 rw [fin,hd]
 simp only [hx,hy,cond_false]
 have e0:(((f.getD k default).y.toNat:Nat):Int)=(f.getD k default).y:=by rw [hn.2.2.2.2 hy];rfl
 have e1:(((f.getD k default).x.toNat:Nat):Int)=(f.getD k default).x:=by rw [hn.2.2.1 hx];rfl
 rw [e0,e1]
theorem fin_tf {f:List Nd} (hf:Okay f) {k:Nat} {s:FSt} (hk:k < f.length) (hd:s.done.lookup k=none) {n:Nd} (hn:f.getD k default=n) (hx:useX n.op=true) (hy:useY n.op=false) {r:Nat} {s1:FSt} (h1:fin f (n.x.toNat+1) n.x.toNat s=(r,s1)) :
  fin f (k+1) k s=((put s1.out ⟨n.op,n.i,n.e,n.g,(r:Int),n.y⟩).1,⟨(put s1.out ⟨n.op,n.i,n.e,n.g,(r:Int),n.y⟩).2,s1.done++[(k,(put s1.out ⟨n.op,n.i,n.e,n.g,(r:Int),n.y⟩).1)]⟩):=by
 subst hn
 have hn:=nErr_iff.1 (okay_at hf hk)
 have e1:=okay_x hf hk hx
 rw [fin,hd]
 simp only [hx,hy,cond_false,cond_true]
 rw [fin_fuel hf k ((f.getD k default).x.toNat+1) _ _ (by omega) (by omega) (by omega),h1]
 have e0:(((f.getD k default).y.toNat:Nat):Int)=(f.getD k default).y:=by rw [hn.2.2.2.2 hy];rfl
 simp only [e0]
theorem fin_tt {f:List Nd} (hf:Okay f) {k:Nat} {s:FSt} (hk:k < f.length) (hd:s.done.lookup k=none) {n:Nd} (hn:f.getD k default=n) (hx:useX n.op=true) (hy:useY n.op=true) {r r2:Nat} {s1 s2:FSt} (h1:fin f (n.x.toNat+1) n.x.toNat s=(r,s1)) (h2:fin f (n.y.toNat+1) n.y.toNat s1=(r2,s2)) :
  fin f (k+1) k s=((put s2.out ⟨n.op,n.i,n.e,n.g,(r:Int),(r2:Int)⟩).1,⟨(put s2.out ⟨n.op,n.i,n.e,n.g,(r:Int),(r2:Int)⟩).2,s2.done++[(k,(put s2.out ⟨n.op,n.i,n.e,n.g,(r:Int),(r2:Int)⟩).1)]⟩):=by
 subst hn
 have e1:=okay_x hf hk hx
 have e2:=okay_y hf hk hy
 rw [fin,hd]
 simp only [hx,hy,cond_true]
 rw [fin_fuel hf k ((f.getD k default).x.toNat+1) (f.getD k default).x.toNat s (by omega) (by omega) (by omega),h1]
 simp only
 rw [fin_fuel hf k ((f.getD k default).y.toNat+1) (f.getD k default).y.toNat s1 (by omega) (by omega) (by omega),h2]
theorem fin_lookup {f:List Nd} (hf:Okay f) {j k:Nat} {s:FSt} (hj:j < k) (hjf:j < f.length) (hs:FInv f s) (hd:s.done.lookup k=none):FInv f (fin f (j+1) j s).2∧(fin f (j+1) j s).2.done.lookup k=none:=by
 obtain ⟨h1,h2,h3,l,h4,h5⟩:=fin_spec hf (j+1) j s (by omega) hjf hs
 refine ⟨h1,?_⟩
 rw [h4]
 exact lookup_none fun p hp=>by
  rcases List.mem_append.1 hp with hp|hp
  ·exact lookup_not hd p hp
  ·have:=h5 p hp;omega
theorem fin_len {f:List Nd} {s:FSt} (hs:FInv f s):s.out.length≤f.length:=by
 have h1:=hs.len
 have h2:=fnodup_le hs.keys (n:=f.length) (fun x hx=>by obtain ⟨p,hp,rfl⟩:=List.mem_map.1 hx;exact hs.rng p hp)
 rw [List.length_map] at h2
 omega
theorem CallS.objsE {P:Program} {M:Nat→Option Ob} {n f:Nat} {vs lvs:List V} {obs:List Ob} {y:D} {obs':List (Option Ob)} {K:V→Upd→Nat→Prop} (js:List Nat) (hf:Fn P T f lvs obs (.d y) obs') (ha:VPasses M js [] 20 lvs vs)
  (ho:ObPasses M js [] obs js) (hnd:nodup js=true) (hsj:subl js (valReach M vs)=true) (hle:js.length≤obs'.length) (u:Upd) (hu:callU js [] n obs' false=u)
  (hK:K (.d y) u (obs'.length - js.length)):CallS (CallC P T) M n f vs K := .objs js hf ha ho hnd hsj hle (by rw [hu];exact hK)
end Go.Ab
namespace Go.Ab
open Go Go.Proofs
set_option linter.unusedSimpArgs false
set_option linter.unusedVariables false
set_option maxRecDepth 10000
set_option maxHeartbeats 4000000
set_option maxHeartbeats 40000000
variable {T:Nat→Obj→Prop}
theorem finA0f {f:List Nd} (hL:f.length≤1000) {k:Nat} {n:Nd} (hn:f[k]? = some n) {s:FSt} (hl:s.out.length≤1000) (hfd:findD (dDone (FSt.done s)) (.int .i64 (k:Int))=some none) (hu:Fn Tryz.prog T f_formula_uses [.d (.int .i64 n.op)] [] (.d (.tup [.agg [.bool false,.bool false,.bool (useFact n.op),.bool (useAgent n.op),.bool (useGroup n.op),.bool (useEvent n.op),.int .i64 (fragOf n.op)],.bool (isOp n.op)])) []) {j:Nat} (hfn:findD (dNum (FSt.out s) 0) (dNd n)=some (some (.int .i64 (j:Int)))) :
  Fn Tryz.prog T f_formula_compact_1 (finVs (k:Int)) (finOb f (.own 7) s++[.row 6 (s.out.map dNd)]) (.d (.int .i64 (j:Int))) [some (.box [.map 5]),some (.box [.d (dF f)]),some (.box [finFn]),some (.box [.map 6]),some (.box [.own 8]),some (.map (dDone (FSt.done s)++[(.int .i64 (k:Int),.int .i64 (j:Int))])),some (.map (dNum (FSt.out s) 0)),none,some (.row 6 ((FSt.out s).map dNd))]:=by
 refine fn_introR hmix k_formula_compact_1 (by show 6≤68;decide) _ (fun e env mem n h=>h) ?_
 (repeat' ((conv=>whnf);first|refine vA ?_|refine vE ?_|refine vG ?_|refine vH ?_|refine vN ‹_› ?_|refine yD hu (by (repeat refine ⟨⟨rfl,rfl⟩,?_⟩);rfl) rfl ?_|refine FindS.mk _ ‹_› ?_));all_goals try conv=>whnf
 refine ⟨trivial,_,[(0,0),(1,1),(2,2),(3,3),(4,4),(5,5),(6,6),(8,7)],[],rfl,.inl (by (repeat' exact rfl)),⟨by rfl,by rfl,by rfl,trivial,by (repeat' first|exact trivial|exact rfl|refine And.intro ?_ ?_|refine ⟨_,rfl,?_⟩|exact of_decide_eq_true rfl)⟩,by (repeat' first|exact trivial|exact rfl|refine And.intro ?_ ?_|refine ⟨_,rfl,?_⟩)⟩
theorem finA0n {f:List Nd} (hL:f.length≤1000) {k:Nat} {n:Nd} (hn:f[k]? = some n) {s:FSt} (hl:s.out.length≤1000) (hfd:findD (dDone (FSt.done s)) (.int .i64 (k:Int))=some none) (hu:Fn Tryz.prog T f_formula_uses [.d (.int .i64 n.op)] [] (.d (.tup [.agg [.bool false,.bool false,.bool (useFact n.op),.bool (useAgent n.op),.bool (useGroup n.op),.bool (useEvent n.op),.int .i64 (fragOf n.op)],.bool (isOp n.op)])) []) (hfn:findD (dNum (FSt.out s) 0) (dNd n)=some none) :
  Fn Tryz.prog T f_formula_compact_1 (finVs (k:Int)) (finOb f (.own 7) s++[.row 6 (s.out.map dNd)]) (.d (.int .i64 ((((FSt.out s).map dNd).length:Nat):Int))) [some (.box [.map 5]),some (.box [.d (dF f)]),some (.box [finFn]),some (.box [.map 6]),some (.box [.own 8]),some (.map (dDone (FSt.done s)++[(.int .i64 (k:Int),.int .i64 ((((FSt.out s).map dNd).length:Nat):Int))])),some (.map (dNum (FSt.out s) 0++[(dNd n,.int .i64 ((((FSt.out s).map dNd).length:Nat):Int))])),none,some (.row 6 ((FSt.out s).map dNd++[dNd n]))]:=by
 refine fn_introR hmix k_formula_compact_1 (by show 6≤68;decide) _ (fun e env mem n h=>h) ?_
 (repeat' ((conv=>whnf);first|refine vA ?_|refine vH ?_|refine vJ fun hg=>?_|refine vN ‹_› ?_|(refine vP ?_ ?_;·(simp only [vM] at *;omega))|refine yD hu (by (repeat refine ⟨⟨rfl,rfl⟩,?_⟩);rfl) rfl ?_|refine FindS.mk _ ‹_› ?_));all_goals try conv=>whnf
 refine ⟨trivial,_,[(0,0),(1,1),(2,2),(3,3),(4,4),(5,5),(6,6),(8,11)],[],rfl,.inl (by (repeat' exact rfl)),⟨by rfl,by rfl,by rfl,trivial,by (repeat' first|exact trivial|exact rfl|refine And.intro ?_ ?_|refine ⟨_,rfl,?_⟩|exact of_decide_eq_true rfl)⟩,by (repeat' first|exact trivial|exact rfl|refine And.intro ?_ ?_|refine ⟨_,rfl,?_⟩)⟩
end Go.Ab
namespace Go.Ab
open Go Go.Proofs
set_option linter.unusedSimpArgs false
set_option linter.unusedVariables false
set_option maxRecDepth 10000
set_option maxHeartbeats 4000000
set_option maxHeartbeats 40000000
variable {T:Nat→Obj→Prop}
theorem finA1f {f:List Nd} (hL:f.length≤1000) {k:Nat} {n:Nd} (hn:f[k]? = some n) {s:FSt} (hl:s.out.length≤1000) (hfd:findD (dDone (FSt.done s)) (.int .i64 (k:Int))=some none) (hu:Fn Tryz.prog T f_formula_uses [.d (.int .i64 n.op)] [] (.d (.tup [.agg [.bool true,.bool false,.bool (useFact n.op),.bool (useAgent n.op),.bool (useGroup n.op),.bool (useEvent n.op),.int .i64 (fragOf n.op)],.bool (isOp n.op)])) []) {r1:Nat} {s1:FSt} (hl1:s1.out.length≤1000) (c1:Fn Tryz.prog T f_formula_compact_1 (finVs n.x) (finOb f (.own 7) s++[.row 6 (s.out.map dNd)]) (.d (.int .i64 (r1:Int))) (finUp f s1)) (hfd1:findD (dDone s1.done) (.int .i64 (k:Int))=some none) {j:Nat} (hfn:findD (dNum s1.out 0) (dNd ⟨n.op,n.i,n.e,n.g,(r1:Int),n.y⟩)=some (some (.int .i64 (j:Int)))) :
  Fn Tryz.prog T f_formula_compact_1 (finVs (k:Int)) (finOb f (.own 7) s++[.row 6 (s.out.map dNd)]) (.d (.int .i64 (j:Int))) [some (.box [.map 5]),some (.box [.d (dF f)]),some (.box [finFn]),some (.box [.map 6]),some (.box [.own 8]),some (.map (dDone s1.done++[(.int .i64 (k:Int),.int .i64 (j:Int))])),some (.map (dNum s1.out 0)),none,some (.row 6 (s1.out.map dNd))]:=by
 refine fn_introR hmix k_formula_compact_1 (by show 6≤68;decide) _ (fun e env mem n h=>h) ?_
 (repeat' ((conv=>whnf);first|refine vA ?_|refine vG ?_|refine vN ‹_› ?_|refine yD hu (by (repeat refine ⟨⟨rfl,rfl⟩,?_⟩);rfl) rfl ?_|refine FindS.mk _ ‹_› ?_));all_goals try conv=>whnf
 refine CallS.objsE [0,1,2,3,4,5,6,7] (c1) (by (repeat' first|exact rfl|refine And.intro ?_ ?_|refine ⟨_,rfl,?_⟩)) (by (repeat' first|exact rfl|refine And.intro ?_ ?_|refine ⟨_,rfl,?_⟩)) (by rfl) (by kernel_rfl) (by simp) [(0,some (.box [.map 5])),(1,some (.box [.d (dF f)])),(2,some (.box [finFn])),(3,some (.box [.map 6])),(4,some (.box [.own 10])),(5,some (.map (dDone s1.done))),(6,some (.map (dNum s1.out 0))),(7,none),(10,some (.row 6 (s1.out.map dNd)))] rfl ?_
 (repeat' ((conv=>whnf);first|refine vA ?_|refine vE ?_|refine vG ?_|refine vH ?_|refine FindS.mk _ ‹_› ?_));all_goals try conv=>whnf
 refine ⟨trivial,_,[(0,0),(1,1),(2,2),(3,3),(4,4),(5,5),(6,6),(8,10)],[],rfl,.inl (by (repeat' exact rfl)),⟨by rfl,by rfl,by rfl,trivial,by (repeat' first|exact trivial|exact rfl|refine And.intro ?_ ?_|refine ⟨_,rfl,?_⟩|exact of_decide_eq_true rfl)⟩,by (repeat' first|exact trivial|exact rfl|refine And.intro ?_ ?_|refine ⟨_,rfl,?_⟩)⟩
theorem finA1n {f:List Nd} (hL:f.length≤1000) {k:Nat} {n:Nd} (hn:f[k]? = some n) {s:FSt} (hl:s.out.length≤1000) (hfd:findD (dDone (FSt.done s)) (.int .i64 (k:Int))=some none) (hu:Fn Tryz.prog T f_formula_uses [.d (.int .i64 n.op)] [] (.d (.tup [.agg [.bool true,.bool false,.bool (useFact n.op),.bool (useAgent n.op),.bool (useGroup n.op),.bool (useEvent n.op),.int .i64 (fragOf n.op)],.bool (isOp n.op)])) []) {r1:Nat} {s1:FSt} (hl1:s1.out.length≤1000) (c1:Fn Tryz.prog T f_formula_compact_1 (finVs n.x) (finOb f (.own 7) s++[.row 6 (s.out.map dNd)]) (.d (.int .i64 (r1:Int))) (finUp f s1)) (hfd1:findD (dDone s1.done) (.int .i64 (k:Int))=some none) (hfn:findD (dNum s1.out 0) (dNd ⟨n.op,n.i,n.e,n.g,(r1:Int),n.y⟩)=some none) :
  Fn Tryz.prog T f_formula_compact_1 (finVs (k:Int)) (finOb f (.own 7) s++[.row 6 (s.out.map dNd)]) (.d (.int .i64 (((s1.out.map dNd).length:Nat):Int))) [some (.box [.map 5]),some (.box [.d (dF f)]),some (.box [finFn]),some (.box [.map 6]),some (.box [.own 8]),some (.map (dDone s1.done++[(.int .i64 (k:Int),.int .i64 (((s1.out.map dNd).length:Nat):Int))])),some (.map (dNum s1.out 0++[(dNd ⟨n.op,n.i,n.e,n.g,(r1:Int),n.y⟩,.int .i64 (((s1.out.map dNd).length:Nat):Int))])),none,some (.row 6 (s1.out.map dNd++[dNd ⟨n.op,n.i,n.e,n.g,(r1:Int),n.y⟩]))]:=by
 refine fn_introR hmix k_formula_compact_1 (by show 6≤68;decide) _ (fun e env mem n h=>h) ?_
 (repeat' ((conv=>whnf);first|refine vA ?_|refine vG ?_|refine vN ‹_› ?_|refine yD hu (by (repeat refine ⟨⟨rfl,rfl⟩,?_⟩);rfl) rfl ?_|refine FindS.mk _ ‹_› ?_));all_goals try conv=>whnf
 refine CallS.objsE [0,1,2,3,4,5,6,7] (c1) (by (repeat' first|exact rfl|refine And.intro ?_ ?_|refine ⟨_,rfl,?_⟩)) (by (repeat' first|exact rfl|refine And.intro ?_ ?_|refine ⟨_,rfl,?_⟩)) (by rfl) (by kernel_rfl) (by simp) [(0,some (.box [.map 5])),(1,some (.box [.d (dF f)])),(2,some (.box [finFn])),(3,some (.box [.map 6])),(4,some (.box [.own 10])),(5,some (.map (dDone s1.done))),(6,some (.map (dNum s1.out 0))),(7,none),(10,some (.row 6 (s1.out.map dNd)))] rfl ?_
 (repeat' ((conv=>whnf);first|refine vA ?_|refine vH ?_|refine vJ fun hg=>?_|(refine vP ?_ ?_;·(simp only [vM] at *;omega))|refine FindS.mk _ ‹_› ?_));all_goals try conv=>whnf
 refine ⟨trivial,_,[(0,0),(1,1),(2,2),(3,3),(4,4),(5,5),(6,6),(8,12)],[],rfl,.inl (by (repeat' exact rfl)),⟨by rfl,by rfl,by rfl,trivial,by (repeat' first|exact trivial|exact rfl|refine And.intro ?_ ?_|refine ⟨_,rfl,?_⟩|exact of_decide_eq_true rfl)⟩,by (repeat' first|exact trivial|exact rfl|refine And.intro ?_ ?_|refine ⟨_,rfl,?_⟩)⟩
end Go.Ab
namespace Go.Ab
open Go Go.Proofs
set_option linter.unusedSimpArgs false
set_option linter.unusedVariables false
set_option maxRecDepth 10000
set_option maxHeartbeats 4000000
set_option maxHeartbeats 40000000
variable {T:Nat→Obj→Prop}
theorem finA2f {f:List Nd} (hL:f.length≤1000) {k:Nat} {n:Nd} (hn:f[k]? = some n) {s:FSt} (hl:s.out.length≤1000) (hfd:findD (dDone (FSt.done s)) (.int .i64 (k:Int))=some none) (hu:Fn Tryz.prog T f_formula_uses [.d (.int .i64 n.op)] [] (.d (.tup [.agg [.bool true,.bool true,.bool (useFact n.op),.bool (useAgent n.op),.bool (useGroup n.op),.bool (useEvent n.op),.int .i64 (fragOf n.op)],.bool (isOp n.op)])) []) {r1:Nat} {s1:FSt} (hl1:s1.out.length≤1000) (c1:Fn Tryz.prog T f_formula_compact_1 (finVs n.x) (finOb f (.own 7) s++[.row 6 (s.out.map dNd)]) (.d (.int .i64 (r1:Int))) (finUp f s1)) (hfd1:findD (dDone s1.done) (.int .i64 (k:Int))=some none) {r2:Nat} {s2:FSt} (hl2:s2.out.length≤1000) (c2:Fn Tryz.prog T f_formula_compact_1 (finVs n.y) (finOb f (.own 7) s1++[.row 6 (s1.out.map dNd)]) (.d (.int .i64 (r2:Int))) (finUp f s2)) (hfd2:findD (dDone s2.done) (.int .i64 (k:Int))=some none) {j:Nat} (hfn:findD (dNum s2.out 0) (dNd ⟨n.op,n.i,n.e,n.g,(r1:Int),(r2:Int)⟩)=some (some (.int .i64 (j:Int)))) :
  Fn Tryz.prog T f_formula_compact_1 (finVs (k:Int)) (finOb f (.own 7) s++[.row 6 (s.out.map dNd)]) (.d (.int .i64 (j:Int))) [some (.box [.map 5]),some (.box [.d (dF f)]),some (.box [finFn]),some (.box [.map 6]),some (.box [.own 8]),some (.map (dDone s2.done++[(.int .i64 (k:Int),.int .i64 (j:Int))])),some (.map (dNum s2.out 0)),none,some (.row 6 (s2.out.map dNd))]:=by
 refine fn_introR hmix k_formula_compact_1 (by show 6≤68;decide) _ (fun e env mem n h=>h) ?_
 (repeat' ((conv=>whnf);first|refine vA ?_|refine vG ?_|refine vN ‹_› ?_|refine yD hu (by (repeat refine ⟨⟨rfl,rfl⟩,?_⟩);rfl) rfl ?_|refine FindS.mk _ ‹_› ?_));all_goals try conv=>whnf
 refine CallS.objsE [0,1,2,3,4,5,6,7] (c1) (by (repeat' first|exact rfl|refine And.intro ?_ ?_|refine ⟨_,rfl,?_⟩)) (by (repeat' first|exact rfl|refine And.intro ?_ ?_|refine ⟨_,rfl,?_⟩)) (by rfl) (by kernel_rfl) (by simp) [(0,some (.box [.map 5])),(1,some (.box [.d (dF f)])),(2,some (.box [finFn])),(3,some (.box [.map 6])),(4,some (.box [.own 10])),(5,some (.map (dDone s1.done))),(6,some (.map (dNum s1.out 0))),(7,none),(10,some (.row 6 (s1.out.map dNd)))] rfl ?_
 (repeat' ((conv=>whnf);first|refine vA ?_|refine vG ?_));all_goals try conv=>whnf
 refine CallS.objsE [0,1,2,3,4,5,6,10] (c2) (by (repeat' first|exact rfl|refine And.intro ?_ ?_|refine ⟨_,rfl,?_⟩)) (by (repeat' first|exact rfl|refine And.intro ?_ ?_|refine ⟨_,rfl,?_⟩)) (by rfl) (by kernel_rfl) (by simp) [(0,some (.box [.map 5])),(1,some (.box [.d (dF f)])),(2,some (.box [finFn])),(3,some (.box [.map 6])),(4,some (.box [.own 11])),(5,some (.map (dDone s2.done))),(6,some (.map (dNum s2.out 0))),(10,none),(11,some (.row 6 (s2.out.map dNd)))] rfl ?_
 (repeat' ((conv=>whnf);first|refine vA ?_|refine vE ?_|refine vG ?_|refine FindS.mk _ ‹_› ?_));all_goals try conv=>whnf
 refine ⟨trivial,_,[(0,0),(1,1),(2,2),(3,3),(4,4),(5,5),(6,6),(8,11)],[],rfl,.inl (by (repeat' exact rfl)),⟨by rfl,by rfl,by rfl,trivial,by (repeat' first|exact trivial|exact rfl|refine And.intro ?_ ?_|refine ⟨_,rfl,?_⟩|exact of_decide_eq_true rfl)⟩,by (repeat' first|exact trivial|exact rfl|refine And.intro ?_ ?_|refine ⟨_,rfl,?_⟩)⟩
theorem finA2n {f:List Nd} (hL:f.length≤1000) {k:Nat} {n:Nd} (hn:f[k]? = some n) {s:FSt} (hl:s.out.length≤1000) (hfd:findD (dDone (FSt.done s)) (.int .i64 (k:Int))=some none) (hu:Fn Tryz.prog T f_formula_uses [.d (.int .i64 n.op)] [] (.d (.tup [.agg [.bool true,.bool true,.bool (useFact n.op),.bool (useAgent n.op),.bool (useGroup n.op),.bool (useEvent n.op),.int .i64 (fragOf n.op)],.bool (isOp n.op)])) []) {r1:Nat} {s1:FSt} (hl1:s1.out.length≤1000) (c1:Fn Tryz.prog T f_formula_compact_1 (finVs n.x) (finOb f (.own 7) s++[.row 6 (s.out.map dNd)]) (.d (.int .i64 (r1:Int))) (finUp f s1)) (hfd1:findD (dDone s1.done) (.int .i64 (k:Int))=some none) {r2:Nat} {s2:FSt} (hl2:s2.out.length≤1000) (c2:Fn Tryz.prog T f_formula_compact_1 (finVs n.y) (finOb f (.own 7) s1++[.row 6 (s1.out.map dNd)]) (.d (.int .i64 (r2:Int))) (finUp f s2)) (hfd2:findD (dDone s2.done) (.int .i64 (k:Int))=some none) (hfn:findD (dNum s2.out 0) (dNd ⟨n.op,n.i,n.e,n.g,(r1:Int),(r2:Int)⟩)=some none) :
  Fn Tryz.prog T f_formula_compact_1 (finVs (k:Int)) (finOb f (.own 7) s++[.row 6 (s.out.map dNd)]) (.d (.int .i64 (((s2.out.map dNd).length:Nat):Int))) [some (.box [.map 5]),some (.box [.d (dF f)]),some (.box [finFn]),some (.box [.map 6]),some (.box [.own 8]),some (.map (dDone s2.done++[(.int .i64 (k:Int),.int .i64 (((s2.out.map dNd).length:Nat):Int))])),some (.map (dNum s2.out 0++[(dNd ⟨n.op,n.i,n.e,n.g,(r1:Int),(r2:Int)⟩,.int .i64 (((s2.out.map dNd).length:Nat):Int))])),none,some (.row 6 (s2.out.map dNd++[dNd ⟨n.op,n.i,n.e,n.g,(r1:Int),(r2:Int)⟩]))]:=by
 refine fn_introR hmix k_formula_compact_1 (by show 6≤68;decide) _ (fun e env mem n h=>h) ?_
 (repeat' ((conv=>whnf);first|refine vA ?_|refine vG ?_|refine vN ‹_› ?_|refine yD hu (by (repeat refine ⟨⟨rfl,rfl⟩,?_⟩);rfl) rfl ?_|refine FindS.mk _ ‹_› ?_));all_goals try conv=>whnf
 refine CallS.objsE [0,1,2,3,4,5,6,7] (c1) (by (repeat' first|exact rfl|refine And.intro ?_ ?_|refine ⟨_,rfl,?_⟩)) (by (repeat' first|exact rfl|refine And.intro ?_ ?_|refine ⟨_,rfl,?_⟩)) (by rfl) (by kernel_rfl) (by simp) [(0,some (.box [.map 5])),(1,some (.box [.d (dF f)])),(2,some (.box [finFn])),(3,some (.box [.map 6])),(4,some (.box [.own 10])),(5,some (.map (dDone s1.done))),(6,some (.map (dNum s1.out 0))),(7,none),(10,some (.row 6 (s1.out.map dNd)))] rfl ?_
 (repeat' ((conv=>whnf);first|refine vA ?_|refine vG ?_));all_goals try conv=>whnf
 refine CallS.objsE [0,1,2,3,4,5,6,10] (c2) (by (repeat' first|exact rfl|refine And.intro ?_ ?_|refine ⟨_,rfl,?_⟩)) (by (repeat' first|exact rfl|refine And.intro ?_ ?_|refine ⟨_,rfl,?_⟩)) (by rfl) (by kernel_rfl) (by simp) [(0,some (.box [.map 5])),(1,some (.box [.d (dF f)])),(2,some (.box [finFn])),(3,some (.box [.map 6])),(4,some (.box [.own 11])),(5,some (.map (dDone s2.done))),(6,some (.map (dNum s2.out 0))),(10,none),(11,some (.row 6 (s2.out.map dNd)))] rfl ?_
 (repeat' ((conv=>whnf);first|refine vA ?_|refine vJ fun hg=>?_|(refine vP ?_ ?_;·(simp only [vM] at *;omega))|refine FindS.mk _ ‹_› ?_));all_goals try conv=>whnf
 refine ⟨trivial,_,[(0,0),(1,1),(2,2),(3,3),(4,4),(5,5),(6,6),(8,13)],[],rfl,.inl (by (repeat' exact rfl)),⟨by rfl,by rfl,by rfl,trivial,by (repeat' first|exact trivial|exact rfl|refine And.intro ?_ ?_|refine ⟨_,rfl,?_⟩|exact of_decide_eq_true rfl)⟩,by (repeat' first|exact trivial|exact rfl|refine And.intro ?_ ?_|refine ⟨_,rfl,?_⟩)⟩
end Go.Ab
namespace Go.Ab
open Go Go.Proofs
set_option linter.unusedSimpArgs false
set_option linter.unusedVariables false
set_option maxRecDepth 10000
set_option maxHeartbeats 4000000
set_option maxHeartbeats 40000000
variable {T:Nat→Obj→Prop}
theorem finB0n {f:List Nd} (hL:f.length≤1000) {k:Nat} {n:Nd} (hn:f[k]? = some n) (hfd:findD (dDone (FSt.done ⟨[],[]⟩)) (.int .i64 (k:Int))=some none) (hu:Fn Tryz.prog T f_formula_uses [.d (.int .i64 n.op)] [] (.d (.tup [.agg [.bool false,.bool false,.bool (useFact n.op),.bool (useAgent n.op),.bool (useGroup n.op),.bool (useEvent n.op),.int .i64 (fragOf n.op)],.bool (isOp n.op)])) []) (hfn:findD (dNum (FSt.out ⟨[],[]⟩) 0) (dNd n)=some none) :
  Fn Tryz.prog T f_formula_compact_1 (finVs (k:Int)) (finOb f (.nils 6) ⟨[],[]⟩) (.d (.int .i64 ((((FSt.out ⟨[],[]⟩).map dNd).length:Nat):Int))) [some (.box [.map 5]),some (.box [.d (dF f)]),some (.box [finFn]),some (.box [.map 6]),some (.box [.own 7]),some (.map (dDone (FSt.done ⟨[],[]⟩)++[(.int .i64 (k:Int),.int .i64 ((((FSt.out ⟨[],[]⟩).map dNd).length:Nat):Int))])),some (.map (dNum (FSt.out ⟨[],[]⟩) 0++[(dNd n,.int .i64 ((((FSt.out ⟨[],[]⟩).map dNd).length:Nat):Int))])),some (.row 6 ((FSt.out ⟨[],[]⟩).map dNd++[dNd n]))]:=by
 refine fn_introR hmix k_formula_compact_1 (by show 6≤68;decide) _ (fun e env mem n h=>h) ?_
 (repeat' ((conv=>whnf);first|refine vA ?_|refine vH ?_|refine vN ‹_› ?_|(refine vP ?_ ?_;·(simp only [vM] at *;omega))|refine yD hu (by (repeat refine ⟨⟨rfl,rfl⟩,?_⟩);rfl) rfl ?_|refine FindS.mk _ ‹_› ?_));all_goals try conv=>whnf
 refine ⟨trivial,_,[(0,0),(1,1),(2,2),(3,3),(4,4),(5,5),(6,6),(7,10)],[],rfl,.inl (by (repeat' exact rfl)),⟨by rfl,by rfl,by rfl,trivial,by (repeat' first|exact trivial|exact rfl|refine And.intro ?_ ?_|refine ⟨_,rfl,?_⟩|exact of_decide_eq_true rfl)⟩,by (repeat' first|exact trivial|exact rfl|refine And.intro ?_ ?_|refine ⟨_,rfl,?_⟩)⟩
end Go.Ab
namespace Go.Ab
open Go Go.Proofs
set_option linter.unusedSimpArgs false
set_option linter.unusedVariables false
set_option maxRecDepth 10000
set_option maxHeartbeats 4000000
set_option maxHeartbeats 40000000
variable {T:Nat→Obj→Prop}
theorem finB1f {f:List Nd} (hL:f.length≤1000) {k:Nat} {n:Nd} (hn:f[k]? = some n) (hfd:findD (dDone (FSt.done ⟨[],[]⟩)) (.int .i64 (k:Int))=some none) (hu:Fn Tryz.prog T f_formula_uses [.d (.int .i64 n.op)] [] (.d (.tup [.agg [.bool true,.bool false,.bool (useFact n.op),.bool (useAgent n.op),.bool (useGroup n.op),.bool (useEvent n.op),.int .i64 (fragOf n.op)],.bool (isOp n.op)])) []) {r1:Nat} {s1:FSt} (hl1:s1.out.length≤1000) (c1:Fn Tryz.prog T f_formula_compact_1 (finVs n.x) (finOb f (.nils 6) ⟨[],[]⟩) (.d (.int .i64 (r1:Int))) (finUp0 f s1)) (hfd1:findD (dDone s1.done) (.int .i64 (k:Int))=some none) {j:Nat} (hfn:findD (dNum s1.out 0) (dNd ⟨n.op,n.i,n.e,n.g,(r1:Int),n.y⟩)=some (some (.int .i64 (j:Int)))) :
  Fn Tryz.prog T f_formula_compact_1 (finVs (k:Int)) (finOb f (.nils 6) ⟨[],[]⟩) (.d (.int .i64 (j:Int))) [some (.box [.map 5]),some (.box [.d (dF f)]),some (.box [finFn]),some (.box [.map 6]),some (.box [.own 7]),some (.map (dDone s1.done++[(.int .i64 (k:Int),.int .i64 (j:Int))])),some (.map (dNum s1.out 0)),some (.row 6 (s1.out.map dNd))]:=by
 refine fn_introR hmix k_formula_compact_1 (by show 6≤68;decide) _ (fun e env mem n h=>h) ?_
 (repeat' ((conv=>whnf);first|refine vA ?_|refine vG ?_|refine vN ‹_› ?_|refine yD hu (by (repeat refine ⟨⟨rfl,rfl⟩,?_⟩);rfl) rfl ?_|refine FindS.mk _ ‹_› ?_));all_goals try conv=>whnf
 refine CallS.objsE [0,1,2,3,4,5,6] (c1) (by (repeat' first|exact rfl|refine And.intro ?_ ?_|refine ⟨_,rfl,?_⟩)) (by (repeat' first|exact rfl|refine And.intro ?_ ?_|refine ⟨_,rfl,?_⟩)) (by rfl) (by kernel_rfl) (by simp) [(0,some (.box [.map 5])),(1,some (.box [.d (dF f)])),(2,some (.box [finFn])),(3,some (.box [.map 6])),(4,some (.box [.own 9])),(5,some (.map (dDone s1.done))),(6,some (.map (dNum s1.out 0))),(9,some (.row 6 (s1.out.map dNd)))] rfl ?_
 (repeat' ((conv=>whnf);first|refine vA ?_|refine vE ?_|refine vG ?_|refine vH ?_|refine FindS.mk _ ‹_› ?_));all_goals try conv=>whnf
 refine ⟨trivial,_,[(0,0),(1,1),(2,2),(3,3),(4,4),(5,5),(6,6),(7,9)],[],rfl,.inl (by (repeat' exact rfl)),⟨by rfl,by rfl,by rfl,trivial,by (repeat' first|exact trivial|exact rfl|refine And.intro ?_ ?_|refine ⟨_,rfl,?_⟩|exact of_decide_eq_true rfl)⟩,by (repeat' first|exact trivial|exact rfl|refine And.intro ?_ ?_|refine ⟨_,rfl,?_⟩)⟩
theorem finB1n {f:List Nd} (hL:f.length≤1000) {k:Nat} {n:Nd} (hn:f[k]? = some n) (hfd:findD (dDone (FSt.done ⟨[],[]⟩)) (.int .i64 (k:Int))=some none) (hu:Fn Tryz.prog T f_formula_uses [.d (.int .i64 n.op)] [] (.d (.tup [.agg [.bool true,.bool false,.bool (useFact n.op),.bool (useAgent n.op),.bool (useGroup n.op),.bool (useEvent n.op),.int .i64 (fragOf n.op)],.bool (isOp n.op)])) []) {r1:Nat} {s1:FSt} (hl1:s1.out.length≤1000) (c1:Fn Tryz.prog T f_formula_compact_1 (finVs n.x) (finOb f (.nils 6) ⟨[],[]⟩) (.d (.int .i64 (r1:Int))) (finUp0 f s1)) (hfd1:findD (dDone s1.done) (.int .i64 (k:Int))=some none) (hfn:findD (dNum s1.out 0) (dNd ⟨n.op,n.i,n.e,n.g,(r1:Int),n.y⟩)=some none) :
  Fn Tryz.prog T f_formula_compact_1 (finVs (k:Int)) (finOb f (.nils 6) ⟨[],[]⟩) (.d (.int .i64 (((s1.out.map dNd).length:Nat):Int))) [some (.box [.map 5]),some (.box [.d (dF f)]),some (.box [finFn]),some (.box [.map 6]),some (.box [.own 7]),some (.map (dDone s1.done++[(.int .i64 (k:Int),.int .i64 (((s1.out.map dNd).length:Nat):Int))])),some (.map (dNum s1.out 0++[(dNd ⟨n.op,n.i,n.e,n.g,(r1:Int),n.y⟩,.int .i64 (((s1.out.map dNd).length:Nat):Int))])),some (.row 6 (s1.out.map dNd++[dNd ⟨n.op,n.i,n.e,n.g,(r1:Int),n.y⟩]))]:=by
 refine fn_introR hmix k_formula_compact_1 (by show 6≤68;decide) _ (fun e env mem n h=>h) ?_
 (repeat' ((conv=>whnf);first|refine vA ?_|refine vG ?_|refine vN ‹_› ?_|refine yD hu (by (repeat refine ⟨⟨rfl,rfl⟩,?_⟩);rfl) rfl ?_|refine FindS.mk _ ‹_› ?_));all_goals try conv=>whnf
 refine CallS.objsE [0,1,2,3,4,5,6] (c1) (by (repeat' first|exact rfl|refine And.intro ?_ ?_|refine ⟨_,rfl,?_⟩)) (by (repeat' first|exact rfl|refine And.intro ?_ ?_|refine ⟨_,rfl,?_⟩)) (by rfl) (by kernel_rfl) (by simp) [(0,some (.box [.map 5])),(1,some (.box [.d (dF f)])),(2,some (.box [finFn])),(3,some (.box [.map 6])),(4,some (.box [.own 9])),(5,some (.map (dDone s1.done))),(6,some (.map (dNum s1.out 0))),(9,some (.row 6 (s1.out.map dNd)))] rfl ?_
 (repeat' ((conv=>whnf);first|refine vA ?_|refine vH ?_|refine vJ fun hg=>?_|(refine vP ?_ ?_;·(simp only [vM] at *;omega))|refine FindS.mk _ ‹_› ?_));all_goals try conv=>whnf
 refine ⟨trivial,_,[(0,0),(1,1),(2,2),(3,3),(4,4),(5,5),(6,6),(7,11)],[],rfl,.inl (by (repeat' exact rfl)),⟨by rfl,by rfl,by rfl,trivial,by (repeat' first|exact trivial|exact rfl|refine And.intro ?_ ?_|refine ⟨_,rfl,?_⟩|exact of_decide_eq_true rfl)⟩,by (repeat' first|exact trivial|exact rfl|refine And.intro ?_ ?_|refine ⟨_,rfl,?_⟩)⟩
end Go.Ab
namespace Go.Ab
open Go Go.Proofs
set_option linter.unusedSimpArgs false
set_option linter.unusedVariables false
set_option maxRecDepth 10000
set_option maxHeartbeats 4000000
set_option maxHeartbeats 40000000
variable {T:Nat→Obj→Prop}
theorem finB2f {f:List Nd} (hL:f.length≤1000) {k:Nat} {n:Nd} (hn:f[k]? = some n) (hfd:findD (dDone (FSt.done ⟨[],[]⟩)) (.int .i64 (k:Int))=some none) (hu:Fn Tryz.prog T f_formula_uses [.d (.int .i64 n.op)] [] (.d (.tup [.agg [.bool true,.bool true,.bool (useFact n.op),.bool (useAgent n.op),.bool (useGroup n.op),.bool (useEvent n.op),.int .i64 (fragOf n.op)],.bool (isOp n.op)])) []) {r1:Nat} {s1:FSt} (hl1:s1.out.length≤1000) (c1:Fn Tryz.prog T f_formula_compact_1 (finVs n.x) (finOb f (.nils 6) ⟨[],[]⟩) (.d (.int .i64 (r1:Int))) (finUp0 f s1)) (hfd1:findD (dDone s1.done) (.int .i64 (k:Int))=some none) {r2:Nat} {s2:FSt} (hl2:s2.out.length≤1000) (c2:Fn Tryz.prog T f_formula_compact_1 (finVs n.y) (finOb f (.own 7) s1++[.row 6 (s1.out.map dNd)]) (.d (.int .i64 (r2:Int))) (finUp f s2)) (hfd2:findD (dDone s2.done) (.int .i64 (k:Int))=some none) {j:Nat} (hfn:findD (dNum s2.out 0) (dNd ⟨n.op,n.i,n.e,n.g,(r1:Int),(r2:Int)⟩)=some (some (.int .i64 (j:Int)))) :
  Fn Tryz.prog T f_formula_compact_1 (finVs (k:Int)) (finOb f (.nils 6) ⟨[],[]⟩) (.d (.int .i64 (j:Int))) [some (.box [.map 5]),some (.box [.d (dF f)]),some (.box [finFn]),some (.box [.map 6]),some (.box [.own 7]),some (.map (dDone s2.done++[(.int .i64 (k:Int),.int .i64 (j:Int))])),some (.map (dNum s2.out 0)),some (.row 6 (s2.out.map dNd))]:=by
 refine fn_introR hmix k_formula_compact_1 (by show 6≤68;decide) _ (fun e env mem n h=>h) ?_
 (repeat' ((conv=>whnf);first|refine vA ?_|refine vG ?_|refine vN ‹_› ?_|refine yD hu (by (repeat refine ⟨⟨rfl,rfl⟩,?_⟩);rfl) rfl ?_|refine FindS.mk _ ‹_› ?_));all_goals try conv=>whnf
 refine CallS.objsE [0,1,2,3,4,5,6] (c1) (by (repeat' first|exact rfl|refine And.intro ?_ ?_|refine ⟨_,rfl,?_⟩)) (by (repeat' first|exact rfl|refine And.intro ?_ ?_|refine ⟨_,rfl,?_⟩)) (by rfl) (by kernel_rfl) (by simp) [(0,some (.box [.map 5])),(1,some (.box [.d (dF f)])),(2,some (.box [finFn])),(3,some (.box [.map 6])),(4,some (.box [.own 9])),(5,some (.map (dDone s1.done))),(6,some (.map (dNum s1.out 0))),(9,some (.row 6 (s1.out.map dNd)))] rfl ?_
 (repeat' ((conv=>whnf);first|refine vA ?_|refine vG ?_));all_goals try conv=>whnf
 refine CallS.objsE [0,1,2,3,4,5,6,9] (c2) (by (repeat' first|exact rfl|refine And.intro ?_ ?_|refine ⟨_,rfl,?_⟩)) (by (repeat' first|exact rfl|refine And.intro ?_ ?_|refine ⟨_,rfl,?_⟩)) (by rfl) (by kernel_rfl) (by simp) [(0,some (.box [.map 5])),(1,some (.box [.d (dF f)])),(2,some (.box [finFn])),(3,some (.box [.map 6])),(4,some (.box [.own 10])),(5,some (.map (dDone s2.done))),(6,some (.map (dNum s2.out 0))),(9,none),(10,some (.row 6 (s2.out.map dNd)))] rfl ?_
 (repeat' ((conv=>whnf);first|refine vA ?_|refine vE ?_|refine vG ?_|refine FindS.mk _ ‹_› ?_));all_goals try conv=>whnf
 refine ⟨trivial,_,[(0,0),(1,1),(2,2),(3,3),(4,4),(5,5),(6,6),(7,10)],[],rfl,.inl (by (repeat' exact rfl)),⟨by rfl,by rfl,by rfl,trivial,by (repeat' first|exact trivial|exact rfl|refine And.intro ?_ ?_|refine ⟨_,rfl,?_⟩|exact of_decide_eq_true rfl)⟩,by (repeat' first|exact trivial|exact rfl|refine And.intro ?_ ?_|refine ⟨_,rfl,?_⟩)⟩
theorem finB2n {f:List Nd} (hL:f.length≤1000) {k:Nat} {n:Nd} (hn:f[k]? = some n) (hfd:findD (dDone (FSt.done ⟨[],[]⟩)) (.int .i64 (k:Int))=some none) (hu:Fn Tryz.prog T f_formula_uses [.d (.int .i64 n.op)] [] (.d (.tup [.agg [.bool true,.bool true,.bool (useFact n.op),.bool (useAgent n.op),.bool (useGroup n.op),.bool (useEvent n.op),.int .i64 (fragOf n.op)],.bool (isOp n.op)])) []) {r1:Nat} {s1:FSt} (hl1:s1.out.length≤1000) (c1:Fn Tryz.prog T f_formula_compact_1 (finVs n.x) (finOb f (.nils 6) ⟨[],[]⟩) (.d (.int .i64 (r1:Int))) (finUp0 f s1)) (hfd1:findD (dDone s1.done) (.int .i64 (k:Int))=some none) {r2:Nat} {s2:FSt} (hl2:s2.out.length≤1000) (c2:Fn Tryz.prog T f_formula_compact_1 (finVs n.y) (finOb f (.own 7) s1++[.row 6 (s1.out.map dNd)]) (.d (.int .i64 (r2:Int))) (finUp f s2)) (hfd2:findD (dDone s2.done) (.int .i64 (k:Int))=some none) (hfn:findD (dNum s2.out 0) (dNd ⟨n.op,n.i,n.e,n.g,(r1:Int),(r2:Int)⟩)=some none) :
  Fn Tryz.prog T f_formula_compact_1 (finVs (k:Int)) (finOb f (.nils 6) ⟨[],[]⟩) (.d (.int .i64 (((s2.out.map dNd).length:Nat):Int))) [some (.box [.map 5]),some (.box [.d (dF f)]),some (.box [finFn]),some (.box [.map 6]),some (.box [.own 7]),some (.map (dDone s2.done++[(.int .i64 (k:Int),.int .i64 (((s2.out.map dNd).length:Nat):Int))])),some (.map (dNum s2.out 0++[(dNd ⟨n.op,n.i,n.e,n.g,(r1:Int),(r2:Int)⟩,.int .i64 (((s2.out.map dNd).length:Nat):Int))])),some (.row 6 (s2.out.map dNd++[dNd ⟨n.op,n.i,n.e,n.g,(r1:Int),(r2:Int)⟩]))]:=by
 refine fn_introR hmix k_formula_compact_1 (by show 6≤68;decide) _ (fun e env mem n h=>h) ?_
 (repeat' ((conv=>whnf);first|refine vA ?_|refine vG ?_|refine vN ‹_› ?_|refine yD hu (by (repeat refine ⟨⟨rfl,rfl⟩,?_⟩);rfl) rfl ?_|refine FindS.mk _ ‹_› ?_));all_goals try conv=>whnf
 refine CallS.objsE [0,1,2,3,4,5,6] (c1) (by (repeat' first|exact rfl|refine And.intro ?_ ?_|refine ⟨_,rfl,?_⟩)) (by (repeat' first|exact rfl|refine And.intro ?_ ?_|refine ⟨_,rfl,?_⟩)) (by rfl) (by kernel_rfl) (by simp) [(0,some (.box [.map 5])),(1,some (.box [.d (dF f)])),(2,some (.box [finFn])),(3,some (.box [.map 6])),(4,some (.box [.own 9])),(5,some (.map (dDone s1.done))),(6,some (.map (dNum s1.out 0))),(9,some (.row 6 (s1.out.map dNd)))] rfl ?_
 (repeat' ((conv=>whnf);first|refine vA ?_|refine vG ?_));all_goals try conv=>whnf
 refine CallS.objsE [0,1,2,3,4,5,6,9] (c2) (by (repeat' first|exact rfl|refine And.intro ?_ ?_|refine ⟨_,rfl,?_⟩)) (by (repeat' first|exact rfl|refine And.intro ?_ ?_|refine ⟨_,rfl,?_⟩)) (by rfl) (by kernel_rfl) (by simp) [(0,some (.box [.map 5])),(1,some (.box [.d (dF f)])),(2,some (.box [finFn])),(3,some (.box [.map 6])),(4,some (.box [.own 10])),(5,some (.map (dDone s2.done))),(6,some (.map (dNum s2.out 0))),(9,none),(10,some (.row 6 (s2.out.map dNd)))] rfl ?_
 (repeat' ((conv=>whnf);first|refine vA ?_|refine vJ fun hg=>?_|(refine vP ?_ ?_;·(simp only [vM] at *;omega))|refine FindS.mk _ ‹_› ?_));all_goals try conv=>whnf
 refine ⟨trivial,_,[(0,0),(1,1),(2,2),(3,3),(4,4),(5,5),(6,6),(7,12)],[],rfl,.inl (by (repeat' exact rfl)),⟨by rfl,by rfl,by rfl,trivial,by (repeat' first|exact trivial|exact rfl|refine And.intro ?_ ?_|refine ⟨_,rfl,?_⟩|exact of_decide_eq_true rfl)⟩,by (repeat' first|exact trivial|exact rfl|refine And.intro ?_ ?_|refine ⟨_,rfl,?_⟩)⟩
end Go.Ab
namespace Go.Ab
open Go Go.Proofs
set_option linter.unusedSimpArgs false
set_option linter.unusedVariables false
set_option maxRecDepth 10000
set_option maxHeartbeats 4000000
variable {T:Nat→Obj→Prop}
theorem fn_fin {f:List Nd} (hf:Okay f) (hL:f.length≤1000) : ∀ (m k:Nat) (i:Int) (s:FSt),k < m→i=k→k < f.length→FInv f s →
  Fn Tryz.prog T f_formula_compact_1 (finVs i) (finOb f (.own 7) s++[.row 6 (s.out.map dNd)]) (.d (.int .i64 ((fin f (k+1) k s).1:Int))) (finUp f (fin f (k+1) k s).2):=by
 intro m
 induction m with
 | zero=>intro k i s h;omega
 | succ m ih =>
  intro k i s hk hi hkf hs
  subst hi
  have hl:s.out.length≤1000:=Nat.le_trans (fin_len hs) hL
  cases hd:s.done.lookup k with
  | some r =>
   have e:fin f (k+1) k s=(r,s):=by rw [fin,hd]
   have hfd:findD (dDone s.done) (.int .i64 (k:Int))=some (some (D.int .i64 (r:Int))):=by rw [find_done,hd];rfl
   rw [e]
   refine fn_introR hmix k_formula_compact_1 (by show 6≤68;decide) _ (fun e env mem n h=>h) ?_
   (repeat' ((conv=>whnf);first|refine vA ?_|refine vG ?_|refine FindS.mk _ ‹_› ?_));all_goals try conv=>whnf
   refine ⟨trivial,_,[(0,0),(1,1),(2,2),(3,3),(4,4),(5,5),(6,6),(8,7)],[],rfl,.inl (by (repeat' exact rfl)),⟨by rfl,by rfl,by rfl,trivial,by (repeat' first|exact trivial|exact rfl|refine And.intro ?_ ?_|refine ⟨_,rfl,?_⟩|exact of_decide_eq_true rfl)⟩,by (repeat' first|exact trivial|exact rfl|refine And.intro ?_ ?_|refine ⟨_,rfl,?_⟩)⟩
  | none =>
   obtain ⟨n,hn⟩ : ∃ n,f[k]? = some n:=⟨f[k],by simp [hkf]⟩
   have hn':f.getD k default=n:=by simp [List.getD,hn]
   cases hx:useX n.op with
   | false =>
    have hy:useY n.op=false:=by
     cases hy:useY n.op with
     | true=>rw [useX_of_useY hy] at hx;cases hx
     | false=>rfl
    have hu:=uses_of (T:=T) hx hy
    have e:=fin_ff hf hkf hd (by rw [hn'];exact hx) (by rw [hn'];exact hy)
    rw [hn'] at e
    cases hp:s.out.idxOf? n with
    | some j =>
     rw [put_found hp] at e
     rw [e]
     simp only [finUp,dDone_append]
     exact finA0f hL hn hl (find_done_none hd) hu (find_num_some hp)
    | none =>
     rw [put_new hp,← List.length_map (f:=dNd)] at e
     rw [e]
     simp only [finUp,dDone_append,dNum_append',List.map_append,List.map_cons,List.map_nil]
     exact finA0n hL hn hl (find_done_none hd) hu (find_num_none hp)
   | true =>
    have hxk:=okay_x hf hkf (by rw [hn'];exact hx)
    rw [hn'] at hxk
    obtain ⟨i1,d1⟩:=fin_lookup hf hxk.2 (by omega) hs hd
    have c1:=ih n.x.toNat n.x s (by omega) (by omega) (by omega) hs
    cases h1:fin f (n.x.toNat+1) n.x.toNat s with
    | mk r1 s1 =>
    rw [h1] at i1 d1 c1
    simp only at i1 d1 c1
    have l1:s1.out.length≤1000:=Nat.le_trans (fin_len i1) hL
    cases hy:useY n.op with
    | false =>
     have hu:=uses_of (T:=T) hx hy
     have e:=fin_tf hf hkf hd hn' hx hy h1
     cases hp:s1.out.idxOf? ⟨n.op,n.i,n.e,n.g,(r1:Int),n.y⟩ with
     | some j =>
      rw [put_found hp] at e
      rw [e]
      simp only [finUp,dDone_append]
      exact finA1f hL hn hl (find_done_none hd) hu l1 c1 (find_done_none d1) (find_num_some hp)
     | none =>
      rw [put_new hp,← List.length_map (f:=dNd)] at e
      rw [e]
      simp only [finUp,dDone_append,dNum_append',List.map_append,List.map_cons,List.map_nil]
      exact finA1n hL hn hl (find_done_none hd) hu l1 c1 (find_done_none d1) (find_num_none hp)
    | true =>
     have hyk:=okay_y hf hkf (by rw [hn'];exact hy)
     rw [hn'] at hyk
     obtain ⟨i2,d2⟩:=fin_lookup hf hyk.2 (by omega) i1 d1
     have c2:=ih n.y.toNat n.y s1 (by omega) (by omega) (by omega) i1
     cases h2:fin f (n.y.toNat+1) n.y.toNat s1 with
     | mk r2 s2 =>
     rw [h2] at i2 d2 c2
     simp only at i2 d2 c2
     have l2:s2.out.length≤1000:=Nat.le_trans (fin_len i2) hL
     have hu:=uses_of (T:=T) hx hy
     have e:=fin_tt hf hkf hd hn' hx hy h1 h2
     cases hp:s2.out.idxOf? ⟨n.op,n.i,n.e,n.g,(r1:Int),(r2:Int)⟩ with
     | some j =>
      rw [put_found hp] at e
      rw [e]
      simp only [finUp,dDone_append]
      exact finA2f hL hn hl (find_done_none hd) hu l1 c1 (find_done_none d1) l2 c2 (find_done_none d2) (find_num_some hp)
     | none =>
      rw [put_new hp,← List.length_map (f:=dNd)] at e
      rw [e]
      simp only [finUp,dDone_append,dNum_append',List.map_append,List.map_cons,List.map_nil]
      exact finA2n hL hn hl (find_done_none hd) hu l1 c1 (find_done_none d1) l2 c2 (find_done_none d2) (find_num_none hp)
theorem fn_fin0 {f:List Nd} (hf:Okay f) (hL:f.length≤1000) : ∀ (m k:Nat) (i:Int),k < m→i=k→k < f.length →
  Fn Tryz.prog T f_formula_compact_1 (finVs i) (finOb f (.nils 6) ⟨[],[]⟩) (.d (.int .i64 ((fin f (k+1) k ⟨[],[]⟩).1:Int))) (finUp0 f (fin f (k+1) k ⟨[],[]⟩).2):=by
 intro m
 induction m with
 | zero=>intro k i h;omega
 | succ m ih =>
  intro k i hk hi hkf
  subst hi
  have hs:=inv_nil f
  have hd:(FSt.mk [] []).done.lookup k=none:=rfl
  have hx0:True:=trivial
  cases hx0 with
  | intro =>
   obtain ⟨n,hn⟩ : ∃ n,f[k]? = some n:=⟨f[k],by simp [hkf]⟩
   have hn':f.getD k default=n:=by simp [List.getD,hn]
   cases hx:useX n.op with
   | false =>
    have hy:useY n.op=false:=by
     cases hy:useY n.op with
     | true=>rw [useX_of_useY hy] at hx;cases hx
     | false=>rfl
    have hu:=uses_of (T:=T) hx hy
    have e:=fin_ff hf hkf hd (by rw [hn'];exact hx) (by rw [hn'];exact hy)
    rw [hn'] at e
    have hp:([]:List Nd).idxOf? n=none:=rfl
    rw [put_new hp,← List.length_map (f:=dNd)] at e
    rw [e]
    simp only [finUp0,dDone_append,dNum_append',List.map_append,List.map_cons,List.map_nil]
    exact finB0n hL hn (find_done_none hd) hu (find_num_none hp)
   | true =>
    have hxk:=okay_x hf hkf (by rw [hn'];exact hx)
    rw [hn'] at hxk
    obtain ⟨i1,d1⟩:=fin_lookup hf hxk.2 (by omega) hs hd
    have c1:=ih n.x.toNat n.x (by omega) (by omega) (by omega)
    cases h1:fin f (n.x.toNat+1) n.x.toNat (FSt.mk [] []) with
    | mk r1 s1 =>
    rw [h1] at i1 d1 c1
    simp only at i1 d1 c1
    have l1:s1.out.length≤1000:=Nat.le_trans (fin_len i1) hL
    cases hy:useY n.op with
    | false =>
     have hu:=uses_of (T:=T) hx hy
     have e:=fin_tf hf hkf hd hn' hx hy h1
     cases hp:s1.out.idxOf? ⟨n.op,n.i,n.e,n.g,(r1:Int),n.y⟩ with
     | some j =>
      rw [put_found hp] at e
      rw [e]
      simp only [finUp0,dDone_append]
      exact finB1f hL hn (find_done_none hd) hu l1 c1 (find_done_none d1) (find_num_some hp)
     | none =>
      rw [put_new hp,← List.length_map (f:=dNd)] at e
      rw [e]
      simp only [finUp0,dDone_append,dNum_append',List.map_append,List.map_cons,List.map_nil]
      exact finB1n hL hn (find_done_none hd) hu l1 c1 (find_done_none d1) (find_num_none hp)
    | true =>
     have hyk:=okay_y hf hkf (by rw [hn'];exact hy)
     rw [hn'] at hyk
     obtain ⟨i2,d2⟩:=fin_lookup hf hyk.2 (by omega) i1 d1
     have c2:=fn_fin (T:=T) hf hL (n.y.toNat+1) n.y.toNat n.y s1 (by omega) (by omega) (by omega) i1
     cases h2:fin f (n.y.toNat+1) n.y.toNat s1 with
     | mk r2 s2 =>
     rw [h2] at i2 d2 c2
     simp only at i2 d2 c2
     have l2:s2.out.length≤1000:=Nat.le_trans (fin_len i2) hL
     have hu:=uses_of (T:=T) hx hy
     have e:=fin_tt hf hkf hd hn' hx hy h1 h2
     cases hp:s2.out.idxOf? ⟨n.op,n.i,n.e,n.g,(r1:Int),(r2:Int)⟩ with
     | some j =>
      rw [put_found hp] at e
      rw [e]
      simp only [finUp0,dDone_append]
      exact finB2f hL hn (find_done_none hd) hu l1 c1 (find_done_none d1) l2 c2 (find_done_none d2) (find_num_some hp)
     | none =>
      rw [put_new hp,← List.length_map (f:=dNd)] at e
      rw [e]
      simp only [finUp0,dDone_append,dNum_append',List.map_append,List.map_cons,List.map_nil]
      exact finB2n hL hn (find_done_none hd) hu l1 c1 (find_done_none d1) l2 c2 (find_done_none d2) (find_num_none hp)
end Go.Ab
namespace Go.Ab
set_option linter.unusedVariables false
set_option linter.unusedSimpArgs false
def uni (m:Hd→Nat) (c:List Nd):Nat:=c.foldl (fun s n=>s|||m n.hd) 0
theorem uni_go (m:Hd→Nat) : ∀ (c:List Nd) (s:Nat) (i:Nat),(c.foldl (fun s n=>s|||m n.hd) s).testBit i=(s.testBit i||c.any fun n=>(m n.hd).testBit i)
 | [],s,i=>by simp
 | n::r,s,i=>by simp only [List.foldl_cons,uni_go m r,Nat.testBit_or,List.any_cons,Bool.or_assoc]
theorem uni_bit (m:Hd→Nat) (c:List Nd) (i:Nat):(uni m c).testBit i=c.any fun n=>(m n.hd).testBit i:=by
 unfold uni;rw [uni_go];simp
theorem uni_step (m:Hd→Nat) {c:List Nd} {k:Nat} {n:Nd} (h:c[k]? = some n):uni m (c.take (k+1))=uni m (c.take k)|||m n.hd:=by
 unfold uni
 rw [List.take_add_one,h]
 simp
theorem uni_lt (m:Hd→Nat) {b:Nat} : ∀ {c:List Nd},uni m c < 2 ^ b ↔ ∀ n∈c,m n.hd < 2 ^ b:=by
 intro c
 constructor
 ·intro h n hn
  refine Nat.lt_pow_two_of_testBit _ fun i hi=>?_
  have h1:=Nat.testBit_lt_two_pow (Nat.lt_of_lt_of_le h (Nat.pow_le_pow_right (by omega) hi))
  rw [uni_bit] at h1
  exact Bool.eq_false_iff.2 fun h2=>by
   have:(c.any fun n=>(m n.hd).testBit i)=true:=List.any_eq_true.2 ⟨n,hn,h2⟩
   rw [this] at h1;cases h1
 ·intro h
  refine Nat.lt_pow_two_of_testBit _ fun i hi=>?_
  rw [uni_bit]
  refine List.any_eq_false.2 fun n hn=>?_
  have:=Nat.testBit_lt_two_pow (Nat.lt_of_lt_of_le (h n hn) (Nat.pow_le_pow_right (by omega) hi))
  simp [this]
theorem ofIntK {k:IntKind} {a:Nat} (h:a < 2 ^ k.bits):(BitVec.ofInt k.bits (a:Int)).toNat=a:=by
 rw [BitVec.toNat_ofInt,Int.emod_eq_of_lt (Int.natCast_nonneg a) (show (a:Int) < ((2 ^ k.bits:Nat):Int) from Int.ofNat_lt.2 h)]
 rfl
theorem wrap_nat {a:Nat} (h:a < 2 ^ 63):IntKind.wrap .i64 (a:Int)=a:=wrap_inR ⟨by omega,by omega⟩
theorem bits_or {a b:Nat} (ha:a < 2 ^ 63) (hb:b < 2 ^ 63):bitsI .i64 (fun p q=>p|||q) (a:Int) (b:Int)=((a|||b:Nat):Int):=by
 unfold bitsI
 rw [BitVec.toNat_or,ofIntK (k := .i64) (by simp [IntKind.bits];omega),ofIntK (k := .i64) (by simp [IntKind.bits];omega)]
 exact wrap_nat (Nat.or_lt_two_pow ha hb)
theorem bits_and {a b:Nat} (ha:a < 2 ^ 63) (hb:b < 2 ^ 63):bitsI .i64 (fun p q=>p&&&q) (a:Int) (b:Int)=((a&&&b:Nat):Int):=by
 unfold bitsI
 rw [BitVec.toNat_and,ofIntK (k := .i64) (by simp [IntKind.bits];omega),ofIntK (k := .i64) (by simp [IntKind.bits];omega)]
 exact wrap_nat (Nat.and_lt_two_pow _ hb)
theorem bits_andNot {a b:Nat} (ha:a < 2 ^ 63) (hb:b < 2 ^ 63):bitsI .i64 (fun p q=>p &&& ~~~q) (a:Int) (b:Int)=0 ↔ ∀ i,a.testBit i=true→b.testBit i=true:=by
 unfold bitsI
 have h64 : ∀ {a:Nat},a < 2 ^ 63→a < 2 ^ 64:=fun h=>by omega
 have e:(BitVec.ofInt IntKind.i64.bits (a:Int) &&& ~~~BitVec.ofInt IntKind.i64.bits (b:Int)).toNat < 2 ^ 63:=by
  rw [BitVec.toNat_and,ofIntK (k := .i64) (h64 ha)]
  exact Nat.lt_of_le_of_lt Nat.and_le_left ha
 rw [wrap_nat e]
 have e2:(((BitVec.ofInt IntKind.i64.bits (a:Int) &&& ~~~BitVec.ofInt IntKind.i64.bits (b:Int)).toNat:Nat):Int)=0↔(BitVec.ofInt IntKind.i64.bits (a:Int) &&& ~~~BitVec.ofInt IntKind.i64.bits (b:Int))=0#_:=by
  constructor
  ·intro h;exact BitVec.eq_of_toNat_eq (by simpa using (show (BitVec.ofInt IntKind.i64.bits (a:Int) &&& ~~~BitVec.ofInt IntKind.i64.bits (b:Int)).toNat=0 by omega))
  ·intro h;rw [h];simp
 rw [e2]
 have bit : ∀ {c:Nat},c < 2 ^ 63 → ∀ i,(BitVec.ofInt IntKind.i64.bits (c:Int)).getLsbD i=c.testBit i:=fun {c} hc i=>by
  rw [← BitVec.testBit_toNat,ofIntK (k := .i64) (h64 hc)]
 constructor
 ·intro h i hi
  have h2:=congrArg (fun x=>x.getLsbD i) h
  have hlt:i < 64:=by
   refine Nat.lt_of_not_le fun hle=>?_
   have:=Nat.testBit_lt_two_pow (Nat.lt_of_lt_of_le (h64 ha) (Nat.pow_le_pow_right (by omega) hle))
   rw [this] at hi;cases hi
  simp only [BitVec.getLsbD_and,BitVec.getLsbD_not,bit ha,bit hb,hi,Bool.true_and,BitVec.getLsbD_zero] at h2
  have:decide (i < IntKind.i64.bits)=true:=decide_eq_true hlt
  rw [this] at h2
  simpa using h2
 ·intro h
  apply BitVec.eq_of_getLsbD_eq
  intro i hi
  simp only [BitVec.getLsbD_and,BitVec.getLsbD_not,bit ha,bit hb,BitVec.getLsbD_zero]
  cases ha':a.testBit i with
  | false=>simp
  | true=>simp [h i ha']
theorem shr_nat {a n:Nat} : (a:Int).fdiv (2 ^ n)=((a >>> n:Nat):Int):=by
 have e:((2:Int) ^ n)=((2 ^ n:Nat):Int):=by simp
 rw [e,Nat.shiftRight_eq_div_pow,Int.fdiv_eq_ediv_of_nonneg _ (Int.natCast_nonneg _)];rfl
def fragN (h:Hd):Nat:=(fragOf h.op).toNat
def factN (h:Hd):Nat:=if useFact h.op=true then 2 ^ h.i.toNat else 0
def agentN (h:Hd):Nat:=if useAgent h.op=true then 2 ^ h.i.toNat else h.g.toNat
theorem fragN_cast (h:Hd):((fragN h:Nat):Int)=fragOf h.op:=by
 unfold fragN fragOf
 repeat' split
 all_goals rfl
theorem fragN_lt (h:Hd):fragN h < 2 ^ 9:=by
 unfold fragN fragOf
 repeat' split
 all_goals decide
theorem factN_lt {h:Hd} (hh:HdOk h):factN h < 2 ^ 8:=by
 unfold factN
 split
 ·rename_i h1
  have:=hh.fact h1
  exact Nat.pow_lt_pow_right (by omega) (by omega)
 ·decide
theorem agentN_lt {h:Hd} (hh:HdOk h):agentN h < 2 ^ 4:=by
 unfold agentN
 split
 ·rename_i h1
  have:=hh.agent h1
  exact Nat.pow_lt_pow_right (by omega) (by omega)
 ·cases hg:useGroup h.op with
  | true=>have:=hh.group hg;omega
  | false=>have:=hh.g0 hg;omega
end Go.Ab
namespace Go.Ab
open Go Go.Proofs
set_option linter.unusedSimpArgs false
set_option linter.unusedVariables false
set_option maxRecDepth 10000
set_option maxHeartbeats 4000000
variable {T:Nat→Obj→Prop}
theorem fn_compact {f:List Nd} (hf:Okay f) (hL:f.length≤1000) {k:Nat} {i:Int} (hi:i=k) (hk:k < f.length):Fn Tryz.prog T f_formula_compact [.d (dF f),.d (.int .i64 i)] [] (.d (dF (compactL f k))) []:=by
 have c:=fn_fin0 (T:=T) hf hL (k+1) k i (by omega) hi hk
 refine fn_dataR hmix k_formula_compact (by show 2≤16;decide) ?_
 (repeat' ((conv=>whnf);fail));all_goals try conv=>whnf
 refine CallS.objs [5,0,6,3,1,4,2] (c) (by (repeat' first|exact rfl|refine And.intro ?_ ?_|refine ⟨_,rfl,?_⟩)) (by (repeat' first|exact rfl|refine And.intro ?_ ?_|refine ⟨_,rfl,?_⟩)) (by rfl) (by rfl) (by simp) ?_
 (repeat' ((conv=>whnf);fail));all_goals try conv=>whnf
 rfl
def subL (f:List Nd) (i:Int):List Nd:=if fErr f≠0∨i < 0∨(f.length:Int)≤i then [] else compactL f i.toNat
def cL (f:List Nd):List Nd:=if fErr f≠0 then [] else compactL f (f.length - 1)
theorem subL_c (f:List Nd):subL f ((f.length:Int) - 1)=cL f:=by
 unfold subL cL
 by_cases h:fErr f=0
 ·have:=(fErr_ok.1 h).1
  rw [if_neg (by omega),if_neg (by omega)]
  congr 1
  omega
 ·rw [if_pos (.inl h),if_pos h]
theorem fn_Sub (f:List Nd) (i:Int):Fn Tryz.prog T f_formula_Sub [.d (dF f),.d (.int .i64 i)] [] (.d (dF (subL f i))) []:=by
 refine fn_dataR hmix k_formula_Sub (by show 2≤21;decide) ?_
 (repeat' ((conv=>whnf);first|refine vA ?_|((first|refine vD ?_ ?_|refine vF ?_ ?_)<;>intro hc<;>try simp only [vL] at hc)|refine vJ fun hg=>?_|refine yD (fn_fCheck _) ⟨⟨rfl,rfl⟩,rfl⟩ rfl ?_));all_goals try conv=>whnf
 ·have hp:subL f i=[]:=if_pos (.inl ‹_›)
  rw [hp];rfl
 ·have hp:subL f i=[]:=if_pos (.inr (.inl ‹_›))
  rw [hp];rfl
 ·have hp:subL f i=[]:=if_pos (.inr (.inr (by omega)))
  rw [hp];rfl
 ·have h0:fErr f=0:=by omega
  have h1:=fErr_ok.1 h0
  have hp:subL f i=compactL f i.toNat:=if_neg (by omega)
  rw [hp]
  have cS:=fn_compact (T:=T) (f:=f) h1.2.2 (by omega) (k:=i.toNat) (i:=i) (by omega) (by omega)
  (repeat' ((conv=>whnf);refine yN cS ⟨⟨rfl,rfl⟩,⟨rfl,rfl⟩,rfl⟩ ?_));all_goals try conv=>whnf
  rfl
theorem fn_fCompact (f:List Nd):Fn Tryz.prog T f_formula_Compact [.d (dF f)] [] (.d (dF (cL f))) []:=by
 refine fn_dataR hmix k_formula_Compact (by show 1≤8;decide) ?_
 (repeat' ((conv=>whnf);first|refine vJ fun hg=>?_|(refine vO ?_ ?_;·(simp only [vM] at *;omega))|fail));all_goals try conv=>whnf
 have cC:=fn_Sub (T:=T) f (((f.map dNd).length:Int) - 1)
 rw [show subL f (((f.map dNd).length:Int) - 1)=cL f by rw [List.length_map,subL_c]] at cC
 (repeat' ((conv=>whnf);refine yN cC ⟨⟨rfl,rfl⟩,⟨rfl,rfl⟩,rfl⟩ ?_));all_goals try conv=>whnf
 rfl
theorem cL_canon {f:List Nd} (h:fErr f=0):Canon (tmOf f (f.length - 1)) (cL f)∧(cL f).length≤f.length:=by
 obtain ⟨h1,h2,h3⟩:=fErr_ok.1 h
 unfold cL
 rw [if_neg (by omega)]
 exact ⟨compactL_canon h3 (by omega),(compactL_eq h3 (by omega)).2.1⟩
theorem cL_nil {f:List Nd} (h:fErr f≠0):cL f=[]:=if_pos h
theorem cL_len (f:List Nd):(cL f).length≤200:=by
 by_cases h:fErr f=0
 ·have:=(cL_canon h).2
  have:=(fErr_ok.1 h).2.1
  omega
 ·rw [cL_nil h];simp
theorem cL_okay (f:List Nd):Okay (cL f):=by
 by_cases h:fErr f=0
 ·exact (cL_canon h).1.ok
 ·rw [cL_nil h];exact okay_nil
theorem cL_hd {f:List Nd} {n:Nd} (h:n∈cL f):HdOk n.hd:=by
 obtain ⟨i,hi⟩:=List.getElem?_of_mem h
 exact (nErr_iff.1 (cL_okay f i n hi)).1
theorem uni_le (m:Hd→Nat) {b:Nat} (f:List Nd) (h : ∀ n∈cL f,m n.hd < 2 ^ b) (k:Nat):uni m ((cL f).take k) < 2 ^ b :=
 (uni_lt m).2 fun n hn=>h n (List.mem_of_mem_take hn)
theorem fn_union (f:List Nd) (g:Nat) (m:Hd→Nat) (hm : ∀ n,n∈cL f→m n.hd < 2 ^ 31∧Fn Tryz.prog T g [.d (dNd n),.d (dUse n.op)] [] (.d (.int .i64 (m n.hd:Int))) []) :
  Fn Tryz.prog T f_formula_union [.d (dF f),.d (.fn g [])] [] (.d (.int .i64 (uni m (cL f):Int))) []:=by
 have hlen:=cL_len f
 refine fn_dataR hmix k_formula_union (by show 2≤31;decide) ?_
 (repeat' ((conv=>whnf);first|refine vA ?_|refine vJ fun hg=>?_|refine yN (fn_fCompact _) ⟨⟨rfl,rfl⟩,rfl⟩ ?_));all_goals try conv=>whnf
 refine loop_intro (fun ((k,x):Nat×Int)=>[(1,.d (.fn g [])),(11,.d (dF (cL f))),(12,.d (.int .i64 (((cL f).map dNd).length:Int))),(5,.d (.int .i64 (x))),(13,.d (.int .i64 ((k:Int))))]) (fun ((k,x):Nat×Int)=>k≤(cL f).length∧x=(uni m ((cL f).take k):Nat)) (fun ((k,x):Nat×Int)=>(cL f).length - k) ((0,0)) (⟨by simp,rfl⟩) (by (repeat' first|exact trivial|exact rfl|refine And.intro ?_ ?_)) ?_
 rintro ⟨k,x⟩ ⟨hk,hI⟩
 subst hI
 (repeat' ((conv=>whnf);first|refine vA ?_|(refine vF ?_ ?_<;>intro hc<;>try simp only [vL] at hc)|(refine vQ ?_ fun x hx=>?_;·omega)|refine vX ?_|refine yN (fn_uses _) ⟨⟨rfl,rfl⟩,rfl⟩ ?_));all_goals try conv=>whnf
 ·obtain ⟨h1,h2⟩:=hm _ (List.mem_of_getElem? hx)
  (repeat' ((conv=>whnf);first|(refine vO ?_ ?_;·omega)|refine yD h2 (by (repeat refine ⟨⟨rfl,rfl⟩,?_⟩);rfl) rfl ?_));all_goals try conv=>whnf
  refine ⟨(k+1,_),[],[],?_,?_,by (refine ⟨rfl,rfl,rfl,?_,?_⟩;repeat' first|exact trivial|exact rfl|refine And.intro ?_ ?_)⟩
  ·exact ⟨by (omega),by rw [uni_step m hx];exact bits_or (Nat.lt_trans (uni_le m f (fun n hn=>(hm n hn).1) k) (by decide)) (Nat.lt_trans h1 (by decide))⟩
  ·((simp only [vM] at *;omega))
 ·rw [show k=(cL f).length by omega,List.take_length]
theorem pow_small {i:Int} (h0:0≤i) (h7:i≤7):(-9223372036854775808≤(1:Int) * 2 ^ (min i.toNat IntKind.i64.bits)∧(1:Int) * 2 ^ (min i.toNat IntKind.i64.bits)≤9223372036854775807)∧((2 ^ i.toNat:Nat):Int)=(1:Int) * 2 ^ (min i.toNat IntKind.i64.bits):=by
 have:i=0∨i=1∨i=2∨i=3∨i=4∨i=5∨i=6∨i=7:=by omega
 rcases this with rfl|rfl|rfl|rfl|rfl|rfl|rfl|rfl<;>decide
theorem fn_Frags (f:List Nd):Fn Tryz.prog T f_formula_Frags [.d (dF f)] [] (.d (.int .i64 (uni fragN (cL f):Int))) []:=by
 have cU:=fn_union (T:=T) f f_formula_Frags_1 fragN (fun n hn=>⟨Nat.lt_trans (fragN_lt n.hd) (by decide),by
  refine fn_dataR hmix k_formula_Frags_1 (by show 2≤7;decide) ?_
  (repeat' ((conv=>whnf);refine vX ?_));all_goals try conv=>whnf
  exact (fragN_cast n.hd).symm⟩)
 refine fn_dataR hmix k_formula_Frags (by show 1≤5;decide) ?_
 (repeat' ((conv=>whnf);first|refine vX ?_|refine yD cU ⟨⟨rfl,rfl⟩,⟨rfl,rfl⟩,rfl⟩ rfl ?_));all_goals try conv=>whnf
 all_goals skip
theorem fn_Facts (f:List Nd):Fn Tryz.prog T f_formula_Facts [.d (dF f)] [] (.d (.int .i64 (uni factN (cL f):Int))) []:=by
 have cU:=fn_union (T:=T) f f_formula_Facts_1 factN (fun n hn=>⟨Nat.lt_trans (factN_lt (cL_hd hn)) (by decide),by
  have hh:=cL_hd hn
  cases hf:useFact n.op with
  | true =>
   obtain ⟨h0,h7⟩:0≤n.i∧n.i≤7:=hh.fact hf
   obtain ⟨h1,h2⟩:=pow_small h0 h7
   have e:((factN n.hd:Nat):Int)=1 * 2 ^ min n.i.toNat IntKind.i64.bits:=by rw [factN,if_pos (by exact hf)];exact h2
   rw [e,dUse,hf]
   refine fn_dataR hmix k_formula_Facts_1 (by show 2≤10;decide) ?_
   (repeat' ((conv=>whnf);first|refine vA ?_|refine vG ?_|((first|refine vO ?_ ?_|refine vP ?_ ?_);·omega)|refine vX ?_));all_goals try conv=>whnf
  | false =>
   have e:factN n.hd=0:=by rw [factN,if_neg (by simp [Nd.hd,hf])]
   rw [e,dUse,hf]
   refine fn_dataR hmix k_formula_Facts_1 (by show 2≤10;decide) ?_
   (repeat' ((conv=>whnf);first|refine vA ?_|refine vH ?_|refine vX ?_));all_goals try conv=>whnf
   rfl⟩)
 refine fn_dataR hmix k_formula_Facts (by show 1≤5;decide) ?_
 (repeat' ((conv=>whnf);first|refine vX ?_|refine yD cU ⟨⟨rfl,rfl⟩,⟨rfl,rfl⟩,rfl⟩ rfl ?_));all_goals try conv=>whnf
theorem fn_Agents (f:List Nd):Fn Tryz.prog T f_formula_Agents [.d (dF f)] [] (.d (.int .i64 (uni agentN (cL f):Int))) []:=by
 have cU:=fn_union (T:=T) f f_formula_Agents_1 agentN (fun n hn=>⟨Nat.lt_trans (agentN_lt (cL_hd hn)) (by decide),by
  have hh:=cL_hd hn
  cases hf:useAgent n.op with
  | true =>
   obtain ⟨h0,h7⟩:0≤n.i∧n.i≤3:=hh.agent hf
   obtain ⟨h1,h2⟩:=pow_small h0 (by omega)
   have e:((agentN n.hd:Nat):Int)=1 * 2 ^ min n.i.toNat IntKind.i64.bits:=by rw [agentN,if_pos (by exact hf)];exact h2
   rw [e,dUse,hf]
   refine fn_dataR hmix k_formula_Agents_1 (by show 2≤12;decide) ?_
   (repeat' ((conv=>whnf);first|refine vA ?_|refine vG ?_|((first|refine vO ?_ ?_|refine vP ?_ ?_);·omega)|refine vX ?_));all_goals try conv=>whnf
  | false =>
   have h0:0≤n.g:=by
    cases hg:useGroup n.op with
    | true=>have:1≤n.g∧n.g≤15:=hh.group hg;omega
    | false=>have:n.g=0:=hh.g0 hg;omega
   have e:((agentN n.hd:Nat):Int)=n.g:=by rw [agentN,if_neg (by simp [Nd.hd,hf])];exact Int.toNat_of_nonneg h0
   rw [e,dUse,hf]
   refine fn_dataR hmix k_formula_Agents_1 (by show 2≤12;decide) ?_
   (repeat' ((conv=>whnf);first|refine vA ?_|refine vH ?_|refine vX ?_));all_goals try conv=>whnf⟩)
 refine fn_dataR hmix k_formula_Agents (by show 1≤5;decide) ?_
 (repeat' ((conv=>whnf);first|refine vX ?_|refine yD cU ⟨⟨rfl,rfl⟩,⟨rfl,rfl⟩,rfl⟩ rfl ?_));all_goals try conv=>whnf
def belowL (m:Nat) (n:Int):Bool:=decide (31≤n∨m < 2 ^ n.toNat)
theorem fn_below (m:Nat) (n:Int):Fn Tryz.prog T f_formula_Fits_1 [.d (.int .i64 (m:Int)),.d (.int .i64 n)] [] (.d (.bool (belowL m n))) []:=by
 refine fn_dataR hmix k_formula_Fits_1 (by show 2≤14;decide) ?_
 (repeat' ((conv=>whnf);first|refine vA ?_|(refine vF ?_ ?_<;>intro hc<;>try simp only [vL] at hc)|(refine vP ?_ ?_;·omega)|refine vZ ?_));all_goals try conv=>whnf
 ·simp [belowL, *]
 ·show decide ((m:Int).fdiv (2 ^ min (max n 0).toNat IntKind.i64.bits)=0)=_
  have e1:(max n 0).toNat=n.toNat:=by omega
  have e2:min n.toNat IntKind.i64.bits=n.toNat:=Nat.min_eq_left (show n.toNat≤64 by omega)
  rw [e1,e2,shr_nat,belowL,Nat.shiftRight_eq_div_pow]
  refine decide_eq_decide.2 ⟨fun h => .inr ?_,fun h=>?_⟩
  ·have h0:m / 2 ^ n.toNat=0:=by omega
   exact (Nat.div_eq_zero_iff.1 h0).resolve_left (by have:=Nat.two_pow_pos n.toNat;omega)
  ·have h0:m / 2 ^ n.toNat=0:=Nat.div_eq_zero_iff.2 (.inr (h.resolve_left (by omega)))
   rw [h0];rfl
def fitsL (f:List Nd) (agents facts:Int):Bool:=decide (fErr f=0)&&belowL (uni agentN (cL f)) agents&&belowL (uni factN (cL f)) facts
theorem fn_Fits (f:List Nd) (agents facts:Int):Fn Tryz.prog T f_formula_Fits [.d (dF f),.d (.int .i64 agents),.d (.int .i64 facts)] [] (.d (.bool (fitsL f agents facts))) []:=by
 refine fn_dataR hmix k_formula_Fits (by show 3≤25;decide) ?_
 (repeat' ((conv=>whnf);first|refine vA ?_|(refine vF ?_ ?_<;>intro hc)|refine vZ ?_|refine yD (fn_fCheck _) ⟨⟨rfl,rfl⟩,rfl⟩ rfl ?_|refine yD (fn_Agents _) ⟨⟨rfl,rfl⟩,rfl⟩ rfl ?_|refine yD (fn_Facts _) ⟨⟨rfl,rfl⟩,rfl⟩ rfl ?_|refine yD (fn_below _ _) ⟨⟨rfl,rfl⟩,⟨rfl,rfl⟩,rfl⟩ rfl ?_));all_goals try conv=>whnf
 ·simp_all [fitsL,belowL]
 ·have:belowL (uni agentN (cL f)) agents=false:=decide_eq_false ‹_›
  simp [fitsL,this]
 ·simp_all [fitsL]
end Go.Ab
namespace Go.Ab
set_option linter.unusedVariables false
set_option linter.unusedSimpArgs false
def shiftN (k:Nat) (n:Nd):Nd := { n with x:=if useX n.op=true then n.x+k else n.x,y:=if useY n.op=true then n.y+k else n.y }
def addL (f c:List Nd):List Nd:=f++c.map (shiftN f.length)
theorem nErr_shift {n:Nd} {j:Int} {k:Nat} (hj:0≤j) (h:nErr n j=0):nErr (shiftN k n) (k+j)=0:=by
 obtain ⟨h1,h2,h3,h4,h5⟩:=nErr_iff.1 h
 refine nErr_iff.2 ⟨h1,fun e=>?_,fun e=>?_,fun e=>?_,fun e=>?_⟩
 ·have e:useX n.op=true:=e
  have:=h2 e
  simp only [shiftN,e,if_true];omega
 ·have e:useX n.op=false:=e
  have:=h3 e
  simp only [shiftN,e];simpa using this
 ·have e:useY n.op=true:=e
  have:=h4 e
  simp only [shiftN,e,if_true];omega
 ·have e:useY n.op=false:=e
  have:=h5 e
  simp only [shiftN,e];simpa using this
theorem addL_okay {f c:List Nd} (hf:Okay f) (hc:Okay c):Okay (addL f c):=by
 intro k n hk
 unfold addL at hk
 rw [List.getElem?_append] at hk
 split at hk
 ·exact hf k n hk
 ·rename_i h
  rw [List.getElem?_map,Option.map_eq_some_iff] at hk
  obtain ⟨m,hm,rfl⟩:=hk
  have:=nErr_shift (k:=f.length) (by omega) (hc _ m hm)
  rwa [show ((f.length:Nat):Int)+((k - f.length:Nat):Int)=k by omega] at this
theorem addL_tree {f c:List Nd} (hf:Okay f) (hc:Okay c) : ∀ (m j:Nat),j < m→j < c.length→tmOf (addL f c) (f.length+j)=tmOf c j
 | 0,j,h,_=>by omega
 | m+1,j,h,hj=>by
  have ho:=addL_okay hf hc
  have hl:f.length+j < (addL f c).length:=by simp [addL];omega
  have hg:(addL f c).getD (f.length+j) default=shiftN f.length (c.getD j default):=by
   simp [addL,List.getD,hj]
  rw [tmOf_eq ho hl,tmOf_eq hc hj,hg]
  have eo:(shiftN f.length (c.getD j default)).op=(c.getD j default).op:=rfl
  have eh:(shiftN f.length (c.getD j default)).hd=(c.getD j default).hd:=rfl
  rw [eo,eh]
  cases hy:useY (c.getD j default).op with
  | true =>
   have hx:=useX_of_useY hy
   have e1:=okay_x hc hj hx
   have e2:=okay_y hc hj hy
   have x1:(shiftN f.length (c.getD j default)).x.toNat=f.length+(c.getD j default).x.toNat:=by simp only [shiftN,hx,if_true];omega
   have y1:(shiftN f.length (c.getD j default)).y.toNat=f.length+(c.getD j default).y.toNat:=by simp only [shiftN,hy,if_true];omega
   simp only [cond_true]
   rw [x1,y1,addL_tree hf hc m _ (by omega) (by omega),addL_tree hf hc m _ (by omega) (by omega)]
  | false =>
   cases hx:useX (c.getD j default).op with
   | true =>
    have e1:=okay_x hc hj hx
    have x1:(shiftN f.length (c.getD j default)).x.toNat=f.length+(c.getD j default).x.toNat:=by simp only [shiftN,hx,if_true];omega
    simp only [cond_true,cond_false]
    rw [x1,addL_tree hf hc m _ (by omega) (by omega)]
   | false=>rfl
theorem addL_old {f c:List Nd} (hf:Okay f) {j:Nat} (hj:j < f.length):tmOf (addL f c) j=tmOf f j:=tmOf_append hf hj
def buildGo:Nat→List Nd→Nd→List (List Nd)→Option (Nd×List Nd)
 | _,f,x,[]=>some (x,f)
 | k,f,x,o::r=>if fErr o≠0 then none else
  buildGo (k+1) (addL f (cL o)) (if k=0 then { x with x:=((addL f (cL o)).length:Int) - 1 } else { x with y:=((addL f (cL o)).length:Int) - 1 }) r
def finishL (x:Nd) (f:List Nd):List Nd:=if nErr x f.length≠0 then [] else if 200 < (compactL (f++[x]) f.length).length then [] else compactL (f++[x]) f.length
def buildL (x:Nd) (os:List (List Nd)):List Nd:=match buildGo 0 [] x os with
 | none=>[]
 | some (x,f)=>finishL x f
structure IsF (f:List Nd) (t:Tm):Prop where
 ok:fErr f=0
 tree:tmOf f (f.length - 1)=t
theorem isF_of {f:List Nd} (h:fErr f=0):IsF f (tmOf f (f.length - 1)):=⟨h,rfl⟩
theorem IsF.canon {f:List Nd} {t:Tm} (h:IsF f t):Canon t (cL f)∧(cL f).length≤f.length:=by
 have:=cL_canon h.ok
 rwa [h.tree] at this
theorem IsF.tok {f:List Nd} {t:Tm} (h:IsF f t):t.ok:=by
 obtain ⟨h1,h2,h3⟩:=fErr_ok.1 h.ok
 rw [← h.tree]
 exact tmOf_ok h3 f.length _ (by omega) (by omega)
theorem finish_isF {x:Nd} {f:List Nd} (hf:Okay f) (hx:nErr x f.length=0) (hl:f.length≤199):IsF (finishL x f) (tmOf (f++[x]) f.length)∧(finishL x f).length≤f.length+1:=by
 have hok:Okay (f++[x]):=by
  intro k n hk
  rw [List.getElem?_append] at hk
  split at hk
  ·exact hf k n hk
  ·rename_i h1
   have:k=f.length:=by have:=(List.getElem?_eq_some_iff.1 hk).1;simp at this;omega
   subst this
   simp at hk;subst hk;exact hx
 have hlt:f.length < (f++[x]).length:=by simp
 have h1:=compactL_canon hok hlt
 have h2:=(compactL_eq hok hlt).2.1
 simp only [List.length_append,List.length_cons,List.length_nil] at h2
 have e:finishL x f=compactL (f++[x]) f.length:=by
  unfold finishL
  rw [if_neg (by omega),if_neg (by omega)]
 rw [e]
 exact ⟨⟨fErr_ok.2 ⟨h1.pos,by omega,h1.ok⟩,h1.tree⟩,h2⟩
theorem root_eq {x:Nd} {f:List Nd} (hf:Okay f) (hx:nErr x f.length=0):tmOf (f++[x]) f.length=cond (useY x.op) (.b x.hd (tmOf f x.x.toNat) (tmOf f x.y.toNat)) (cond (useX x.op) (.u x.hd (tmOf f x.x.toNat)) (.z x.hd)):=by
 have hok:Okay (f++[x]):=by
  intro k n hk
  rw [List.getElem?_append] at hk
  split at hk
  ·exact hf k n hk
  ·rename_i h1
   have:k=f.length:=by have:=(List.getElem?_eq_some_iff.1 hk).1;simp at this;omega
   subst this
   simp at hk;subst hk;exact hx
 have hg:(f++[x]).getD f.length default=x:=by simp [List.getD]
 obtain ⟨-,h2,-,h4,-⟩:=nErr_iff.1 hx
 rw [tmOf_eq hok (by simp),hg]
 cases hy:useY x.op with
 | true =>
  have hxx:=useX_of_useY hy
  have e1:=h2 hxx
  have e2:=h4 hy
  simp only [cond_true]
  rw [tmOf_append hf (by omega),tmOf_append hf (by omega)]
 | false =>
  cases hxx:useX x.op with
  | true =>
   have e1:=h2 hxx
   simp only [cond_true,cond_false]
   rw [tmOf_append hf (by omega)]
  | false=>rfl
theorem build_zero {h:Hd} (hh:HdOk h) (hx:useX h.op=false) (hy:useY h.op=false):IsF (buildL ⟨h.op,h.i,h.e,h.g,0,0⟩ []) (.z h)∧(buildL ⟨h.op,h.i,h.e,h.g,0,0⟩ []).length≤1:=by
 have hn:nErr ⟨h.op,h.i,h.e,h.g,0,0⟩ ([]:List Nd).length=0:=nErr_iff.2 ⟨hh,fun e=>by simp [hx] at e,fun _=>rfl,fun e=>by simp [hy] at e,fun _=>rfl⟩
 have h1:=finish_isF okay_nil hn (by simp)
 rw [root_eq okay_nil hn] at h1
 simp only [hx,hy,cond_false] at h1
 exact h1
theorem build_one {h:Hd} (hh:HdOk h) (hx:useX h.op=true) (hy:useY h.op=false) {o:List Nd} {t:Tm} (ho:IsF o t) (hl:o.length≤199):IsF (buildL ⟨h.op,h.i,h.e,h.g,0,0⟩ [o]) (.u h t)∧(buildL ⟨h.op,h.i,h.e,h.g,0,0⟩ [o]).length≤o.length+1:=by
 obtain ⟨c1,c2⟩:=ho.canon
 have hp:=c1.pos
 have e0:(addL [] (cL o)).length=(cL o).length:=by simp [addL]
 have hok:=addL_okay okay_nil c1.ok
 have ht:tmOf (addL [] (cL o)) ((cL o).length - 1)=t:=by
  have:=addL_tree (f:=[]) okay_nil c1.ok (cL o).length ((cL o).length - 1) (by omega) (by omega)
  rw [List.length_nil,Nat.zero_add] at this
  rw [this];exact c1.tree
 have hn:nErr ⟨h.op,h.i,h.e,h.g,((addL [] (cL o)).length:Int) - 1,0⟩ (addL [] (cL o)).length=0:=nErr_iff.2 ⟨hh,fun _=>by simp only;omega,fun e=>by simp [hx] at e,fun e=>by simp [hy] at e,fun _=>rfl⟩
 have e:buildL ⟨h.op,h.i,h.e,h.g,0,0⟩ [o]=finishL ⟨h.op,h.i,h.e,h.g,((addL [] (cL o)).length:Int) - 1,0⟩ (addL [] (cL o)):=by
  simp [buildL,buildGo,ho.ok]
 have h1:=finish_isF hok hn (by omega)
 rw [root_eq hok hn] at h1
 simp only [hx,hy,cond_false,cond_true] at h1
 rw [show (((addL [] (cL o)).length:Int) - 1).toNat=(cL o).length - 1 by omega,ht] at h1
 rw [e]
 exact ⟨h1.1,by have:=h1.2;omega⟩
theorem build_two {h:Hd} (hh:HdOk h) (hy:useY h.op=true) {o q:List Nd} {t u:Tm} (ho:IsF o t) (hq:IsF q u) (hl:o.length+q.length≤199):IsF (buildL ⟨h.op,h.i,h.e,h.g,0,0⟩ [o,q]) (.b h t u)∧(buildL ⟨h.op,h.i,h.e,h.g,0,0⟩ [o,q]).length≤o.length+q.length+1:=by
 have hx:=useX_of_useY hy
 obtain ⟨c1,c2⟩:=ho.canon
 obtain ⟨d1,d2⟩:=hq.canon
 have hp:=c1.pos
 have hp2:=d1.pos
 have e0:(addL [] (cL o)).length=(cL o).length:=by simp [addL]
 have hok:=addL_okay okay_nil c1.ok
 have hok2:=addL_okay hok d1.ok
 have e2:(addL (addL [] (cL o)) (cL q)).length=(cL o).length+(cL q).length:=by rw [addL,List.length_append,List.length_map,e0]
 have ht:tmOf (addL (addL [] (cL o)) (cL q)) ((cL o).length - 1)=t:=by
  rw [addL_old hok (by omega)]
  have:=addL_tree (f:=[]) okay_nil c1.ok (cL o).length ((cL o).length - 1) (by omega) (by omega)
  rw [List.length_nil,Nat.zero_add] at this
  rw [this];exact c1.tree
 have hu:tmOf (addL (addL [] (cL o)) (cL q)) ((cL o).length+(cL q).length - 1)=u:=by
  have:=addL_tree hok d1.ok (cL q).length ((cL q).length - 1) (by omega) (by omega)
  rw [e0,show (cL o).length+((cL q).length - 1)=(cL o).length+(cL q).length - 1 by omega] at this
  rw [this];exact d1.tree
 have hn:nErr ⟨h.op,h.i,h.e,h.g,((addL [] (cL o)).length:Int) - 1,((addL (addL [] (cL o)) (cL q)).length:Int) - 1⟩ (addL (addL [] (cL o)) (cL q)).length=0 :=
  nErr_iff.2 ⟨hh,fun _=>by simp only;omega,fun e=>by simp [hx] at e,fun _=>by simp only;omega,fun e=>by simp [hy] at e⟩
 have e:buildL ⟨h.op,h.i,h.e,h.g,0,0⟩ [o,q]=finishL ⟨h.op,h.i,h.e,h.g,((addL [] (cL o)).length:Int) - 1,((addL (addL [] (cL o)) (cL q)).length:Int) - 1⟩ (addL (addL [] (cL o)) (cL q)):=by
  simp [buildL,buildGo,ho.ok,hq.ok]
 have h1:=finish_isF hok2 hn (by omega)
 rw [root_eq hok2 hn] at h1
 simp only [hy,cond_true] at h1
 rw [show (((addL [] (cL o)).length:Int) - 1).toNat=(cL o).length - 1 by omega,show (((addL (addL [] (cL o)) (cL q)).length:Int) - 1).toNat=(cL o).length+(cL q).length - 1 by omega,ht,hu] at h1
 rw [e]
 exact ⟨h1.1,by have:=h1.2;omega⟩
theorem build_bad1 {x:Nd} {o:List Nd} (h:fErr o≠0):buildL x [o]=[]:=by simp [buildL,buildGo,h]
theorem build_bad2 {x:Nd} {o q:List Nd} (h:fErr o≠0∨fErr q≠0):buildL x [o,q]=[]:=by
 by_cases h1:fErr o=0
 ·have h2:=h.resolve_left (by omega)
  simp [buildL,buildGo,h1,h2]
 ·simp [buildL,buildGo,h1]
end Go.Ab
