/- A part of the proofs of this seat: functions and their contracts. -/
import Derived.Test.YtnmoepbhlbebkaaDoorMB
import Derived.RangeFuncLeaves
import Derived.RangeFuncRecord
import Derived.Shelf.Spec.TrailingZeros
set_option linter.unusedVariables false
set_option linter.unusedSimpArgs false
set_option linter.unusedSectionVars false
namespace Go.Ab
open Go
theorem zyK {α:Type} {l:List α} {i:Nat} {d:α} (h:i < l.length):l.getD i d∈l:=by
 simp [List.getD,h]
theorem ziO : ∀ {k:Nat} {l:List D},flats k l=true → ∀ i,i < l.length → ∃ k',k' < k∧(l.getD i .nil).flat k'=true
 | 0,l,h=>by simp [flats] at h
 | k+1,[],h=>fun i hi=>by simp at hi
 | k+1,x::r,h=>by
  simp only [flats,Bool.and_eq_true] at h
  intro i hi
  cases i with
  | zero=>exact ⟨k,by omega,h.1⟩
  | succ i =>
   obtain ⟨k',h1,h2⟩:=ziO h.2 i (by simpa using hi)
   exact ⟨k',by omega,by simpa using h2⟩
theorem zkF {X X':Nat→Prop} {w:World} : ∀ (k:Nat) (d:D) (v:Value),d.flat k=true→zj X w d v→zj X' w d v:=by
 intro k
 induction k using Nat.strongRecOn with
 | _ k ih =>
  intro d v hf h
  cases k with
  | zero=>simp [D.flat] at hf
  | succ k =>
   cases h with
   | bool b=>exact .bool b
   | int k n hk=>exact .int k n hk
   | u64 x=>exact .u64 x
   | str s=>exact .str s
   | nilf=>exact .nilf
   | nilp=>exact .nilp
   | nilm=>exact .nilm
   | map=>simp [D.flat] at hf
   | arr0 s a cap=>exact .arr0 s a cap
   | agg cs vs h1 h2 h3 =>
    simp only [D.flat] at hf
    exact .agg cs vs h1 h2 fun i hi=>by obtain ⟨k',h4,h5⟩:=ziO hf i hi;exact ih k' (by omega) _ _ h5 (h3 i hi)
   | tup cs vs h1 h3 =>
    simp only [D.flat] at hf
    exact .tup cs vs h1 fun i hi=>by obtain ⟨k',h4,h5⟩:=ziO hf i hi;exact ih k' (by omega) _ _ h5 (h3 i hi)
   | fn f cs vs h1 h3 =>
    simp only [D.flat] at hf
    exact .fn f cs vs h1 fun i hi=>by obtain ⟨k',h4,h5⟩:=ziO hf i hi;exact ih k' (by omega) _ _ h5 (h3 i hi)
   | arr s xs b off cap cv h1 h2 h3 h4 h5 h6 h7 =>
    cases xs with
    | nil=>exact .arr0 s _ cap
    | cons x r=>simp [D.flat] at hf
   | box=>simp [D.flat] at hf
theorem zk1 : ∀ {k:Nat} {l:List V},vflats k l=true → ∀ i,i < l.length → ∃ k',k' < k∧(l.getD i .undef).flat k'=true
 | 0,l,h=>by simp [vflats] at h
 | k+1,[],h=>fun i hi=>by simp at hi
 | k+1,x::r,h=>by
  simp only [vflats,Bool.and_eq_true] at h
  intro i hi
  cases i with
  | zero=>exact ⟨k,by omega,h.1⟩
  | succ i =>
   obtain ⟨k',h1,h2⟩:=zk1 h.2 i (by simpa using hi)
   exact ⟨k',by omega,by simpa using h2⟩
theorem zcZ {js:List Nat} {n:Nat} : ∀ (k:Nat) (l:List V),(renVs js n k l).length=l.length
 | 0,l=>by simp [renVs]
 | k+1,[]=>rfl
 | k+1,v::r=>by simp [renVs,zcZ k r]
theorem zmq {js:List Nat} {n:Nat} : ∀ (k:Nat) (l:List V) (i:Nat),i < l.length→(renVs js n k l).getD i .undef = .undef ∨ ∃ k',k' < k∧(renVs js n k l).getD i .undef=zje js n k' (l.getD i .undef)
 | 0,l,i,hi=>by left;simp [renVs,List.getD,hi]
 | k+1,[],i,hi=>by simp at hi
 | k+1,v::r,0,hi => .inr ⟨k,by omega,by simp [renVs]⟩
 | k+1,v::r,i+1,hi=>by
  rcases zmq k r i (by simpa using hi) with h|⟨k',h1,h2⟩
  ·left;simpa [renVs] using h
  ·exact .inr ⟨k',by omega,by simpa [renVs] using h2⟩
section
variable {σ σ':Nat→Option Nat} {M M':Nat→Option Ob} {F F' X X':Nat→Prop} {w:World} {js:List Nat} {n:Nat}
theorem zvc (hσ : ∀ i,¬ F i→σ' (zaK js n i)=σ i) (hM : ∀ i,¬ F i→M' (zaK js n i)=zeI js n (M i)) (hF : ∀ i,¬ F i → ¬ F' (zaK js n i)) (hFM : ∀ i,F i→M i=none)
  : ∀ (k:Nat) (v:V) (u:Value),((∃ k',v.flat k'=true) ∨ ∀ b,b < w.heap.size→X' b→X b)→VSim σ M F X w v u→VSim σ' M' F' X' w (zje js n k v) u:=by
 have live : ∀ {i:Nat} {ob:Ob},M i=some ob → ¬ F i:=fun h hf=>by rw [hFM _ hf] at h;cases h
 intro k
 induction k using Nat.strongRecOn with
 | _ k ih =>
  intro v u hX h
  cases k with
  | zero=>exact .undef u
  | succ k =>
   have list : ∀ (cs:List V) (us:Array Value),((∃ k',vflats k' cs=true) ∨ ∀ b,b < w.heap.size→X' b→X b)→(∀ i,i < cs.length→VSim σ M F X w (cs.getD i .undef) (us.getD i undef)) →
     ∀ i,i < (renVs js n k cs).length→VSim σ' M' F' X' w ((renVs js n k cs).getD i .undef) (us.getD i undef):=by
    intro cs us hX hs i hi
    rw [zcZ] at hi
    rcases zmq (js:=js) (n:=n) k cs i hi with e|⟨k',hk,e⟩
    ·rw [e];exact .undef _
    ·rw [e]
     refine ih k' (by omega) _ _ ?_ (hs i hi)
     rcases hX with ⟨k2,h2⟩|hX
     ·obtain ⟨k3,_,h3⟩:=zk1 h2 i hi
      exact .inl ⟨k3,h3⟩
     ·exact .inr hX
   cases h with
   | d x _ hx =>
    rcases hX with ⟨k',hf⟩|hX
    ·cases k' with
     | zero=>simp [V.flat] at hf
     | succ k'=>exact .d x u (zkF k' _ _ hf hx)
    ·exact .d x u (hx.mono (fun _ _ _=>rfl) hX)
   | bt=>exact .bt
   | bf=>exact .bf
   | undef=>exact .undef u
   | nils s=>exact .nils s
   | ownDead id ad l c h1 h2=>exact .ownDead _ ad l c (by rw [hM id h2,h1];rfl) (hF id h2)
   | own id s xs b cap c e h1 h2 h3 h4 h5=>exact .own _ s xs b cap c e (by rw [hM id (live h1),h1];rfl) (by rw [hσ id (live h1),h2]) h3 h4 h5
   | ownNil id s h1 h2=>exact .ownNil _ s (by rw [hM id (live h1),h1];rfl) (by rw [hσ id (live h1),h2])
   | ptrDead id o ad h1 h2=>exact .ptrDead _ o ad (by rw [hM id h2,h1];rfl) (hF id h2)
   | ptr id o cs b h1 h2=>exact .ptr _ o _ b (by rw [hM id (live h1),h1];rfl) (by rw [hσ id (live h1),h2])
   | eptrDead id i o ad h1 h2=>exact .eptrDead _ i o ad (by rw [hM id h2,h1];rfl) (hF id h2)
   | eptr id i o s xs b h1 h2 h3=>exact .eptr _ i o s xs b (by rw [hM id (live h1),h1];rfl) (by rw [hσ id (live h1),h2]) h3
   | mapDead id r h1 h2=>exact .mapDead _ r (by rw [hM id h2,h1];rfl) (hF id h2)
   | map id es b h1 h2=>exact .map _ es b (by rw [hM id (live h1),h1];rfl) (by rw [hσ id (live h1),h2])
   | iterDead=>exact .undef _
   | iter=>exact .undef _
   | viewDead=>exact .undef _
   | view0=>exact .undef _
   | view=>exact .undef _
   | bownDead id l ad cap h1 h2=>exact .bownDead _ l ad cap (by rw [hM id h2,h1];rfl) (hF id h2)
   | bown id l cs b cap c e h1 h2 h3 h4 h5=>exact .bown _ l _ b cap c e (by rw [hM id (live h1),h1];rfl) (by rw [hσ id (live h1),h2]) h3 h4 h5
   | dptr s x o b off cv h1 h2 h3 h4 h5 =>
    rcases hX with ⟨k',hf⟩|hX
    ·cases k'<;>simp [V.flat] at hf
    ·exact .dptr s x o b off cv (fun hb=>h1 (hX b h2 hb)) h2 h3 h4 fun j hj=>(h5 j hj).mono (fun _ _ _=>rfl) hX
   | agg cs us h1 h2 h3 =>
    have hX':(∃ k',vflats k' cs=true) ∨ ∀ b,b < w.heap.size→X' b→X b:=by
     rcases hX with ⟨k',hf⟩|hX
     ·cases k' with
      | zero=>simp [V.flat] at hf
      | succ k'=>exact .inl ⟨k',hf⟩
     ·exact .inr hX
    exact .agg _ us (by rw [zcZ];exact h1) (fun i hi=>h2 i (by rwa [zcZ] at hi)) (list cs us hX' h3)
   | tup cs us h1 h3 =>
    have hX':(∃ k',vflats k' cs=true) ∨ ∀ b,b < w.heap.size→X' b→X b:=by
     rcases hX with ⟨k',hf⟩|hX
     ·cases k' with
      | zero=>simp [V.flat] at hf
      | succ k'=>exact .inl ⟨k',hf⟩
     ·exact .inr hX
    exact .tup _ us (by rw [zcZ];exact h1) (list cs us hX' h3)
   | yld l=>exact .yld l
   | fn f cs us h1 h3 =>
    have hX':(∃ k',vflats k' cs=true) ∨ ∀ b,b < w.heap.size→X' b→X b:=by
     rcases hX with ⟨k',hf⟩|hX
     ·cases k' with
      | zero=>simp [V.flat] at hf
      | succ k'=>exact .inl ⟨k',hf⟩
     ·exact .inr hX
    exact .fn f _ us (by rw [zcZ];exact h1) (list cs us hX' h3)
theorem zBv (hσ : ∀ i,¬ F i→σ' (zaK js n i)=σ i) (hM : ∀ i,¬ F i→M' (zaK js n i)=zeI js n (M i)) (hF : ∀ i,¬ F i → ¬ F' (zaK js n i)) (hFM : ∀ i,F i→M i=none)
  {i:Nat} {ob ob':Ob} (hX:Ob.Flat (some ob) ∨ ∀ b,b < w.heap.size→X' b→X b) (hi : ¬ F i) (hr:zeI js n (some ob)=some ob') (h:zby σ M F X w i ob) :
  zby σ' M' F' X' w (zaK js n i) ob':=by
 cases h with
 | nilrow s h1=>cases hr;exact .nilrow s (by rw [hσ i hi,h1])
 | row s xs b c e h1 h2 h3 h4 h5 h6 =>
  cases hr
  refine .row s xs b c e (by rw [hσ i hi,h1]) h2 h3 h4 h5 fun p q hp hq=>?_
  rcases hX with hf|hX
  ·have hx:=hf (xs.getD p .nil) (by simp [List.getD,hp])
   have hfit:=h5 (xs.getD p .nil) (by simp [List.getD,hp])
   have hlen:(xs.getD p .nil).cells.length=s:=by
    generalize xs.getD p .nil=x at hfit
    cases x<;>simp [D.fits,D.cells] at hfit ⊢ <;> omega
   have hy:(xs.getD p .nil).cells.getD q .nil∈(xs.getD p .nil).cells:=zyK (by omega)
   exact zkF 10 _ _ (hx _ hy) (h6 p q hp hq)
  ·exact (h6 p q hp hq).mono (fun _ _ _=>rfl) hX
 | box cs b c e h1 h2 h3 h4 h5 =>
  cases hr
  refine .box _ b c e (by rw [hσ i hi,h1]) h2 (by rw [zcZ];exact h3) (fun p hp=>h4 p (by rwa [zcZ] at hp)) fun p hp=>?_
  rw [zcZ] at hp
  rcases zmq (js:=js) (n:=n) 20 cs p hp with e'|⟨k',hk,e'⟩
  ·rw [e'];exact .undef _
  ·rw [e']
   refine zvc hσ hM hF hFM k' _ _ ?_ (h5 p hp)
   rcases hX with hf|hX
   ·obtain ⟨k3,_,h3⟩:=zk1 hf p hp
    exact .inl ⟨k3,h3⟩
   ·exact .inr hX
 | map es b ents clock h1 h2 h3 h4 h5 h6 =>
  cases hr
  have up : ∀ (p:Nat),p < es.length → ∀ d v,(d=(es.getD p (.nil,.nil)).1∨d=(es.getD p (.nil,.nil)).2)→zj X w d v→zj X' w d v:=by
   intro p hp d v hd hv
   rcases hX with hf|hX
   ·have:=hf (es.getD p (.nil,.nil)) (by simp [List.getD,hp])
    rcases hd with rfl|rfl
    ·exact zkF 10 _ _ this.1 hv
    ·exact zkF 10 _ _ this.2 hv
   ·exact hv.mono (fun _ _ _=>rfl) hX
  exact .map es b ents clock (by rw [hσ i hi,h1]) h2 h3 h4 (fun p hp=>up p hp _ _ (.inl rfl) (h5 p hp)) (fun p hp=>up p hp _ _ (.inr rfl) (h6 p hp))
 | iterNil=>cases hr
 | iter=>cases hr
 | todo=>cases hr
end
theorem zoK : ∀ (u:Upd) (M:Nat→Option Ob) (i:Nat) (x:Option Ob),(i,x)∈u→(∀ y,(i,y)∈u→y=x)→zq u M i=x
 | [],M,i,x,h,_=>by cases h
 | (j,y)::r,M,i,x,h,hu=>by
  simp only [zq]
  by_cases hr : ∃ z,(i,z)∈r
  ·obtain ⟨z,hz⟩:=hr
   have:=hu z (by simp [hz])
   subst this
   exact zoK r _ i z hz fun y hy=>hu y (by simp [hy])
  ·rw [za4 r _ i (by simpa using hr)]
   rcases List.mem_cons.1 h with e|h
   ·cases e;simp [zg]
   ·exact absurd ⟨x,h⟩ hr
theorem zq6 {js0:List Nat} {n:Nat} {obs':List (Option Ob)} : ∀ (js:List Nat) (i j:Nat) (x:Option Ob),(j,x)∈zoU js0 n obs' i js ↔ ∃ t,js[t]? = some j∧x=zeI js0 n (obs'.getD (i+t) none)
 | [],i,j,x=>by simp [zoU]
 | j'::r,i,j,x=>by
  simp only [zoU,List.mem_cons,Prod.mk.injEq]
  rw [zq6 r]
  constructor
  ·rintro (⟨rfl,rfl⟩|⟨t,h1,h2⟩)
   ·exact ⟨0,rfl,rfl⟩
   ·exact ⟨t+1,by simpa using h1,by rwa [show i+(t+1)=i+1+t by omega]⟩
  ·rintro ⟨t,h1,h2⟩
   cases t with
   | zero=>left;simp at h1;exact ⟨h1.symm,by simpa using h2⟩
   | succ t=>right;exact ⟨t,by simpa using h1,by rwa [show i+1+t=i+(t+1) by omega]⟩
theorem ztB {js:List Nat} {n:Nat} : ∀ (l:List (Option Ob)) (i j:Nat) (x:Option Ob),(j,x)∈ztA js n i l ↔ ∃ t,t < l.length∧j=i+t∧x=zeI js n (l.getD t none)
 | [],i,j,x=>by simp [ztA]
 | ob::r,i,j,x=>by
  simp only [ztA,List.mem_cons,Prod.mk.injEq]
  rw [ztB r]
  constructor
  ·rintro (⟨rfl,rfl⟩|⟨t,h1,h2,h3⟩)
   ·exact ⟨0,by simp,rfl,rfl⟩
   ·exact ⟨t+1,by simp;omega,by omega,by simpa using h3⟩
  ·rintro ⟨t,h1,h2,h3⟩
   cases t with
   | zero=>left;exact ⟨by omega,by simpa using h3⟩
   | succ t=>right;exact ⟨t,by simp at h1;omega,by omega,by simpa using h3⟩
theorem zdA : ∀ (l:List Nat) (j:Nat) (x:Option Ob),(j,x)∈zgy l↔j∈l∧x=none
 | [],j,x=>by simp [zgy]
 | i::r,j,x=>by
  simp only [zgy,List.mem_cons,Prod.mk.injEq]
  rw [zdA r]
  constructor
  ·rintro (⟨rfl,rfl⟩|⟨h1,h2⟩)
   ·exact ⟨.inl rfl,rfl⟩
   ·exact ⟨.inr h1,h2⟩
  ·rintro ⟨rfl|h1,h2⟩
   ·exact .inl ⟨rfl,h2⟩
   ·exact .inr ⟨h1,h2⟩
theorem zml : ∀ {js:List Nat},nodup js=true → ∀ {s t j:Nat},js[s]? = some j→js[t]? = some j→s=t
 | [],_,s,t,j,h,_=>by simp at h
 | x::r,h,s,t,j,h1,h2=>by
  simp only [nodup,Bool.and_eq_true,Bool.not_eq_true'] at h
  have hx : ∀ t,r[t]? = some x→False:=fun t ht=>by
   have:=List.mem_of_getElem? ht
   simp [this] at h
  cases s<;>cases t
  ·rfl
  ·simp at h1;subst h1;exact (hx _ (by simpa using h2)).elim
  ·simp at h2;subst h2;exact (hx _ (by simpa using h1)).elim
  ·simp at h1 h2;rw [zml h.2 h1 h2]
end Go.Ab
namespace Go.Ab
open Go
section
variable {P:Program} {B:zx} {ρ:Nat→V} {M:Nat→Option Ob} {F:Nat→Prop} {σ:Nat→Option Nat} {a:Act} {w:World} {js fz:List Nat}
def zbY (h:Sim B ρ M F σ a w) (js fz:List Nat):zx where
 w0:=w
 O:=fun b=>b < w.heap.size∧(B.O b ∨ ∃ id,M id≠none∧σ id=some b∧id ∉ js∧id ∉ fz)
 R:=fun b => ∃ id,id∈js∧M id≠none∧σ id=some b
 nt:=B.nt
 pin:=B.pin
 pinO:=fun b o hp=>⟨h.olt b (B.pinO b o hp),.inl (B.pinO b o hp)⟩
 ghost:=fun _=>undef
 small:=B.small
 dfr:=B.dfr
 inv:=fun _ _ _ _=>True
 stab:=fun _ _ _ _ _ _ _ _ _ _ _ _=>trivial
 mono:=fun _ _ _ _ _ _ _=>trivial
def zX (js:List Nat) (σ:Nat→Option Nat):Nat→Option Nat:=fun i=>(js[i]?).bind σ
theorem zgT {obs:List Ob} {i:Nat} {ob:Ob} (h:zE (obs.map some) i=some ob):obs[i]? = some ob:=by
 unfold zE at h
 by_cases hi:i < obs.length
 ·simp [List.getD,hi] at h
  rw [List.getElem?_eq_getElem hi,h]
 ·simp [List.getD,hi] at h
theorem zmz {obs:List Ob} {i:Nat} {ob:Ob} (h:obs[i]? = some ob):zE (obs.map some) i=some ob:=by
 obtain ⟨hi,he⟩:=List.getElem?_eq_some_iff.1 h
 simp [zE,List.getD,hi,he]
theorem zdw : ∀ {obs:List Ob} {l:List Nat},zaN M js fz obs l→obs.length=l.length ∧ ∀ (i:Nat) (ob:Ob),obs[i]? = some ob → ∃ j:Nat,l[i]? = some j∧zbA M js fz ob (M j)
 | [],l,h=>by simp only [zaN] at h;subst h;exact ⟨rfl,fun i ob h=>by simp at h⟩
 | ob::obs,[],h=>by simp [zaN] at h
 | ob::obs,j::l,h=>by
  simp only [zaN] at h
  obtain ⟨h1,h2⟩:=zdw h.2
  refine ⟨by simp [h1],fun i o hi=>?_⟩
  cases i with
  | zero=>cases hi;exact ⟨j,rfl,h.1⟩
  | succ i=>obtain ⟨j',h3,h4⟩:=h2 i o (by simpa using hi);exact ⟨j',by simpa using h3,h4⟩
theorem zev {ob:Ob} {x:Option Ob} (h:zbA M js fz ob x):x≠none:=by
 rintro rfl;exact h
theorem zf5 : ∀ {k:Nat} {l x:List V},VPasses M js fz k l x→l.length=x.length ∧ ∀ i,i < l.length → ∃ k',k' < k∧zbX M js fz k' (l.getD i .undef) (x.getD i .undef)
 | 0,_,_,h=>by simp [VPasses] at h
 | k+1,[],x,h=>by simp only [VPasses] at h;subst h;exact ⟨rfl,fun i hi=>by simp at hi⟩
 | k+1,v::vs,[],h=>by simp [VPasses] at h
 | k+1,v::vs,x::xs,h=>by
  simp only [VPasses] at h
  obtain ⟨h1,h2⟩:=zf5 h.2
  refine ⟨by simp [h1],fun i hi=>?_⟩
  cases i with
  | zero=>exact ⟨k,by omega,h.1⟩
  | succ i=>obtain ⟨k',h3,h4⟩:=h2 i (by simpa using hi);exact ⟨k',by omega,by simpa using h4⟩
theorem zyo (h:Sim B ρ M F σ a w) {obs:List Ob} (ho:zaN M js fz obs js) {b:Nat} (hb:(zbY h js fz).X (zX js σ) (zE (obs.map some)) b) :
  B.X σ M b ∧ ∀ id,id∈fz→id ∉ js→M id≠none→σ id=some b→False:=by
 rcases hb with ⟨hlt,hb|⟨id,h1,h2,h3,h4⟩⟩|⟨i,h1,h2⟩
 ·exact ⟨.inl hb,fun id _ _ h1 h2=>(h.mine id b h1 h2).1 hb⟩
 ·refine ⟨.inr ⟨id,h1,h2⟩,fun id' h5 h6 h7 h8=>?_⟩
  have:=h.inj id id' b h1 h7 h2 h8
  subst this;exact h4 h5
 ·obtain ⟨ob,hob⟩:=Option.ne_none_iff_exists'.1 h1
  obtain ⟨j,hj,hp⟩:=(zdw ho).2 i ob (zgT hob)
  have h2':σ j=some b:=by simpa [zX,hj] using h2
  have ha:=zev hp
  refine ⟨.inr ⟨j,ha,h2'⟩,fun id' h5 h6 h7 h8=>?_⟩
  have:=h.inj j id' b ha h7 h2' h8
  subst this;exact h6 (List.mem_of_getElem? hj)
theorem zoz (h:Sim B ρ M F σ a w) {obs:List Ob} (ho:zaN M js fz obs js) (hdj : ∀ i∈fz,i ∉ js) : ∀ (k:Nat) (l x:V) (u:Value),zbX M js fz k l x→VSim σ M F (B.X σ M) w x u →
  VSim (zX js σ) (zE (obs.map some)) (fun i=>obs.length≤i) ((zbY h js fz).X (zX js σ) (zE (obs.map some))) w l u:=by
 obtain ⟨hlen,hobs⟩:=zdw ho
 have alive : ∀ {i j:Nat},js[i]? = some j → ∃ ob,zE (obs.map some) i=some ob∧zbA M js fz ob (M j)∧zX js σ i=σ j:=by
  intro i j hj
  have hi:=(List.getElem?_eq_some_iff.1 hj).1
  obtain ⟨j',h1,h2⟩:=hobs i obs[i] (List.getElem?_eq_getElem (by omega))
  rw [hj] at h1;cases h1
  exact ⟨obs[i],zmz (List.getElem?_eq_getElem (by omega)),h2,by simp [zX,hj]⟩
 intro k
 induction k using Nat.strongRecOn with
 | _ k ih =>
  intro l x u hp hx
  cases k with
  | zero=>simp [zbX] at hp
  | succ k =>
   have list : ∀ (cs xs:List V) (us:Array Value),VPasses M js fz k cs xs→(∀ i,i < xs.length→VSim σ M F (B.X σ M) w (xs.getD i .undef) (us.getD i undef)) →
     cs.length=xs.length ∧ ∀ i,i < cs.length→VSim (zX js σ) (zE (obs.map some)) (fun i=>obs.length≤i) ((zbY h js fz).X (zX js σ) (zE (obs.map some))) w (cs.getD i .undef) (us.getD i undef):=by
    intro cs xs us hc hs
    obtain ⟨h1,h2⟩:=zf5 hc
    refine ⟨h1,fun i hi=>?_⟩
    obtain ⟨k',h3,h4⟩:=h2 i hi
    exact ih k' (by omega) _ _ _ h4 (hs i (by omega))
   cases l with
   | undef=>exact .undef u
   | d y =>
    simp only [zbX] at hp
    refine .d y u ?_
    have hfr:=(zcU (M':=fun id=>if id∈V.reach M 20 x then none else M id) h (fun j hj=>by
     split at hj
     ·exact absurd rfl hj
     ·exact hj) true 20).1 x y u hp.1 hx (fun id hid=>by
      simp only [zaW,cond_true] at hid
      simp [hid])
    refine hfr.mono (fun _ _ _=>rfl) (fun b hlt hb=>?_)
    rcases hb with ⟨-,hb|⟨id,h1,h2,h3,h4⟩⟩|⟨i,h1,h2⟩
    ·exact .inl hb
    ·refine .inr ⟨id,?_,h2⟩
     simp only
     rw [if_neg (fun hm=>h4 (zfy hp.2 id hm))]
     exact h1
    ·obtain ⟨ob,hob⟩:=Option.ne_none_iff_exists'.1 h1
     obtain ⟨j,hj,hpj⟩:=hobs i ob (zgT hob)
     refine .inr ⟨j,?_,by simpa [zX,hj] using h2⟩
     simp only
     rw [if_neg (fun hm=>hdj j (zfy hp.2 j hm) (List.mem_of_getElem? hj))]
     exact zev hpj
   | bt=>simp only [zbX] at hp;subst hp;cases hx;exact .bt
   | bf=>simp only [zbX] at hp;subst hp;cases hx;exact .bf
   | nils s=>simp only [zbX] at hp;subst hp;cases hx;exact .nils s
   | own i =>
    simp only [zbX] at hp
    obtain ⟨j,hj,rfl⟩:=hp
    obtain ⟨ob,h1,h2,h3⟩:=alive hj
    cases hx with
    | ownDead _ ad l c h4 h5=>rw [h4] at h2;exact h2.elim
    | own _ s xs b cap c e h4 h5 h6 h7 h8 =>
     rw [h4] at h2
     simp only [zbA] at h2
     subst h2
     exact .own i s xs b cap c e h1 (h3.trans h5) h6 h7 h8
    | ownNil _ s h4 h5 =>
     rw [h4] at h2
     simp only [zbA] at h2
     subst h2
     exact .ownNil i s h1 (h3.trans h5)
   | ptr i o =>
    simp only [zbX] at hp
    obtain ⟨j,hj,rfl⟩:=hp
    obtain ⟨ob,h1,h2,h3⟩:=alive hj
    cases hx with
    | ptrDead _ _ ad h4 h5=>rw [h4] at h2;exact h2.elim
    | ptr _ _ cs b h4 h5 =>
     rw [h4] at h2
     simp only [zbA] at h2
     obtain ⟨cs',rfl,-⟩:=h2
     exact .ptr i o cs' b h1 (h3.trans h5)
   | bown i o =>
    simp only [zbX] at hp
    obtain ⟨j,hj,rfl⟩:=hp
    obtain ⟨ob,h1,h2,h3⟩:=alive hj
    cases hx with
    | bownDead _ _ ad cap h4 h5=>rw [h4] at h2;exact h2.elim
    | bown _ _ cs b cap c e h4 h5 h6 h7 h8 =>
     rw [h4] at h2
     simp only [zbA] at h2
     obtain ⟨cs',rfl,-⟩:=h2
     exact .bown i o cs' b cap c e h1 (h3.trans h5) h6 h7 h8
   | map i =>
    simp only [zbX] at hp
    obtain ⟨j,hj,rfl⟩:=hp
    obtain ⟨ob,h1,h2,h3⟩:=alive hj
    cases hx with
    | mapDead _ ad h4 h5=>rw [h4] at h2;exact h2.elim
    | map _ es b h4 h5 =>
     rw [h4] at h2
     simp only [zbA] at h2
     subst h2
     exact .map i es b h1 (h3.trans h5)
   | agg cs =>
    simp only [zbX] at hp
    obtain ⟨xs,rfl,hp⟩:=hp
    cases hx with
    | agg _ us h1 h2 h3 =>
     obtain ⟨h4,h5⟩:=list cs xs us hp h3
     exact .agg cs us (by omega) (fun i hi=>h2 i (by omega)) h5
   | tup cs =>
    simp only [zbX] at hp
    obtain ⟨xs,rfl,hp⟩:=hp
    cases hx with
    | tup _ us h1 h3 =>
     obtain ⟨h4,h5⟩:=list cs xs us hp h3
     exact .tup cs us (by omega) h5
   | fn f cs =>
    simp only [zbX] at hp
    obtain ⟨xs,rfl,hp⟩:=hp
    cases hx with
    | fn _ _ us h1 h3 =>
     obtain ⟨h4,h5⟩:=list cs xs us hp h3
     exact .fn f cs us (by omega) h5
   | _=>simp [zbX] at hp
theorem zpi (h:Sim B ρ M F σ a w) {obs:List Ob} (ho:zaN M js fz obs js) (hdj : ∀ i∈fz,i ∉ js) (hnd:nodup js=true) :
  Sim (zbY h js fz) (fun _ => .undef) (zE (obs.map some)) (fun i=>obs.length≤i) (zX js σ) a w:=by
 obtain ⟨hlen,hobs⟩:=zdw ho
 have alive : ∀ {i b:Nat},zE (obs.map some) i≠none→zX js σ i=some b → ∃ j,js[i]? = some j∧M j≠none∧σ j=some b:=by
  intro i b h1 h2
  obtain ⟨ob,hob⟩:=Option.ne_none_iff_exists'.1 h1
  obtain ⟨j,hj,hp⟩:=hobs i ob (zgT hob)
  exact ⟨j,hj,zev hp,by simpa [zX,hj] using h2⟩
 have hless : ∀ {d:D} {u:Value},zj (B.X σ M) w d u→zj ((zbY h js fz).X (zX js σ) (zE (obs.map some))) w d u:=fun hd=>hd.mono (fun _ _ _=>rfl) fun b _ hb=>(zyo h ho hb).1
 refine ⟨fun t => .undef _,fun i ob hi=>?_,fun i j b h1 h2 h3 h4=>?_,fun i b h1 h2=>?_,fun i hi=>?_,⟨rfl,rfl,rfl,Nat.le_refl _,fun _ _ _=>rfl,fun b c e hc=>⟨c,hc,rfl⟩⟩,h.nt,fun b hb=>hb.1,h.pins,fun _ _ _=>trivial⟩
 ·obtain ⟨j,hj,hp⟩:=hobs i ob (zgT hi)
  have hσ:zX js σ i=σ j:=by simp [zX,hj]
  cases hm:M j with
  | none=>rw [hm] at hp;exact hp.elim
  | some ob' =>
   rw [hm] at hp
   have hs:=h.mem j ob' hm
   cases hs with
   | nilrow s h1=>simp only [zbA] at hp;subst hp;exact .nilrow s (hσ.trans h1)
   | row s xs b c e h1 h2 h3 h4 h5 h6 =>
    simp only [zbA] at hp;subst hp
    exact .row s xs b c e (hσ.trans h1) h2 h3 h4 h5 fun p q hp hq=>hless (h6 p q hp hq)
   | box xs b c e h1 h2 h3 h4 h5 =>
    simp only [zbA] at hp
    obtain ⟨cs,rfl,hp⟩:=hp
    obtain ⟨h6,h7⟩:=zf5 hp
    refine .box cs b c e (hσ.trans h1) h2 (by omega) (fun p hp=>h4 p (by omega)) fun p hp=>?_
    obtain ⟨k',-,h8⟩:=h7 p hp
    exact zoz h ho hdj k' _ _ _ h8 (h5 p (by omega))
   | map es b ents clock h1 h2 h3 h4 h5 h6 =>
    simp only [zbA] at hp;subst hp
    exact .map es b ents clock (hσ.trans h1) h2 h3 h4 (fun p hp=>hless (h5 p hp)) fun p hp=>hless (h6 p hp)
   | iterNil=>exact hp.elim
   | iter=>exact hp.elim
   | todo=>exact hp.elim
 ·obtain ⟨i',e1,e2,e3⟩:=alive h1 h3
  obtain ⟨j',f1,f2,f3⟩:=alive h2 h4
  have:=h.inj i' j' b e2 f2 e3 f3
  subst this
  exact zml hnd e1 f1
 ·obtain ⟨j,e1,e2,e3⟩:=alive h1 h2
  have hmem:=List.mem_of_getElem? e1
  refine ⟨?_,.inl ⟨j,hmem,e2,e3⟩⟩
  rintro ⟨-,hb|⟨id,g1,g2,g3,g4⟩⟩
  ·exact (h.mine j b e2 e3).1 hb
  ·have:=h.inj j id b e2 g1 e3 g2
   subst this;exact g3 hmem
 ·simp [zE,List.getD,hi]
end
end Go.Ab
namespace Go.Ab
open Go
def zcX (js:List Nat) (n m':Nat) (id:Nat):Option Nat :=
 if id∈js then some (js.idxOf id) else if n≤id∧id < n+(m' - js.length) then some (js.length+(id - n)) else none
theorem ziS {js:List Nat} {id:Nat} (h:id∈js):js[js.idxOf id]? = some id:=by
 have hlt:=List.idxOf_lt_length_of_mem h
 rw [List.getElem?_eq_getElem hlt]
 exact congrArg some (List.getElem_idxOf hlt)
theorem zyQ {js:List Nat} {n m' id i:Nat} (hle:js.length≤m') (h:zcX js n m' id=some i):i < m'∧zaK js n i=id:=by
 unfold zcX at h
 split at h
 ·rename_i hm
  cases h
  have hlt:=List.idxOf_lt_length_of_mem hm
  exact ⟨by omega,by simp only [zaK,ziS hm]⟩
 ·split at h
  ·cases h
   refine ⟨by omega,?_⟩
   simp only [zaK]
   rw [List.getElem?_eq_none (by omega)]
   simp only;omega
  ·cases h
theorem zAh {js:List Nat} {n m' i:Nat} (hnd:nodup js=true) (hn : ∀ j∈js,¬ (n≤j∧j < n+(m' - js.length))) (hi:i < m'):zcX js n m' (zaK js n i)=some i:=by
 unfold zcX zaK
 cases hj:js[i]? with
 | some j =>
  simp only
  have hm:=List.mem_of_getElem? hj
  rw [if_pos hm]
  exact congrArg some (zml hnd (ziS hm) hj)
 | none =>
  have hge:js.length≤i:=by
   rcases Nat.lt_or_ge i js.length with h|h
   ·rw [List.getElem?_eq_getElem h] at hj;cases hj
   ·exact h
  simp only
  have hin:n≤n+(i - js.length)∧n+(i - js.length) < n+(m' - js.length):=by omega
  rw [if_neg (fun hm=>hn _ hm hin),if_pos hin]
  congr 1;omega
theorem zs4 : ∀ {obs:List (Option Ob)},Obs.Flat obs → ∀ i,Ob.Flat (zE obs i)
 | [],_,i=>by simp [zE,Ob.Flat]
 | ob::r,h,0=>h.1
 | ob::r,h,i+1=>by have:=zs4 h.2 i;simpa [zE] using this
section
variable {P:Program}
theorem zuF {B:zx} {ρ:Nat→V} {M:Nat→Option Ob} {F:Nat→Prop} {σ:Nat→Option Nat} {a:Act} {w:World} (h:Sim B ρ M F σ a w) : ∀ (k:Nat),
  (∀ (x:V) (u:Value),VSim σ M F (B.X σ M) w x u → ∀ id∈V.reach M k x,¬ F id) ∧
  (∀ (cs:List V) (f:Nat→Value),(∀ i,i < cs.length→VSim σ M F (B.X σ M) w (cs.getD i .undef) (f i)) → ∀ id∈reachs M k cs,¬ F id):=by
 have live : ∀ {id:Nat} {ob:Ob},M id=some ob → ¬ F id:=fun hm hf=>by rw [h.free _ hf] at hm;cases hm
 intro k
 induction k with
 | zero=>exact ⟨fun x u _ id hid=>by simp [V.reach] at hid,fun cs f _ id hid=>by simp [reachs] at hid⟩
 | succ k ih =>
  constructor
  ·intro x u hx id hid
   cases hx with
   | ownDead i ad l c h1 h2=>simp [V.reach] at hid;subst hid;exact h2
   | own i s xs b cap c e h1=>simp [V.reach] at hid;subst hid;exact live h1
   | ownNil i s h1=>simp [V.reach] at hid;subst hid;exact live h1
   | ptrDead i o ad h1 h2=>simp [V.reach,h1] at hid;subst hid;exact h2
   | ptr i o cs b h1 h2 =>
    simp only [V.reach,h1,List.mem_cons] at hid
    rcases hid with rfl|hid
    ·exact live h1
    ·obtain ⟨c,e,h3,h4,h5,h6⟩:=zeE h h1 h2
     exact ih.2 cs (fun i=>c.getD i undef) h6 id hid
   | eptrDead i j o ad h1 h2=>simp [V.reach] at hid;subst hid;exact h2
   | eptr i j o s xs b h1=>simp [V.reach] at hid;subst hid;exact live h1
   | mapDead i r h1 h2=>simp [V.reach] at hid;subst hid;exact h2
   | map i es b h1=>simp [V.reach] at hid;subst hid;exact live h1
   | iterDead i ad h1 h2=>simp [V.reach] at hid;subst hid;exact h2
   | iter i l c b h1=>simp [V.reach] at hid;subst hid;exact live h1
   | viewDead i lo l ad cap h1 h2=>simp [V.reach] at hid;subst hid;exact h2
   | view i lo l s xs b cap h1=>simp [V.reach] at hid;subst hid;exact live h1
   | view0 i lo ad cap h1 =>
    simp [V.reach] at hid;subst hid
    rcases h1 with h1|h1
    ·obtain ⟨ob,hob⟩:=Option.ne_none_iff_exists'.1 h1;exact live hob
    ·exact h1
   | bownDead i l ad cap h1 h2=>simp [V.reach,h1] at hid;subst hid;exact h2
   | bown i l cs b cap c e h1 h2 h3' h4' =>
    simp only [V.reach,h1,List.mem_cons] at hid
    rcases hid with rfl|hid
    ·exact live h1
    ·obtain ⟨c,e,h3,h4,h5,h6⟩:=zeE h h1 h2
     exact ih.2 cs (fun i=>c.getD i undef) h6 id hid
   | agg cs us h1 h2 h3=>exact ih.2 cs (fun i=>us.getD i undef) h3 id (by simpa [V.reach] using hid)
   | tup cs us h1 h3=>exact ih.2 cs (fun i=>us.getD i undef) h3 id (by simpa [V.reach] using hid)
   | fn f cs us h1 h3=>exact ih.2 cs (fun i=>us.getD i undef) h3 id (by simpa [V.reach] using hid)
   | _=>simp [V.reach] at hid
  ·intro cs f hf id hid
   cases cs with
   | nil=>simp [reachs] at hid
   | cons c r =>
    simp only [reachs,List.mem_append] at hid
    rcases hid with hid|hid
    ·exact ih.1 c (f 0) (hf 0 (by simp)) id hid
    ·exact ih.2 r (fun i=>f (i+1)) (fun i hi=>by have:=hf (i+1) (by simpa using hi);simpa using this) id hid
theorem zkh {B:zx} {ρ:Nat→V} {M:Nat→Option Ob} {F:Nat→Prop} {σ:Nat→Option Nat} {a:Act} {w:World} (h:Sim B ρ M F σ a w) : ∀ (cs:List V) (f:Nat→Value),
  (∀ i,i < cs.length→VSim σ M F (B.X σ M) w (cs.getD i .undef) (f i)) → ∀ id∈zL M cs,¬ F id
 | [],f,_,id,hid=>by simp [zL] at hid
 | c::r,f,hf,id,hid=>by
  simp only [zL,List.mem_append] at hid
  rcases hid with hid|hid
  ·exact (zuF h 20).1 c (f 0) (hf 0 (by simp)) id hid
  ·exact zkh h r (fun i=>f (i+1)) (fun i hi=>by have:=hf (i+1) (by simpa using hi);simpa using this) id hid
set_option maxHeartbeats 1000000 in
theorem zub {T:Nat→Obj→Prop} (B:zx) (hT:Has T B):zcJ P B (zdf P T):=by
 rintro ρ M F σ a w n f vs v u k args h ⟨js,fz,clean,lvs,obs,lv,obs',hc⟩ hFn hsz hargs
 obtain ⟨hcallable,hfn⟩:=hc.fn
 refine ⟨hcallable,fun cs=>?_⟩
 have hdj : ∀ i∈fz,i ∉ js:=zcM hc.dj
 obtain ⟨hlen,hobs⟩:=zdw hc.objs
 obtain ⟨hal,hav⟩:=zf5 hc.args
 have hk:=hc.k
 have hle:=hc.le
 obtain ⟨v',w',σL,hcalls,hsimL,hvL,hold⟩   := hfn (zbY h js fz) (zX js σ) a w args hT (fun _ _ _ _=>trivial) (zpi h hc.objs hdj hc.nd) (by omega) (fun i hi=>by
  obtain ⟨k',-,hp⟩:=hav i hi
  exact zoz h hc.objs hdj k' _ _ _ hp (hargs i (by omega))) cs
 have hjM : ∀ {j:Nat},j∈js→M j≠none:=by
  intro j hj
  obtain ⟨i,hi,he⟩:=List.getElem_of_mem hj
  obtain ⟨j',h1,h2⟩:=hobs i obs[i] (List.getElem?_eq_getElem (by omega))
  rw [List.getElem?_eq_getElem hi,he] at h1;cases h1
  exact zev h2
 have hFM : ∀ {j:Nat},F j→M j=none:=fun hj=>h.free _ hj
 have hnew : ∀ {j:Nat},n≤j→j < n+(obs'.length - js.length)→F j:=fun h1 h2=>hFn _ h1 (by omega)
 have hjn : ∀ j∈js,¬ (n≤j∧j < n+(obs'.length - js.length)):=fun j hj hx=>hjM hj (hFM (hnew hx.1 hx.2))
 have hlr : ∀ {i:Nat},i < obs'.length→zcX js n obs'.length (zaK js n i)=some i:=fun hi=>zAh hc.nd hjn hi
 let L:=zcX js n obs'.length
 have hL : ∀ {id i:Nat},L id=some i→i < obs'.length∧zaK js n i=id:=fun hi=>zyQ hle hi
 have hLn : ∀ {id:Nat},L id=none→id ∉ js ∧ ¬ (n≤id∧id < n+(obs'.length - js.length)):=by
  intro id hi
  simp only [L,zcX] at hi
  split at hi
  ·cases hi
  ·rename_i h1
   split at hi
   ·cases hi
   ·rename_i h2;exact ⟨h1,h2⟩
 have hfzF : ∀ id∈fz,¬ F id:=fun id hid=>zkh h vs (fun i=>args.getD i undef) hargs id (zfy hc.sf id hid)
 have hfzL : ∀ {id:Nat},id∈fz→M id≠none→L id=none:=by
  intro id hf hm
  cases hi:L id with
  | none=>rfl
  | some i =>
   exfalso
   simp only [L,zcX] at hi
   split at hi
   ·rename_i h1;exact hdj id hf h1
   ·split at hi
    ·rename_i h2;exact hm (hFM (hnew h2.1 h2.2))
    ·cases hi
 have hM' : ∀ id,zq u M id=match L id with
   | some i=>zeI js n (zE obs' i)
   | none=>if clean=false∧id∈fz then none else M id:=by
  intro id
  rw [hc.u]
  have inU : ∀ x,(id,x)∈zfO js fz n obs' clean↔(∃ t,js[t]? = some id∧x=zeI js n (zE obs' t))∨(clean=false∧id∈fz∧x=none) ∨ ∃ t,t < obs'.length - js.length∧id=n+t∧x=zeI js n (zE obs' (js.length+t)):=by
   intro x
   simp only [zfO,List.mem_append]
   rw [zq6,ztB]
   have e1:(id,x)∈(cond clean [] (zgy fz))↔clean=false∧id∈fz∧x=none:=by
    cases clean
    ·simp only [cond_false,true_and];rw [zdA]
    ·simp
   rw [e1]
   simp only [Nat.zero_add,List.length_drop,zE,List.getD,List.getElem?_drop]
  cases hi:L id with
  | some i =>
   obtain ⟨h1,h2⟩:=hL hi
   simp only
   refine zoK _ _ _ _ ((inU _).2 ?_) fun y hy=>?_
   ·simp only [L,zcX] at hi
    split at hi
    ·rename_i hm
     cases hi
     exact .inl ⟨_,ziS hm,rfl⟩
    ·split at hi
     ·rename_i h3
      cases hi
      exact .inr (.inr ⟨id - n,by omega,by omega,rfl⟩)
     ·cases hi
   ·rcases (inU y).1 hy with ⟨t,h3,rfl⟩|⟨h3,h4,rfl⟩|⟨t,h3,h4,rfl⟩
    ·have:zaK js n t=id:=by simp only [zaK,h3]
     have ht:t < obs'.length:=by have:=(List.getElem?_eq_some_iff.1 h3).1;omega
     have:=hlr ht
     rw [show zaK js n t=id by simp only [zaK,h3]] at this
     rw [show zcX js n obs'.length id=L id from rfl,hi] at this
     cases this;rfl
    ·
     cases hm:M id with
     | some ob=>have:=hfzL h4 (by rw [hm];simp);rw [hi] at this;cases this
     | none =>
      exfalso
      simp only [L,zcX] at hi
      split at hi
      ·rename_i h5;exact hjM h5 hm
      ·split at hi
       ·rename_i h5
        exact hfzF id h4 (hnew h5.1 h5.2)
       ·cases hi
    ·have ht:js.length+t < obs'.length:=by omega
     have:=hlr ht
     have e:zaK js n (js.length+t)=id:=by simp only [zaK];rw [List.getElem?_eq_none (by omega)];simp only;omega
     rw [e,show zcX js n obs'.length id=L id from rfl,hi] at this
     cases this;rfl
  | none =>
   obtain ⟨h1,h2⟩:=hLn hi
   simp only
   split
   ·rename_i h3
    refine zoK _ _ _ _ ((inU _).2 (.inr (.inl ⟨h3.1,h3.2,rfl⟩))) fun y hy=>?_
    rcases (inU y).1 hy with ⟨t,h4,rfl⟩|⟨_,_,rfl⟩|⟨t,h4,h5,rfl⟩
    ·exact absurd (List.mem_of_getElem? h4) h1
    ·rfl
    ·exact absurd ⟨by omega,by omega⟩ h2
   ·rename_i h3
    refine za4 _ _ _ fun hm=>?_
    obtain ⟨⟨id',x⟩,hx,e⟩:=List.mem_map.1 hm
    simp only at e;subst e
    rcases (inU x).1 hx with ⟨t,h4,-⟩|⟨h4,h5,-⟩|⟨t,h4,h5,-⟩
    ·exact h1 (List.mem_of_getElem? h4)
    ·exact h3 ⟨h4,h5⟩
    ·exact h2 ⟨by omega,by omega⟩
 have hM'1 : ∀ {id i:Nat},L id=some i→zq u M id=zeI js n (zE obs' i):=fun {id i} hi=>by rw [hM' id,hi]
 have hM'0 : ∀ {id:Nat},L id=none→zq u M id≠none→zq u M id=M id:=fun {id} hi hne=>by
  rw [hM' id,hi] at hne ⊢
  simp only at hne ⊢
  split
  ·rename_i hx;rw [if_pos hx] at hne;exact absurd rfl hne
  ·rfl
 let σ':Nat→Option Nat:=fun id=>match L id with
  | some i=>σL i
  | none=>σ id
 have hσ1 : ∀ {id i:Nat},L id=some i→σ' id=σL i:=fun {id i} hi=>by simp only [σ',hi]
 have hσ0 : ∀ {id:Nat},L id=none→σ' id=σ id:=fun {id} hi=>by simp only [σ',hi]
 have renSome : ∀ {x:Option Ob},zeI js n x≠none→x≠none:=by
  rintro x hx rfl;exact hx rfl
 have hXm : ∀ b,b < w.heap.size→B.X σ' (zq u M) b→B.X σ M b:=by
  rintro b hlt (hb|⟨id,h1,h2⟩)
  ·exact .inl hb
  ·cases hi:L id with
   | some i =>
    rw [hM'1 hi] at h1
    rw [hσ1 hi] at h2
    rcases (hsimL.mine i b (renSome h1) h2).2 with ⟨j,_,h4,h5⟩|h3
    ·exact .inr ⟨j,h4,h5⟩
    ·exact absurd hlt (Nat.not_lt.2 h3)
   | none =>
    rw [hM'0 hi h1] at h1
    rw [hσ0 hi] at h2
    exact .inr ⟨id,h1,h2⟩
 have hkeep : ∀ b,b < w.heap.size→(∀ j,j∈js→M j≠none→σ j=some b→False)→w'.heap[b]? = w.heap[b]? := fun b hlt hb=>hsimL.kept.block b hlt fun ⟨j,h1,h2,h3⟩=>hb j h1 h2 h3
 have hF' : ∀ {id:Nat},F id→L id=none → ¬ (n≤id∧id < n+k):=fun {id} _ hi hx=>(hLn hi).2 ⟨hx.1,by omega⟩
 have tn:zdn σ σ' M (zq u M) F (zbN F n k) (B.X σ M) (B.X σ' (zq u M)) w w':=by
  refine ⟨fun id ob hm=>?_,fun id hm hf=>?_,hsimL.kept.size,fun b hb hlt=>hkeep b hlt fun j _ h2 h3=>hb (.inr ⟨j,h2,h3⟩),hXm,fun id b c e h1 h2 hc=>?_⟩
  ·have hnF : ¬ zbN F n k id:=fun hf=>by rw [h.free _ hf.1] at hm;cases hm
   cases hi:L id with
   | some i =>
    have hmj:id∈js:=by
     simp only [L,zcX] at hi
     split at hi
     ·rename_i h1;exact h1
     ·split at hi
      ·rename_i h2;rw [hFM (hnew h2.1 h2.2)] at hm;cases hm
      ·cases hi
    have hidx:js[i]? = some id:=by
     simp only [L,zcX,if_pos hmj] at hi
     cases hi;exact ziS hmj
    have hi':=(List.getElem?_eq_some_iff.1 hidx).1
    obtain ⟨j',h1,h2⟩:=hobs i obs[i] (List.getElem?_eq_getElem (by omega))
    rw [hidx] at h1;cases h1
    rw [hm] at h2
    rcases hold i obs[i] (List.getElem?_eq_getElem (by omega)) with h3|⟨h3,ob',h4,h5⟩
    ·left;exact ⟨by rw [hM'1 hi,h3];rfl,hnF⟩
    ·right
     refine ⟨by rw [hσ1 hi,h3];simp [zX,hidx],?_⟩
     rw [hM'1 hi,h4]
     cases ob with
     | row s xs =>
      simp only [zbA] at h2
      rw [h2] at h5
      cases h5 with
      | row _ _ ys hl=>exact ⟨_,rfl,.row s xs ys hl⟩
     | box xs =>
      simp only [zbA] at h2
      obtain ⟨cs,h2,-⟩:=h2
      rw [h2] at h5
      cases h5 with
      | box _ ds=>exact ⟨_,rfl,.box _ _⟩
     | map es =>
      simp only [zbA] at h2
      rw [h2] at h5
      cases h5 with
      | map _ fs=>exact ⟨_,rfl,.map es fs⟩
     | iter=>exact h2.elim
     | todo=>exact h2.elim
   | none =>
    rw [hM' id,hi]
    simp only
    split
    ·exact .inl ⟨rfl,hnF⟩
    ·exact .inr ⟨hσ0 hi,ob,hm,zaB h hm⟩
  ·cases hi:L id with
   | some i =>
    exfalso
    simp only [L,zcX] at hi
    split at hi
    ·rename_i h1;exact hjM h1 hm
    ·split at hi
     ·rename_i h2;exact hf (hnew h2.1 h2.2)
     ·cases hi
   | none =>
    refine ⟨?_,fun h3=>hf h3.1⟩
    rw [hM' id,hi]
    simp only
    split
    ·rfl
    ·exact hm
  ·exact hsimL.kept.cells b c e hc
 have r1 : ∀ i,¬ (obs'.length≤i)→σ' (zaK js n i)=σL i:=fun i hi=>hσ1 (hlr (by omega))
 have r2 : ∀ i,¬ (obs'.length≤i)→zq u M (zaK js n i)=zeI js n (zE obs' i):=fun i hi=>hM'1 (hlr (by omega))
 have r3 : ∀ i,¬ (obs'.length≤i) → ¬ zbN F n k (zaK js n i):=fun i hi hf=>by
  have hl:=hlr (show i < obs'.length by omega)
  have:L (zaK js n i)=some i:=hl
  simp only [L,zcX] at this
  split at this
  ·rename_i h1;exact hjM h1 (hFM hf.1)
  ·split at this
   ·rename_i h2;exact hf.2 ⟨h2.1,by omega⟩
   ·cases this
 have r4 : ∀ i,obs'.length≤i→zE obs' i=none:=fun i hi=>by simp [zE,List.getD,hi]
 have rX:clean=true ∨ ∀ b,b < w'.heap.size→B.X σ' (zq u M) b→(zbY h js fz).X σL (zE obs') b:=by
  cases hcl:clean with
  | true=>exact .inl rfl
  | false =>
   right
   rintro b hlt (hb|⟨id,h1,h2⟩)
   ·exact .inl ⟨h.olt b hb,.inl hb⟩
   ·cases hi:L id with
    | some i =>
     rw [hM'1 hi] at h1
     rw [hσ1 hi] at h2
     exact .inr ⟨i,renSome h1,h2⟩
    | none =>
     have h3:=h1
     rw [hM' id,hi] at h3
     simp only at h3
     split at h3
     ·exact absurd rfl h3
     ·rename_i h4
      rw [hσ0 hi] at h2
      obtain ⟨o,hc⟩:=zaV h h3 h2
      exact .inl ⟨zz hc,.inr ⟨id,h3,h2,(hLn hi).1,fun hf=>h4 ⟨hcl,hf⟩⟩⟩
 refine ⟨v',w',σ',hcalls,?_,?_⟩
 ·refine h.step tn (fun id ob hm=>?_) (fun i j b h1 h2 h3 h4=>?_) (fun id b h1 h2=>?_) (fun id hf=>?_) ?_ (fun b hb=>hkeep b (h.olt b hb) fun j _ h2 h3=>(h.mine j b h2 h3).1 hb) (fun id l hm=>?_)
  rotate_left 5
  ·cases hi:L id with
   | some i =>
    have h1:=hM'1 hi
    rw [hm] at h1
    cases hob:zE obs' i with
    | none=>rw [hob] at h1;cases h1
    | some ob0=>rw [hob] at h1;cases ob0<;>cases h1
   | none =>
    have h1:=hM'0 hi (by rw [hm];simp)
    rw [hm] at h1
    exact h1.symm
  ·cases hi:L id with
   | some i =>
    right
    obtain ⟨hlt,hre⟩:=hL hi
    have h1:=hM'1 hi
    rw [hm] at h1
    cases hob:zE obs' i with
    | none=>rw [hob] at h1;cases h1
    | some ob0 =>
     rw [hob] at h1
     have:=zBv r1 r2 r3 r4 (X:=(zbY h js fz).X σL (zE obs')) (X':=B.X σ' (zq u M)) (w:=w') (i:=i) (ob:=ob0) (ob':=ob) (by
      rcases rX with hcl|hX
      ·have:=zs4 (hc.fl hcl).2 i;rw [hob] at this;exact .inl this
      ·exact .inr hX) (by omega) h1.symm (hsimL.mem i ob0 hob)
     rwa [hre] at this
   | none =>
    left
    have h1:=hM'0 hi (by rw [hm];simp)
    rw [hm] at h1
    refine ⟨h1.symm,hσ0 hi,fun b hb=>?_⟩
    obtain ⟨o,hcb⟩:=zaV h (show M id≠none by rw [← h1];simp) hb
    exact hkeep b (zz hcb) fun j h3 h4 h5=>(hLn hi).1 (by have:=h.inj j id b h4 (by rw [← h1];simp) h5 hb;subst this;exact h3)
  ·
   have cross : ∀ {i j p b:Nat},L i=some p→L j=none→zq u M i≠none→zq u M j≠none→σ' i=some b→σ' j=some b→False:=by
    intro i j p b hi hj h1 h2 h3 h4
    rw [hM'1 hi] at h1
    rw [hσ1 hi] at h3
    have h5:=h2
    rw [hM'0 hj h2] at h5
    rw [hσ0 hj] at h4
    rcases (hsimL.mine p b (renSome h1) h3).2 with ⟨q,g1,g2,g3⟩|g1
    ·have:=h.inj q j b g2 h5 g3 h4
     subst this;exact (hLn hj).1 g1
    ·obtain ⟨o,hcb⟩:=zaV h h5 h4
     have:=zz hcb
     exact absurd this (Nat.not_lt.2 g1)
   cases hi:L i with
   | some p =>
    cases hj:L j with
    | some q =>
     rw [hM'1 hi] at h1;rw [hM'1 hj] at h2
     rw [hσ1 hi] at h3;rw [hσ1 hj] at h4
     have:=hsimL.inj p q b (renSome h1) (renSome h2) h3 h4
     subst this
     rw [← (hL hi).2,(hL hj).2]
    | none=>exact (cross hi hj h1 h2 h3 h4).elim
   | none =>
    cases hj:L j with
    | some q=>exact (cross hj hi h2 h1 h4 h3).elim
    | none =>
     have g1:=h1;have g2:=h2
     rw [hM'0 hi h1] at g1;rw [hM'0 hj h2] at g2
     rw [hσ0 hi] at h3;rw [hσ0 hj] at h4
     exact h.inj i j b g1 g2 h3 h4
  ·cases hi:L id with
   | some i =>
    rw [hM'1 hi] at h1
    rw [hσ1 hi] at h2
    obtain ⟨h3,h4⟩:=hsimL.mine i b (renSome h1) h2
    have hnO : ¬ B.O b:=fun hb=>h3 ⟨h.olt b hb,.inl hb⟩
    refine ⟨hnO,?_⟩
    rcases h4 with ⟨q,g1,g2,g3⟩|h4
    ·exact (h.mine q b g2 g3).2
    ·exact .inr (Nat.le_trans h.kept.size h4)
   | none =>
    have g1:=h1
    rw [hM'0 hi h1] at g1
    rw [hσ0 hi] at h2
    exact h.mine id b g1 h2
  ·cases hi:L id with
   | some i =>
    exfalso
    simp only [L,zcX] at hi
    split at hi
    ·rename_i h1;exact hjM h1 (hFM hf.1)
    ·split at hi
     ·rename_i h2;exact hf.2 ⟨h2.1,by omega⟩
     ·cases hi
   | none =>
    rw [hM' id,hi]
    simp only
    split
    ·rfl
    ·exact hFM hf.1
  ·have kp:=hsimL.kept
   refine ⟨kp.os.trans h.kept.os,kp.tape.trans h.kept.tape,kp.output.trans h.kept.output,Nat.le_trans h.kept.size kp.size,fun b hlt hnr=>?_,fun b c e hcb=>?_⟩
   ·rw [hkeep b (Nat.lt_of_lt_of_le hlt h.kept.size) fun j h1 h2 h3=>by
     rcases (h.mine j b h2 h3).2 with h4|h4
     ·exact hnr h4
     ·omega]
    exact h.kept.block b hlt hnr
   ·obtain ⟨c1,h1,h2⟩:=h.kept.cells b c e hcb
    obtain ⟨c2,h3,h4⟩:=kp.cells b c1 e h1
    exact ⟨c2,h3,by omega⟩
 ·rw [hc.v]
  refine zvc r1 r2 r3 r4 20 _ _ ?_ hvL
  rcases rX with hcl|hX
  ·exact .inl ⟨20,(hc.fl hcl).1⟩
  ·exact .inr hX
end
end Go.Ab
namespace Go.Ab
open Go
def zbd:Nat→List V→Env
 | _,[]=>[]
 | i,v::r=>(i,v)::zbd (i+1) r
def zia:Nat→List (Option Ob)→Mem
 | _,[]=>[]
 | i,ob::r=>(i,ob)::zia (i+1) r
def zjb:Nat→List Ob→Mem
 | _,[]=>[]
 | i,ob::r=>(i,some ob)::zjb (i+1) r
def zzR (i:Nat):Ob→V
 | .row _ _ => .own i
 | .box _ => .ptr i 0
 | .map _ => .map i
 | _ => .undef
def zc8 (g:Nat):Nat→List Ob→Env
 | _,[]=>[]
 | i,ob::r=>(g+i,zzR i ob)::zc8 g (i+1) r
def zsm (ρ:Nat→V) (M:Nat→Option Ob):zhJ→Option V
 | .tmp t=>some (ρ t)
 | .cell a g=>match ρ a with
  | .ptr id o=>match M id with
   | some (.box cs)=>match zaF cs o g with
    | .ok v _ _=>some v
    | _=>none
   | _=>none
  | _=>none
def zmr (ρ:Nat→V) (M:Nat→Option Ob):List zhJ→Option (List V)
 | []=>some []
 | r::rs=>match zsm ρ M r,zmr ρ M rs with
  | some v,some l=>some (v::l)
  | _,_=>none
def zoD (res:List zhJ) (ρ:Nat→V) (M:Nat→Option Ob):Option V :=
 match zmr ρ M res with
 | some [v]=>some v
 | some l=>some (.tup l)
 | none=>none
def zmH (r:List (Nat×Nat)) (nl:List Nat) (env:Env) (obs':List (Option Ob)):Nat→List Ob→Prop
 | _,[]=>True
 | i,ob::rest=>(match obs'.getD i none with
   | none=>True
   | some (.row s _)=>(match ob with | .row s' _=>s'=s|_=>False)∧VLe r nl 30 (.own i) (env.get (zc+i))
   | some (.box _)=>(match ob with | .box _=>True|_=>False)∧VLe r nl 30 (.ptr i 0) (env.get (zc+i))
   | some (.map _)=>(match ob with | .map _=>True|_=>False)∧VLe r nl 30 (.map i) (env.get (zc+i))
   | some _=>False)∧zmH r nl env obs' (i+1) rest
def zoP (mem:Mem) (r:List (Nat×Nat)) (v x:V):Prop := ∃ y,v = .d y∧x.freeze mem.get true 20=some y∧zd1 (V.reach mem.get 20 x) (r.map Prod.snd)=true
structure zoO (obs:List Ob) (env:Env) (mem:Mem) (n:Nat) (x v:V) (obs':List (Option Ob)) (r:List (Nat×Nat)) (nl:List Nat):Prop where
 v:VLe r nl 30 v x∨zoP mem r v x ∨ ∃ vs xs,v = .tup vs∧x = .tup xs∧vs.length=xs.length ∧ ∀ i,i < vs.length→VLe r nl 30 (vs.getD i .undef) (xs.getD i .undef)∨zoP mem r (vs.getD i .undef) (xs.getD i .undef)
 le:Le [] mem n [] (zia 0 obs') obs'.length r nl
 gh:zmH r nl env obs' 0 obs
def zs5 (c:CFn) (obs:List Ob) (v:V) (obs':List (Option Ob)):zac:=fun e env mem n =>
 (match e with | .exit _=>False|_=>True) ∧ ∃ x r nl,zoD c.res env.get mem.get=some x∧zoO obs env mem n x v obs' r nl
theorem znr : ∀ (vs:List V) (i t:Nat),(zbd i vs).get t=if i≤t∧t < i+vs.length then vs.getD (t - i) .undef else .undef
 | [],i,t=>by simp only [zbd,Env.get];split<;>simp
 | v::r,i,t=>by
  simp only [zbd,Env.get]
  cases hb:Nat.beq i t with
  | true =>
   have:=Nat.eq_of_beq_eq_true hb
   subst this
   simp
  | false =>
   have hne:i≠t:=fun e=>by subst e;simp at hb
   simp only [cond_false]
   rw [znr r (i+1) t]
   by_cases h1:i≤t∧t < i+(v::r).length
   ·rw [if_pos h1,if_pos (by simp at h1;omega),show t - i=t - (i+1)+1 by omega]
    simp
   ·rw [if_neg h1,if_neg (by simp at h1;omega)]
theorem zl8 (g:Nat) : ∀ (obs:List Ob) (i t:Nat),(zc8 g i obs).get t=if g+i≤t∧t < g+i+obs.length then (match obs[t - g - i]? with|some ob=>zzR (t - g) ob|none => .undef) else .undef
 | [],i,t=>by simp only [zc8,Env.get];split<;>simp
 | ob::r,i,t=>by
  simp only [zc8,Env.get]
  cases hb:Nat.beq (g+i) t with
  | true =>
   have:=Nat.eq_of_beq_eq_true hb
   subst this
   simp
  | false =>
   have hne:g+i≠t:=fun e=>by subst e;simp at hb
   simp only [cond_false]
   rw [zl8 g r (i+1) t]
   by_cases h1:g+i≤t∧t < g+i+(ob::r).length
   ·rw [if_pos h1,if_pos (by simp at h1;omega),show t - g - i=t - g - (i+1)+1 by omega]
    simp
   ·rw [if_neg h1,if_neg (by simp at h1;omega)]
theorem ztx : ∀ (obs:List (Option Ob)) (i t:Nat),(zia i obs).get t=if i≤t then obs.getD (t - i) none else none
 | [],i,t=>by simp only [zia,Mem.get];split<;>simp
 | ob::r,i,t=>by
  simp only [zia,Mem.get]
  cases hb:Nat.beq i t with
  | true =>
   have:=Nat.eq_of_beq_eq_true hb
   subst this
   simp
  | false =>
   have hne:i≠t:=fun e=>by subst e;simp at hb
   simp only [cond_false]
   rw [ztx r (i+1) t]
   by_cases h1:i≤t
   ·rw [if_pos h1,if_pos (by omega),show t - i=t - (i+1)+1 by omega]
    simp
   ·rw [if_neg h1,if_neg (by omega)]
theorem zrv (obs:List (Option Ob)):(zia 0 obs).get=zE obs:=by
 funext t;rw [ztx];simp [zE]
theorem zrw : ∀ (obs:List Ob) (i:Nat),zjb i obs=zia i (obs.map some)
 | [],i=>rfl
 | ob::r,i=>by simp only [zjb,zia,List.map_cons,zrw r (i+1)]
theorem zpn : ∀ (l m:Env) (t:Nat),Env.get (l++m) t=if (∃ p∈l,p.1=t) then Env.get l t else Env.get m t
 | [],m,t=>by simp
 | (k,v)::r,m,t=>by
  show cond (Nat.beq k t) v (Env.get (r++m) t)=_
  cases hb:Nat.beq k t with
  | true =>
   have:=Nat.eq_of_beq_eq_true hb
   subst this
   rw [if_pos ⟨(k,v),by simp,rfl⟩]
   simp [Env.get]
  | false =>
   have hne:k≠t:=fun e=>by subst e;simp at hb
   rw [cond_false,zpn r m t]
   simp only [Env.get,hb,cond_false]
   by_cases h : ∃ p∈r,p.1=t
   ·obtain ⟨p,h1,h2⟩:=h
    rw [if_pos ⟨p,h1,h2⟩,if_pos ⟨p,by simp [h1],h2⟩]
   ·rw [if_neg h,if_neg]
    rintro ⟨p,h1,h2⟩
    rcases List.mem_cons.1 h1 with rfl|h1
    ·exact hne h2
    ·exact h ⟨p,h1,h2⟩
def zkc (tmps:Array Value):ResultVar→Sem Value
 | .tmp t=>pure (tmps.getD t undef)
 | .cell a t=>do loadVar t (← asAddr (tmps.getD a undef))
theorem zwd (fn:Func) (tmps:Array Value):results fn tmps=(do
  let vs ← fn.results.mapM (zkc tmps)
  pure (if h:vs.size=1 then vs[0] else .tuple vs)):=by
 unfold results
 congr 1
section
variable {P:Program} {B:zx} {ρ:Nat→V} {M:Nat→Option Ob} {F:Nat→Prop} {σ:Nat→Option Nat} {a:Act} {w:World}
theorem zxz (h:Sim B ρ M F σ a w) {r:ResultVar} {c:zhJ} {v:V} (hc:zhw P r=some c) (hv:zsm ρ M c=some v) :
  ∃ v',(zkc a.tmps r).run P w = .ok v' w∧VSim σ M F (B.X σ M) w v v':=by
 cases r with
 | tmp t =>
  simp only [zhw] at hc
  cases hb:Nat.blt t zc with
  | false=>rw [hb] at hc;cases hc
  | true =>
   rw [hb] at hc;cases hc
   simp only [zsm,Option.some.injEq] at hv
   subst hv
   have hlt:t < zc:=of_decide_eq_true (by simpa [Nat.blt_eq] using hb)
   have:=h.env t
   simp only [zx.look,if_pos hlt] at this
   exact ⟨_,rfl,this⟩
 | cell x t =>
  simp only [zhw] at hc
  cases hb:Nat.blt x zc with
  | false=>rw [hb] at hc;cases hc
  | true =>
   rw [hb] at hc
   simp only [cond_true,Option.map_eq_some_iff] at hc
   obtain ⟨g,hg,rfl⟩:=hc
   have hlt:x < zc:=of_decide_eq_true (by simpa [Nat.blt_eq] using hb)
   have hx:=h.env x
   simp only [zx.look,if_pos hlt] at hx
   simp only [zsm] at hv
   split at hv
   ·rename_i id o he
    split at hv
    ·rename_i cs hm
     split at hv
     ·rename_i v0 u0 k0 hge
      cases hv
      rw [he] at hx
      simp only [zkc]
      generalize a.tmps.getD x undef=ax at hx ⊢
      cases hx with
      | ptrDead _ _ ad h1 h2=>rw [hm] at h1;cases h1
      | ptr _ _ cs' b h1 h2 =>
       rw [hm] at h1;cases h1
       obtain ⟨c,e,h3,h4,h5,h6⟩:=zeE h hm h2
       obtain ⟨-,-,v',hr,hv⟩:=ztu (P:=P) (C:=fun _ _ _ _ _ _ _=>False) (M:=M) (n:=0) (v:=v) (u:=u0) (k:=k0) hg h3 h4 h5 h6 (by rw [hge];exact ⟨rfl,rfl,rfl⟩)
       exact ⟨v',by simp only [asAddr,Sem.run_bind,Sem.run_pure,Result.andThen_ok,hr],hv⟩
     ·cases hv
    ·cases hv
   ·cases hv
theorem zp3 (h:Sim B ρ M F σ a w) : ∀ (rs:List ResultVar) (cs:List zhJ) (vs:List V),rs.length=cs.length→(∀ i (h1:i < rs.length) (h2:i < cs.length),zhw P rs[i]=some cs[i])→zmr ρ M cs=some vs →
  ∃ us:List Value,(rs.mapM (m:=Sem) (zkc a.tmps)).run P w = .ok us w ∧
   us.length=vs.length ∧ ∀ i,i < vs.length→VSim σ M F (B.X σ M) w (vs.getD i .undef) (us.getD i undef)
 | [],[],vs,_,_,hv=>by cases hv;exact ⟨[],rfl,rfl,fun i hi=>by simp at hi⟩
 | [],c::cs,vs,hl,_,_=>by simp at hl
 | r::rs,[],vs,hl,_,_=>by simp at hl
 | r::rs,c::cs,vs,hl,hc,hv=>by
  simp only [zmr] at hv
  split at hv
  ·rename_i v l h1 h2
   cases hv
   obtain ⟨v',g1,g2⟩:=zxz h (hc 0 (by simp) (by simp)) h1
   obtain ⟨us,g3,g4,g5⟩:=zp3 h rs cs l (by simpa using hl) (fun i h3 h4=>hc (i+1) (by simp;omega) (by simp;omega)) h2
   refine ⟨v'::us,?_,by simp [g4],fun i hi=>?_⟩
   ·simp only [List.mapM_cons,Sem.run_bind]
    have g1':(zkc a.tmps r).run P w = .ok v' w:=g1
    rw [g1']
    simp only [Result.andThen_ok]
    rw [g3]
    rfl
   ·cases i with
    | zero=>simpa using g2
    | succ i=>simpa using g5 i (by simpa using hi)
  ·cases hv
end
end Go.Ab
namespace Go.Ab
open Go
theorem zil {P:Program} : ∀ (Ds:List Nat) (fr:Frame) (cs:List Frame) (w:World),fr.mode = .returning→fr.defers=Ds.map zcm→Ds.Nodup→(∀ D∈Ds,w.heap[D]? = some (.deferred (some []))) →
  ∃ w',Steps P (lone fr cs w) (lone { fr with defers:=[] } cs w')∧zbh w w'∧w'.heap.size=w.heap.size ∧ ∀ b,b ∉ Ds→w'.heap[b]? = w.heap[b]?
 | [],fr,cs,w,hm,hd,_,_=>by
  refine ⟨w,?_,⟨rfl,rfl,rfl⟩,rfl,fun _ _=>rfl⟩
  have:fr = { fr with defers:=[] } := by cases fr;simp at hd;subst hd;rfl
  rw [← this]
  exact .refl _ _
 | D::Ds,fr,cs,w,hm,hd,hnd,hh=>by
  have hD:=hh D (by simp)
  have hstep:=step_collected (P:=P) (fr:=fr) (cs:=cs) (w:=w) (d:=zcm D) (r:=D) (ds:=Ds.map zcm) (calls:=[]) (by rw [hm];simp) (by simpa using hd) rfl (run_takeDeferred hD)
  rw [List.nodup_cons] at hnd
  obtain ⟨w',h1,h2,h3,h4⟩:=zil Ds { fr with defers:=[]++Ds.map zcm } cs (w.putObj D (.deferred none)) hm rfl hnd.2 (fun D' hD'=>by
   rw [World.putObj_heap_other (show D'≠D from fun e=>hnd.1 (by rw [← e];exact hD'))];exact hh D' (by simp [hD']))
  refine ⟨w',.head hstep h1,⟨h2.os,h2.tape,h2.output⟩,by rw [h3];simp,fun b hb=>?_⟩
  simp only [List.mem_cons,not_or] at hb
  rw [h4 b hb.2,World.putObj_heap_other hb.1]
section
variable {B B':zx} {ρ:Nat→V} {M:Nat→Option Ob} {F:Nat→Prop} {σ:Nat→Option Nat} {a a':Act} {w w':World}
theorem Sim.less (ht:zbc B) (h:Sim B' ρ M F σ a w) (h0:B'.w0=B.w0) (hR:B'.R=B.R) (hnt:B'.nt=B.nt) (hg:B'.ghost=B.ghost) (hO : ∀ b,B.O b→B'.O b) (ha:a'.tmps=a.tmps) (hdf:a'.defers=B.dfr)
  (hs:zbh w w') (hsz:w'.heap.size=w.heap.size) (hh : ∀ b,¬ (B'.O b∧B.w0.heap.size≤b)→w'.heap[b]? = w.heap[b]?) (hp : ∀ b o,B.pin b o→w'.heap[b]? = some o):Sim B ρ M F σ a' w':=by
 have hmine:=h.mine
 have same : ∀ b,¬ B'.O b→w'.heap[b]? = w.heap[b]? := fun b hb=>hh b fun hx=>hb hx.1
 have t:zdn σ σ M M F F (B'.X σ M) (B.X σ M) w w':=by
  refine ⟨fun id ob hi => .inr ⟨rfl,ob,hi,zaB h hi⟩,fun id h1 h2=>⟨h1,h2⟩,by rw [hsz];exact Nat.le_refl _,fun b hb _=>same b fun hx=>hb (.inl hx),fun b _ hb=>?_,fun id b c e h1 h2 hc=>⟨c,by rw [same b (hmine id b h1 h2).1];exact hc,rfl⟩⟩
  rcases hb with hb|hb
  ·exact .inl (hO b hb)
  ·exact .inr hb
 have hlook : ∀ t,B.look a' t=B'.look a t:=fun t=>by simp only [zx.look,hg,ha]
 refine ⟨fun x=>by rw [hlook];exact (h.env x).turn t,fun id ob hi=>(h.mem id ob hi).turn t rfl fun b hb=>same b (hmine id b (by simp [hi]) hb).1,h.inj,fun id b h1 h2=>?_,h.free,?_,⟨by rw [ha,h.nt.1,hnt],hdf⟩,fun b hb=>?_,hp,fun id l hl=>ht _ _ _ _⟩
 ·obtain ⟨g1,g2⟩:=hmine id b h1 h2
  exact ⟨fun hb=>g1 (hO b hb),by rw [← h0,← hR];exact g2⟩
 ·have k:=h.kept
  rw [h0,hR] at k
  refine ⟨hs.os.trans k.os,hs.tape.trans k.tape,hs.output.trans k.output,by rw [hsz];exact k.size,fun b hb hr=>?_,fun b c e hc=>?_⟩
  ·rw [hh b (fun hx=>by omega)];exact k.block b hb hr
  ·obtain ⟨c',h1,h2⟩:=k.cells b c e hc
   exact ⟨c',by rw [hh b (fun hx=>by have:=zz hc;omega)];exact h1,h2⟩
 ·rw [hsz];exact h.olt b (hO b hb)
end
end Go.Ab
namespace Go.Ab
open Go
def zg4 (obs:List Ob) (xs:Option (List (List D))):Nat→Option Ob:=zE (obs.map some++[some (.todo xs)])
def ItF (P:Program) (T:Nat→Obj→Prop) (fin:Bool) (f:Nat) (vs:List V) (obs:List Ob) (xs:List (List D)):Prop :=
 zc5 P f ∧ ∀ (B:zx) (σ:Nat→Option Nat) (a:Act) (w:World) (args:Array Value) (l:Nat),Has T B→zhv P B.w0 B.R B.pin B.inv l→(fin=false → ∀ O Z w,¬ B.inv O Z (some []) w) →
  Sim B (fun _ => .undef) (zg4 obs (some xs)) (fun i=>obs.length+1≤i) σ a w→args.size=vs.length →
  (∀ i,i < vs.length→VSim σ (zg4 obs (some xs)) (fun i=>obs.length+1≤i) (B.X σ (zg4 obs (some xs))) w (vs.getD i .undef) (args.getD i undef)) →
  ∀ cs,∃ v' w',zgf P cs f (#[.func (.yield l) #[] #[]]++args) w v' w' ∧ ∃ O' Z' l',(l'=some []∨l'=none)∧B.inv O' Z' l' w'
abbrev It (P:Program) (T:Nat→Obj→Prop) (f:Nat) (vs:List V) (obs:List Ob) (xs:List (List D)):Prop:=ItF P T true f vs obs xs
structure zAR (P:Program) (T:Nat→Obj→Prop) (M:Nat→Option Ob) (g:Nat) (cs:List V) (xs:List (List D)) (u:Upd) (fin:Bool) (js fz:List Nat) (lvs:List V) (obs:List Ob):Prop where
 it:ItF P T fin g lvs obs xs
 args:VPasses M js fz 20 lvs cs
 objs:zaN M js fz obs js
 nd:nodup js=true
 dj:zd1 fz js=true
 u:u=zgy js++zgy fz
def zkl (P:Program) (T:Nat→Obj→Prop):zcF:=fun M n g cs xs u fin => ∃ js fz lvs obs,zAR P T M g cs xs u fin js fz lvs obs
theorem zhv.more {P:Program} {w0:World} {R R':Nat→Prop} {pin:Nat→Obj→Prop} {J:Inv} {l:Nat} (h:zhv P w0 R pin J l) (hR : ∀ b,R b→R' b):zhv P w0 R' pin J l:=by
 intro O Z x rest w args h1 h2 h3 h4 h5 h6 cs
 obtain ⟨b,w',k1,k2,k3,k4,k5,k6⟩:=h O Z x rest w args h1 h2 h3 h4 h5 h6 cs
 exact ⟨b,w',k1,k2,k3,k4,fun k hk hn=>k5 k hk fun h=>hn (hR k h),k6⟩
theorem zeu {obs:List Ob} {xs:Option (List (List D))} {i:Nat} : zg4 obs xs i=if i=obs.length then some (.todo xs) else zE (obs.map some) i:=by
 unfold zg4 zE
 by_cases h:i=obs.length
 ·subst h;simp [List.getD]
 ·rw [if_neg h]
  by_cases hlt:i < obs.length
  ·simp [List.getD,List.getElem?_append_left (show i < (obs.map some).length by simpa using hlt)]
  ·simp [List.getD,List.getElem?_eq_none (show (obs.map some++[some (Ob.todo xs)]).length≤i by simp;omega),List.getElem?_eq_none (show obs.length≤i by omega)]
set_option maxHeartbeats 1000000 in
theorem zuy {P:Program} {T:Nat→Obj→Prop} (B:zx) (hT:Has T B):zlu P B (zkl P T):=by
 rintro ρ M F σ a w n g cs xs u fin caps h ⟨js,fz,lvs,obs,hc⟩ hsz hcaps
 obtain ⟨hcallable,hit⟩:=hc.it
 have hdj : ∀ i∈fz,i ∉ js:=zcM hc.dj
 obtain ⟨hlen,hobs⟩:=zdw hc.objs
 obtain ⟨hal,hav⟩:=zf5 hc.args
 have hu : ∀ p∈u,p.2=none:=by
  intro p hp
  rw [hc.u] at hp
  obtain ⟨j,x⟩:=p
  rcases List.mem_append.1 hp with hp|hp
  ·exact ((zdA js j x).1 hp).2
  ·exact ((zdA fz j x).1 hp).2
 have hin : ∀ id,id∈u.map Prod.fst↔id∈js∨id∈fz:=by
  intro id
  rw [hc.u]
  simp only [List.map_append,List.mem_append,List.mem_map]
  constructor
  ·rintro (⟨⟨j,x⟩,hp,rfl⟩|⟨⟨j,x⟩,hp,rfl⟩)
   ·exact .inl ((zdA js j x).1 hp).1
   ·exact .inr ((zdA fz j x).1 hp).1
  ·rintro (hj|hj)
   ·exact .inl ⟨(id,none),(zdA js id none).2 ⟨hj,rfl⟩,rfl⟩
   ·exact .inr ⟨(id,none),(zdA fz id none).2 ⟨hj,rfl⟩,rfl⟩
 have hM1 : ∀ {id},zq u M id≠none→zq u M id=M id∧id ∉ js∧id ∉ fz:=by
  intro id h1
  by_cases hm:id∈u.map Prod.fst
  ·exact absurd (zmC u M id hu hm) h1
  ·refine ⟨za4 u M id hm,fun hj=>hm ((hin id).2 (.inl hj)),fun hj=>hm ((hin id).2 (.inr hj))⟩
 have hblk : ∀ {id b:Nat},M id≠none→σ id=some b→b < w.heap.size:=fun h1 h2=>by obtain ⟨o,ho⟩:=zaV h h1 h2;exact zz ho
 have hjM : ∀ {i j:Nat},js[i]? = some j→M j≠none:=by
  intro i j hj
  have hi:=(List.getElem?_eq_some_iff.1 hj).1
  obtain ⟨j',h1,h2⟩:=hobs i obs[i] (List.getElem?_eq_getElem (by omega))
  rw [hj] at h1;cases h1
  exact zev h2
 refine ⟨hcallable,hu,(zbY h js fz).O,fun b => ∃ id,id∈js∧M id≠none∧σ id=some b,fun b ⟨id,h1,h2,h3⟩=>⟨⟨id,h2,h3⟩,fun ⟨id',h4,h5⟩=>?_⟩,fun b hb=>?_,fun b hb=>⟨hb.1,fun ⟨id,h1,h2,h3⟩=>?_⟩,?_⟩
 ·obtain ⟨e,h6,-⟩:=hM1 h4
  rw [e] at h4
  have:=h.inj id id' b h2 h4 h3 h5
  subst this;exact h6 h1
 ·rcases hb with ⟨id,h1,h2⟩|hb
  ·obtain ⟨e,h3,h4⟩:=hM1 h1
   rw [e] at h1
   exact ⟨hblk h1 h2,.inr ⟨id,h1,h2,h3,h4⟩⟩
  ·exact ⟨h.olt b hb,.inl hb⟩
 ·rcases hb.2 with hb|⟨id',h4,h5,h6,h7⟩
  ·exact (h.mine id b h2 h3).1 hb
  ·have:=h.inj id id' b h2 h4 h3 h5
   subst this;exact h6 h1
 ·intro w1 l J hJ hss hsz1 hold hJ0 hround hfin cs'
  have hcs:=zpi h hc.objs hdj hc.nd
  let Bi:zx :=
   {w0:=w1,O:=fun b=>(zbY h js fz).O b∨(w.heap.size≤b∧b < w1.heap.size),R:=fun b=>((zbY h js fz).O b∨(w.heap.size≤b∧b < w1.heap.size)) ∨ ∃ id,id∈js∧M id≠none∧σ id=some b,
    nt:=B.nt,pin:=B.pin,pinO:=fun b o hp => .inl ((zbY h js fz).pinO b o hp),ghost:=fun _=>undef,small:=B.small,dfr:=B.dfr,inv:=J,stab:=hJ.stab,mono:=hJ.mono }
  have hX : ∀ b,b < w.heap.size→Bi.X (zX js σ) (zg4 obs (some xs)) b→(zbY h js fz).X (zX js σ) (zE (obs.map some)) b:=by
   rintro b hlt ((hb|hb)|⟨id,h1,h2⟩)
   ·exact .inl hb
   ·omega
   ·refine .inr ⟨id,?_,h2⟩
    rw [zeu] at h1
    split at h1
    ·rename_i e
     subst e
     simp [zX,List.getElem?_eq_none (show js.length≤obs.length by omega)] at h2
    ·exact h1
  have hnl:zX js σ obs.length=none:=by simp [zX,List.getElem?_eq_none (show js.length≤obs.length by omega)]
  have tn:zdn (zX js σ) (zX js σ) (zE (obs.map some)) (zg4 obs (some xs)) (fun i=>obs.length≤i) (fun i=>obs.length+1≤i) ((zbY h js fz).X (zX js σ) (zE (obs.map some))) (Bi.X (zX js σ) (zg4 obs (some xs))) w w1:=by
   refine ⟨fun id ob hi => .inr ⟨rfl,ob,?_,zdh.refl ob⟩,fun id h1 h2=>?_,hsz1,fun b _ hlt=>hold b hlt,hX,fun id b c e _ _ hcb=>⟨c,by rw [hold b (zz hcb)];exact hcb,rfl⟩⟩
   ·rw [zeu,if_neg]
    ·exact hi
    ·intro e;subst e;simp [zE,List.getD] at hi
   ·simp only [Nat.not_le] at h2
    refine ⟨?_,by simp only [Nat.not_le];omega⟩
    rw [zeu,if_neg (by omega)];exact h1
  have hownZ:own (zX js σ) (zg4 obs (some xs))=fun b => ∃ id,id∈js∧M id≠none∧σ id=some b:=by
   funext b
   apply propext
   constructor
   ·rintro ⟨i,h1,h2⟩
    unfold zX at h2
    obtain ⟨j,h3,h4⟩:=Option.bind_eq_some_iff.1 h2
    exact ⟨j,List.mem_of_getElem? h3,hjM h3,h4⟩
   ·rintro ⟨j,h1,h2,h3⟩
    obtain ⟨i,hi,he⟩:=List.getElem_of_mem h1
    refine ⟨i,?_,by simp [zX,List.getElem?_eq_getElem hi,he,h3]⟩
    rw [zeu,if_neg (by omega)]
    simp [zE,List.getD,show i < obs.length by omega]
  have hsim:Sim Bi (fun _ => .undef) (zg4 obs (some xs)) (fun i=>obs.length+1≤i) (zX js σ) a w1:=by
   refine ⟨fun t => .undef _,fun id ob hi=>?_,fun i j b h1 h2 h3 h4=>?_,fun id b h1 h2=>?_,fun i hi=>?_,⟨rfl,rfl,rfl,Nat.le_refl _,fun _ _ _=>rfl,fun b c e hcb=>⟨c,hcb,rfl⟩⟩,hcs.nt,fun b hb=>?_,fun b o hp=>?_,fun id l hl=>?_⟩
   ·rw [zeu] at hi
    split at hi
    ·rename_i e;cases hi;rw [e];exact .todo _ hnl
    ·exact (hcs.mem id ob hi).turn tn rfl fun b hb=>hold b (by obtain ⟨o,ho⟩:=zaV hcs (show zE (obs.map some) id≠none by rw [hi];simp) hb;exact zz ho)
   ·have g : ∀ {i b},zg4 obs (some xs) i≠none→zX js σ i=some b→zE (obs.map some) i≠none:=by
     intro i b h1 h2
     rw [zeu] at h1
     split at h1
     ·rename_i e;rw [e,hnl] at h2;cases h2
     ·exact h1
    exact hcs.inj i j b (g h1 h3) (g h2 h4) h3 h4
   ·have hZ:(own (zX js σ) (zg4 obs (some xs))) b:=⟨id,h1,h2⟩
    rw [hownZ] at hZ
    obtain ⟨j,g1,g2,g3⟩:=hZ
    refine ⟨fun hb=>?_,.inl (.inr ⟨j,g1,g2,g3⟩)⟩
    have:=hblk g2 g3
    rcases hb with hb|hb
    ·rcases hb.2 with hb|⟨id',h4,h5,h6,h7⟩
     ·exact (h.mine j b g2 g3).1 hb
     ·have:=h.inj j id' b g2 h4 g3 h5
      subst this;exact h6 g1
    ·omega
   ·rw [zeu,if_neg (by omega)]
    simp [zE,List.getD,List.getElem?_eq_none (show obs.length≤i by omega)]
   ·rcases hb with hb|hb
    ·have:=hb.1;omega
    ·exact hb.2
   ·have:=h.pins b o hp
    rw [hold b (zz this)];exact this
   ·rw [zeu] at hl
    split at hl
    ·cases hl;rw [hownZ];exact hJ0
    ·rename_i hne
     cases hcs.mem id _ hl with
     | todo =>
      exfalso
      obtain ⟨j,hj,hp⟩:=hobs id _ (zgT hl)
      cases hm:M j with
      | none=>rw [hm] at hp;exact hp
      | some ob=>rw [hm] at hp;cases ob<;>simp [zbA] at hp
  exact hit Bi (zX js σ) a w1 caps l hT (hround.more fun b hb => .inl hb) hfin hsim (by omega) (fun i hi=>by
   obtain ⟨k',-,hp⟩:=hav i hi
   exact (zoz h hc.objs hdj k' _ _ _ hp (hcaps i (by omega))).turn tn) cs'
end Go.Ab
namespace Go.Ab
open Go
theorem go_end {P:Program} {b:FB} {a:Act} {cs:List Frame} {w:World} (hb:b.rnd=none):step P (lone (b.at a []) cs w) = .next (lone { b.at a [] with mode := .returning } cs w) :=
 step_lone_go (by simp [stepG,stepG.exec,FB.at,hb])
theorem go_ret {P:Program} {b:FB} {a:Act} {k:List Item} {cs:List Frame} {w:World} (hb:b.rnd=none):step P (lone (b.at a (.code .ret::k)) cs w) = .next (lone { b.at a (.code .ret::k) with mode := .returning } cs w) :=
 step_lone_go (by simp [stepG,stepG.exec,FB.at,hb])
def zfi (obs:List Ob) (σ:Nat→Option Nat) (t:Nat):Value :=
 match obs[t]?,σ t with
 | some (.row _ xs),some b => .slice (some ⟨b,0,none⟩) xs.length xs.length
 | some (.row _ _),none => .slice none 0 0
 | some (.box _),some b => .pointer (some ⟨b,0,none⟩)
 | some (.map _),some b => .map (some b)
 | _,_=>undef
theorem zvC {P:Program} {f:Nat} {c:CFn} (h:ze P f=some c) :
  ∃ fn body,P.funcs[f]? = some fn∧fn.body=some body∧(fn.name == "runtime.NumGoroutine")=false∧fn.ntmps=c.ntmps∧c.ntmps≤zc∧zdD P c.ntmps body=some c.body∧fn.results.toList.mapM (zhw P)=some c.res:=by
 unfold ze at h
 split at h
 ·rename_i fn hfn
  split at h
  ·rename_i b res hb hres
   split at h
   ·rename_i cc hcc
    cases hcond:(fn.name != "runtime.NumGoroutine" && Nat.ble fn.ntmps zc) with
    | false=>rw [hcond] at h;cases h
    | true =>
     rw [hcond] at h
     cases h
     rw [Bool.and_eq_true] at hcond
     exact ⟨fn,b,hfn,hb,by simpa [bne] using hcond.1,rfl,Nat.le_of_ble_eq_true hcond.2,hcc,hres⟩
   ·cases h
  ·cases h
 ·cases h
section
variable {P:Program} {T:Nat→Obj→Prop}
def zmI (B:zx) (nt:Nat) (hnt:nt≤zc) (obs:List Ob) (σ:Nat→Option Nat):zx := { B with nt:=nt,ghost:=zfi obs σ,small:=hnt,dfr:=[] }
theorem zxZ {B:zx} {σ:Nat→Option Nat} {a:Act} {w:World} {nt:Nat} (hsm:nt≤zc) {vs:List V} {obs:List Ob} {args:Array Value} (hlen:vs.length≤nt)
  (hsim:Sim B (fun _ => .undef) (zE (obs.map some)) (fun i=>obs.length≤i) σ a w) (hsz:args.size=vs.length)
  (hargs : ∀ i,i < vs.length→VSim σ (zE (obs.map some)) (fun i=>obs.length≤i) (B.X σ (zE (obs.map some))) w (vs.getD i .undef) (args.getD i undef)) :
  Sim (zmI B nt hsm obs σ) (zbd 0 vs++zc8 zc 0 obs).get (zjb 0 obs).get (fun i=>obs.length≤i) σ { tmps:=args++Array.replicate (nt - args.size) undef,defers:=[] } w:=by
 have hget:(zjb 0 obs).get=zE (obs.map some):=by rw [zrw,zrv]
 rw [hget]
 refine ⟨fun t=>?_,hsim.mem,hsim.inj,hsim.mine,hsim.free,hsim.kept,⟨by simp [zmI];omega,rfl⟩,hsim.olt,hsim.pins,hsim.todo⟩
 rw [zpn]
 by_cases ht:t < vs.length
 ·have hlt:t < zc:=by omega
  rw [if_pos]
  ·rw [znr,if_pos (by omega)]
   simp only [zx.look,if_pos hlt]
   have:=hargs t ht
   rw [Nat.sub_zero]
   rwa [show (args++Array.replicate (nt - args.size) undef).getD t undef=args.getD t undef by
    simp only [Array.getD_eq_getD_getElem?]
    rw [Array.getElem?_append_left (by omega)]]
  ·have : ∀ (vs:List V) (i t:Nat),i≤t→t < i+vs.length → ∃ p∈zbd i vs,p.1=t:=by
    intro vs
    induction vs with
    | nil=>intro i t h1 h2;simp at h2;omega
    | cons v r ih =>
     intro i t h1 h2
     by_cases e:i=t
     ·exact ⟨(i,v),by simp [zbd],e⟩
     ·obtain ⟨p,h3,h4⟩:=ih (i+1) t (by omega) (by simp at h2;omega)
      exact ⟨p,by simp [zbd,h3],h4⟩
   exact this vs 0 t (Nat.zero_le _) (by omega)
 ·rw [if_neg]
  ·rw [zl8]
   by_cases hg:zc+0≤t∧t < zc+0+obs.length
   ·rw [if_pos hg]
    have hng : ¬ t < zc:=by omega
    simp only [zx.look,if_neg hng,zmI,Nat.sub_zero]
    have hi:t - zc < obs.length:=by omega
    rw [List.getElem?_eq_getElem hi]
    simp only
    have hob:=zmz (List.getElem?_eq_getElem hi)
    have hs:=hsim.mem _ _ hob
    simp only [zfi,List.getElem?_eq_getElem hi]
    generalize obs[t - zc]=ob at hob hs
    cases hs with
    | nilrow s h1=>rw [h1];exact .ownNil _ s hob h1
    | row s xs b c e h1 h2 h3 h4 h5 h6=>rw [h1];exact .own _ s xs b xs.length c e hob h1 h2 (Nat.le_refl _) h3
    | box cs b c e h1 h2 h3 h4 h5=>rw [h1];exact .ptr _ 0 cs b hob h1
    | map es b ents clock h1=>rw [h1];exact .map _ es b hob h1
    | iterNil=>exact .undef _
    | iter=>exact .undef _
    | todo=>exact .undef _
   ·rw [if_neg hg];exact .undef _
  ·rintro ⟨p,h1,h2⟩
   have : ∀ (vs:List V) (i:Nat) (p:Nat×V),p∈zbd i vs→p.1 < i+vs.length:=by
    intro vs
    induction vs with
    | nil=>intro i p h;simp [zbd] at h
    | cons v r ih =>
     intro i p h
     simp only [zbd,List.mem_cons] at h
     rcases h with rfl|h
     ·simp
     ·have:=ih (i+1) p h;simp;omega
   have:=this vs 0 p h1
   omega
set_option maxHeartbeats 1000000 in
theorem zog (hm:P.follows .mixedOrders=true) {f:Nat} {c:CFn} (hc:ze P f=some c) {vs:List V} {obs:List Ob} {v:V} {obs':List (Option Ob)} (hlen:vs.length≤c.ntmps)
  (Q:zac) (hQ : ∀ e env mem n,Q e env mem n→zs5 c obs v obs' e env mem n) (h:wpc (zdf P T) (zkl P T) noY false c.body Q (zbd 0 vs++zc8 zc 0 obs) (zjb 0 obs) obs.length):Fn P T f vs obs v obs':=by
 obtain ⟨fn,body,hfn,hbody,hname,hnt,hsm,hcomp,hres⟩:=zvC hc
 refine ⟨⟨fn,hfn,hname,by rw [hbody];rfl⟩,fun B σ a w args hT htr hsim hsz hargs cs=>?_⟩
 have hstart:=zxZ (nt:=c.ntmps) hsm hlen hsim hsz hargs
 obtain ⟨B',hB'⟩ : ∃ B',B'=zmI B c.ntmps hsm obs σ:=⟨_,rfl⟩
 obtain ⟨a',ha'⟩ : ∃ a':Act,a' = { tmps:=args++Array.replicate (c.ntmps - args.size) undef,defers:=[] } := ⟨_,rfl⟩
 rw [← hB',← ha'] at hstart
 have hB'O:B'.O=B.O:=by rw [hB'];rfl
 have htr':zbc B':=fun O Z l w=>by rw [hB'];exact htr O Z l w
 have hT':Has T B':=fun b o ht=>by rw [hB'];exact hT b o ht
 have hcomp':zdD P B'.nt body=some c.body:=by rw [hB'];exact hcomp
 have hwp:=zx4 hm zub (zua P T) (fun B hT _=>zuy B hT) body ⟨f,.normal,none⟩ c.body noY false B' hT' (fun hn=>by cases hn) (fun _=>⟨rfl,htr',rfl⟩) hcomp' _ _ _ _ σ a' w h hstart
 have fin : ∀ (e:Ex) (a2:Act) (w2:World),zhu false B' Q e a2 w2→(∀ id,e ≠ .exit id) ∧ ∃ Ds:List Nat,a2.defers=Ds.map zcm∧Ds.Nodup∧(∀ D∈Ds,w2.heap[D]? = some (.deferred (some []))) ∧
   ∀ w3,zbh w2 w3→w3.heap.size=w2.heap.size→(∀ b,b ∉ Ds→w3.heap[b]? = w2.heap[b]?) → ∃ v' σ',(results fn a2.tmps).run P w3 = .ok v' w3 ∧
   Sim B (fun _ => .undef) (zE obs') (fun i=>obs'.length≤i) σ' a w3∧VSim σ' (zE obs') (fun i=>obs'.length≤i) (B.X σ' (zE obs')) w3 v v' ∧
   ∀ i ob,obs[i]? = some ob→zE obs' i=none∨(σ' i=σ i ∧ ∃ ob',zE obs' i=some ob'∧zdh ob ob'):=by
  rintro e a20 w20 ⟨B2,env2,mem2,n2,σ2,⟨hext,-⟩,hq,hs20⟩
  obtain ⟨he,x,r,nl,hx,hf⟩:=hQ _ _ _ _ hq
  obtain ⟨Ds,hds,hdn,hdp⟩:=hext.dfr
  refine ⟨fun id hid=>by subst hid;exact he,Ds,?_,hdn,fun D hD=>hs20.pins _ _ (hdp D hD).1,fun w2 hss hsz' hsame=>?_⟩
  ·rw [hs20.nt.2,hds,hB'];simp [zmI]
  obtain ⟨a2,ha2⟩ : ∃ a2:Act,a2 = { a20 with defers:=[] } := ⟨_,rfl⟩
  have hat:a20.tmps=a2.tmps:=by rw [ha2]
  rw [hat]
  have hs2:Sim B' env2.get mem2.get (fun i=>n2≤i) σ2 a2 w2:=by
   refine hs20.less htr' (a':=a2) hext.w0 hext.R hext.nt hext.ghost hext.O hat.symm (by rw [ha2,hB'];rfl) hss hsz' (fun b hb=>hsame b fun hD=>hb ⟨B2.pinO _ _ (hdp b hD).1,(hdp b hD).2.1⟩) fun b o hp=>?_
   rw [hsame b (fun hD=>(hdp b hD).2.2 (B'.pinO b o hp))]
   exact hs20.pins b o (hext.pin b o hp)
  obtain ⟨hr1,hr2⟩:=zcd hres
  have hxr : ∃ v',(results fn a2.tmps).run P w2 = .ok v' w2∧VSim σ2 mem2.get (fun i=>n2≤i) (B'.X σ2 mem2.get) w2 x v':=by
   unfold zoD at hx
   have key : ∀ l,zmr env2.get mem2.get c.res=some l → ∃ us:List Value,(results fn a2.tmps).run P w2 = .ok (if h:us.length=1 then us[0] else .tuple us.toArray) w2∧us.length=l.length ∧
     ∀ i,i < l.length→VSim σ2 mem2.get (fun i=>n2≤i) (B'.X σ2 mem2.get) w2 (l.getD i .undef) (us.getD i undef):=by
    intro l hl
    obtain ⟨us,g1,g2,g3⟩:=zp3 hs2 fn.results.toList c.res l hr1.symm (fun i h1 h2=>hr2 i h1 h2) hl
    refine ⟨us,?_,g2,g3⟩
    have g1':(fn.results.mapM (m:=Sem) (zkc a2.tmps)).run P w2 = .ok us.toArray w2:=by
     rw [Array.mapM_eq_mapM_toList,Sem.run_map,g1];rfl
    rw [zwd,Sem.run_bind,g1']
    simp only [Result.andThen_ok,Sem.run_pure]
    congr 1
   split at hx
   ·rename_i v0 hl
    cases hx
    obtain ⟨us,g1,g2,g3⟩:=key _ hl
    refine ⟨_,g1,?_⟩
    rw [dif_pos (by simpa using g2)]
    have:=g3 0 (by simp)
    simpa [List.getD,show 0 < us.length by simp at g2;omega] using this
   ·rename_i l hne hl
    cases hx
    obtain ⟨us,g1,g2,g3⟩:=key _ hl
    refine ⟨_,g1,?_⟩
    rw [dif_neg (by
     intro h1
     rw [g2] at h1
     obtain ⟨y,rfl⟩:=List.length_eq_one_iff.1 h1
     exact hne y rfl)]
    exact .tup l us.toArray (by simp [g2]) (fun i hi=>by simpa [Array.getD,List.getD,show i < us.length by omega] using g3 i hi)
   ·cases hx
  obtain ⟨v',hres',hvx⟩:=hxr
  have hs3:Sim B' (Env.get []) mem2.get (fun i=>n2≤i) σ2 a2 w2 := { hs2 with env:=fun t => .undef _ }
  have hmem':(zia 0 obs').get=zE obs':=zrv obs'
  have hs4:=zjU hf.le hs3
  rw [hmem'] at hs4
  have hs5:Sim B (fun _ => .undef) (zE obs') (fun i=>obs'.length≤i) (reσ r σ2) a w2:=by
   subst hB'
   exact ⟨fun t => .undef _,hs4.mem,hs4.inj,hs4.mine,hs4.free,hs4.kept,hsim.nt,hs4.olt,hs4.pins,fun id l hl=>htr _ _ _ _⟩
  have hXB : ∀ σ M,B'.X σ M=B.X σ M:=fun σ M=>by rw [hB'];rfl
  refine ⟨v',reσ r σ2,hres',hs5,?_,fun i ob hob=>?_⟩
  ·rw [← hXB]
   have one : ∀ (v x:V) (v':Value),VLe r nl 30 v x∨zoP mem2 r v x→VSim σ2 mem2.get (fun i=>n2≤i) (B'.X σ2 mem2.get) w2 x v'→VSim (reσ r σ2) (zE obs') (fun i=>obs'.length≤i) (B'.X (reσ r σ2) (zE obs')) w2 v v':=by
    intro v x v' hv hvx
    rcases hv with hv|⟨y,rfl,hfr,hdis⟩
    ·have:=zjV hf.le 30 v x v' hv hvx
     rw [hmem'] at this
     exact this
    ·refine .d y v' ?_
     have hd:=(zcU (M':=fun id=>if id∈V.reach mem2.get 20 x then none else mem2.get id) hs3 (fun j hj=>by
      split at hj
      ·exact absurd rfl hj
      ·exact hj) true 20).1 x y v' hfr hvx (fun id hid=>by
       simp only [zaW,cond_true] at hid
       simp [hid])
     refine hd.mono (fun _ _ _=>rfl) (fun b hlt hb=>?_)
     rcases hb with hb|⟨id,h1,h2⟩
     ·exact .inl hb
     ·obtain ⟨ob,hob⟩:=Option.ne_none_iff_exists'.1 h1
      rw [← hmem'] at hob
      have hg:=(zaw hf.le.m hob).2
      unfold reσ at h2
      cases hj:zbG r id with
      | none=>rw [hj] at h2;cases h2
      | some j =>
       rw [hj] at h2
       simp only [hj] at hg
       obtain ⟨ob',h3,-⟩:=hg
       refine .inr ⟨j,?_,h2⟩
       simp only
       rw [if_neg (fun hm=>zcM hdis j hm (List.mem_map.2 ⟨(id,j),zgm hj,rfl⟩)),h3]
       simp
   rcases hf.v with hv|hv|⟨vs2,xs2,rfl,rfl,hl,hi⟩
   ·exact one _ _ _ (.inl hv) hvx
   ·exact one _ _ _ (.inr hv) hvx
   ·cases hvx with
    | tup _ us hsz2 hus=>exact .tup vs2 us (by rw [hl];exact hsz2) fun i h=>one _ _ _ (hi i h) (hus i (by rw [← hl];exact h))
  ·
   have hgl : ∀ (obs:List Ob) (k:Nat),zmH r nl env2 obs' k obs → ∀ (i:Nat) (ob:Ob),obs[i]? = some ob→(match obs'.getD (k+i) none with
     | none=>True
     | some (.row s _)=>(match ob with | .row s' _=>s'=s|_=>False)∧VLe r nl 30 (.own (k+i)) (env2.get (zc+(k+i)))
     | some (.box _)=>(match ob with | .box _=>True|_=>False)∧VLe r nl 30 (.ptr (k+i) 0) (env2.get (zc+(k+i)))
     | some (.map _)=>(match ob with | .map _=>True|_=>False)∧VLe r nl 30 (.map (k+i)) (env2.get (zc+(k+i)))
     | some _=>False):=by
    intro obs
    induction obs with
    | nil=>intro k _ i ob h;simp at h
    | cons o rest ih =>
     intro k hg i ob hi
     cases i with
     | zero=>cases hi;exact hg.1
     | succ i =>
      have:=ih (k+1) hg.2 i ob (by simpa using hi)
      rwa [show k+1+i=k+(i+1) by omega] at this
   have hgi:=hgl obs 0 hf.gh i ob hob
   rw [Nat.zero_add] at hgi
   have hi:=(List.getElem?_eq_some_iff.1 hob).1
   have hlook:B'.look a2 (zc+i)=zfi obs σ i:=by
    simp only [zx.look,hB',zmI]
    rw [if_neg (by omega),Nat.add_sub_cancel_left]
   have henv:=hs2.env (zc+i)
   rw [hlook] at henv
   have hini:=hsim.mem i ob (zmz hob)
   cases hm':zE obs' i with
   | none=>exact .inl rfl
   | some ob' =>
    right
    have hm'':obs'.getD i none=some ob':=hm'
    rw [hm''] at hgi
    cases ob' with
    | iter=>exact hgi.elim
    | todo=>exact hgi.elim
    | map ys =>
     obtain ⟨hk,hv⟩:=hgi
     have hvs:=zjV hf.le 30 _ _ _ hv henv
     rw [hmem'] at hvs
     cases hini with
     | map es b ents clock h1 h2 =>
      simp only [zfi,hob,h1] at hvs
      cases hvs with
      | mapDead _ _ g1=>rw [g1] at hm';cases hm'
      | map _ zs _ g1 g2=>rw [g1] at hm';cases hm';exact ⟨by rw [g2,h1],_,rfl,.map _ _⟩
     | _=>exact hk.elim
    | row s ys =>
     obtain ⟨hk,hv⟩:=hgi
     have hvs:=zjV hf.le 30 _ _ _ hv henv
     rw [hmem'] at hvs
     cases hini with
     | box=>exact hk.elim
     | map=>exact hk.elim
     | iterNil=>exact hk.elim
     | iter=>exact hk.elim
     | todo=>exact hk.elim
     | nilrow s' h1 =>
      simp only at hk;subst hk
      simp only [zfi,hob,h1] at hvs
      cases hvs with
      | ownDead _ _ _ _ g1=>rw [g1] at hm';cases hm'
      | ownNil _ _ g1 g2=>rw [g1] at hm';cases hm';exact ⟨by rw [g2,h1],_,rfl,.row _ _ _ rfl⟩
     | row s' xs b c e h1 h2 =>
      simp only at hk;subst hk
      simp only [zfi,hob,h1] at hvs
      generalize hL:xs.length=len at hvs
      cases hvs with
      | ownDead _ _ _ _ g1=>rw [g1] at hm';cases hm'
      | own _ _ zs _ _ c e g1 g2=>rw [g1] at hm';cases hm';exact ⟨by rw [g2,h1],_,rfl,.row _ _ _ hL⟩
    | box ys =>
     obtain ⟨hk,hv⟩:=hgi
     have hvs:=zjV hf.le 30 _ _ _ hv henv
     rw [hmem'] at hvs
     cases hini with
     | nilrow=>exact hk.elim
     | row=>exact hk.elim
     | map=>exact hk.elim
     | iterNil=>exact hk.elim
     | iter=>exact hk.elim
     | todo=>exact hk.elim
     | box cs b c e h1 h2 =>
      simp only [zfi,hob,h1] at hvs
      cases hvs with
      | ptrDead _ _ _ g1=>rw [g1] at hm';cases hm'
      | ptr _ _ zs _ g1 g2=>rw [g1] at hm';cases hm';exact ⟨by rw [g2,h1],_,rfl,.box _ _⟩
 have henter:Frame.enter P f args .normal=(⟨f,.normal,none⟩:FB).at a' [.code body]:=by
  simp [Frame.enter,FB.at,hfn,hbody,ha',hnt]
 obtain ⟨e,a2,w2,hpost,harr⟩:=hwp [] cs
 obtain ⟨hne,Ds,hds,hdn,hdp,hfin⟩:=fin e a2 w2 hpost
 rw [← henter] at harr
 cases e with
 | normal =>
  obtain ⟨w3,u1,u2,u3,u4⟩:=zil (P:=P) Ds { (⟨f,.normal,none⟩:FB).at a2 [] with mode := .returning } cs w2 rfl hds hdn hdp
  obtain ⟨v',σ',hres',hs',hv',hold⟩:=hfin w3 u2 u3 u4
  exact ⟨v',w3,σ',⟨_,(Steps.trans harr (.one (go_end rfl))).trans u1,rfl,rfl,rfl,rfl,fn,hfn,hres'⟩,hs',hv',hold⟩
 | ret =>
  obtain ⟨k2,hs⟩:=harr
  obtain ⟨w3,u1,u2,u3,u4⟩:=zil (P:=P) Ds { (⟨f,.normal,none⟩:FB).at a2 (.code .ret::k2) with mode := .returning } cs w2 rfl hds hdn hdp
  obtain ⟨v',σ',hres',hs',hv',hold⟩:=hfin w3 u2 u3 u4
  exact ⟨v',w3,σ',⟨_,(hs.trans (.one (go_ret rfl))).trans u1,rfl,rfl,rfl,rfl,fn,hfn,hres'⟩,hs',hv',hold⟩
 | exit id=>exact absurd rfl (hne id)
def zkv (c:CFn) (y:D):zac:=fun e env mem n =>
 match e with
 | .exit _=>False
 | _=>(match zoD c.res env.get mem.get with
  | some x=>x.freeze mem.get true 20
  | none=>none)=some y
theorem zAa (hm:P.follows .mixedOrders=true) {f:Nat} {c:CFn} (hc:ze P f=some c) {vs:List V} {y:D} (hlen:vs.length≤c.ntmps)
  (h:wpc (zdf P T) (zkl P T) noY false c.body (zkv c y) (zbd 0 vs) [] 0):Fn P T f vs [] (.d y) []:=by
 refine zog hm hc hlen (zkv c y) (fun e env mem n hq=>?_) (by simpa [zc8,zjb] using h)
 unfold zkv at hq
 have key:(match zoD c.res env.get mem.get with
  | some x=>x.freeze mem.get true 20
  | none=>none)=some y → ∃ x r nl,zoD c.res env.get mem.get=some x∧zoO [] env mem n x (.d y) [] r nl:=by
  intro hq
  split at hq
  ·rename_i x hx
   exact ⟨x,[],[],hx,.inr (.inl ⟨y,rfl,hq,by simp [zd1]⟩),⟨rfl,rfl,rfl,trivial,trivial⟩,trivial⟩
  ·cases hq
 cases e with
 | exit id=>exact hq.elim
 | normal=>exact ⟨trivial,key hq⟩
 | ret=>exact ⟨trivial,key hq⟩
theorem zfE.data {M:Nat→Option Ob} {n f:Nat} {vs lvs:List V} {y:D} {K:V→Upd→Nat→Prop} (hf:Fn P T f lvs [] (.d y) []) (ha:VPasses M [] (zL M vs) 20 lvs vs)
  (hy:y.flat 19=true) (hK:K (.d y) [] 0):zfE (zdf P T) M n f vs K :=
 ⟨.d y,[],0,⟨[],zL M vs,true,lvs,[],.d y,[],hf,ha,rfl,rfl,by simp [zd1],by simp [zdM],by simp [zdM],by simp,fun _=>⟨hy,trivial⟩,rfl,rfl,rfl⟩,hK⟩
end
end Go.Ab
namespace Go.Ab
open Go
structure zaz (b:Bool) (p q:Prop):Prop where
 t:b=true→p
 f:b=false→q
structure zsb (p q:Prop):Prop where
 p:p
 q:q
structure zjh (p q:Prop):Prop where
 h:p→q
inductive zfb (p a b:Prop):Prop where
 | fit (h:p) (k:a)
 | no (k:b)
inductive zdg (xs:List D) (i:Int) (K:D→Prop):Prop where
 | mk (x:D) (h:0≤i∧xs[i.toNat]? = some x) (k:K x)
inductive zT (es:List (D×D)) (k:D) (K:Option D→Prop):Prop where
 | mk (r:Option D) (h:zF es k=some r) (k:K r)
structure zo (C:zh) (M:Nat→Option Ob) (n f:Nat) (vs:List V) (K:V→Upd→Nat→Prop):Prop where
 h:zfE C M n f vs K
inductive zvp (ops:List COp) (bef:List Nat) (l:List zas) (q:Prop):Prop where
 | mk (o:zhB ops bef l=true) (k:q)
 | ex (E:List (Nat×Nat)) (o:zkR E ops bef l=true) (s : ∀ e,e∈E→zmY (l.getD e.1 ⟨[],[],none,[]⟩) (l.getD e.2 ⟨[],[],none,[]⟩)) (k:q)
structure zzG (left:List (D×D)) (K:Option (Nat×D×D)→Prop):Prop where
 nil:left=[]→K none
 cons : ∀ i k v,left[i]? = some (k,v)→K (some (i,k,v))
structure zx8 (p:Prop) (K:Bool→Prop):Prop where
 h : ∀ b:Bool,(b=true→p)→K b
structure zhO (k:Nat) (X:zac→Prop) (Z:Env→Mem→Nat→Prop) (Q:zac):Prop where
 h:zBA X Z Q
structure zsa (B:zac→Env→Mem→Nat→Prop) (Q:zac) (env:Env) (mem:Mem) (n:Nat):Prop where
 h:zv1 B Q env mem n
structure zAW (I:zcF) (B:zac→Env→Mem→Nat→Prop) (ps:List Nat) (Q:zac) (env:Env) (mem:Mem) (n g:Nat) (cs:List V):Prop where
 h:zwe I B ps Q env mem n g cs
def zhN (f:Dec→Env→Mem→Nat→Prop) (δ:Dec) (env:Env) (mem:Mem) (n:Nat):Prop:=f δ env mem n
def znP (f:Dec→Env→Mem→Nat→List zas→Prop) (δ:Dec) (env:Env) (mem:Mem) (n:Nat) (l:List zas):Prop:=f δ env mem n l
def zCA (f:Env→Mem→Nat→Prop) (env:Env) (mem:Mem) (n:Nat):Prop:=f env mem n
def zdC (f:zac) (e:Ex) (env:Env) (mem:Mem) (n:Nat):Prop:=f e env mem n
def zfG (f:zc3→Bool→zac→Env→Mem→Nat→Prop) (Y:zc3) (b:Bool) (Q:zac) (env:Env) (mem:Mem) (n:Nat):Prop:=f Y b Q env mem n
def Eff.wpR (C:zh) (M:Nat→Option Ob) (n:Nat) (K:V→Upd→Nat→Prop) (e:Eff):Prop :=
 @Eff.rec (fun _=>Prop) False (fun v u k=>K v u k) (fun p _ _ ih=>zsb p ih) (fun p _ ih=>zjh p ih) (fun p _ _ _ a b=>zfb p a b) (fun xs i _ ih=>zdg xs i ih) (fun es k _ ih=>zT es k ih) (fun f vs=>zo C M n f vs K) e
def zjN (δ:Dec) (env:Env) (g:Nat×Bool) (yes no:Dec→Prop):Prop :=
 match δ.get g.1 with
 | some b=>cond (b==g.2) (yes δ) (no δ)
 | none=>match env.get g.1 with
  | .bt=>cond g.2 (yes δ) (no δ)
  | .bf=>cond g.2 (no δ) (yes δ)
  | .tup []=>no δ
  | .d (.bool b)=>zaz b (cond g.2 (yes ((g.1,true)::δ)) (no ((g.1,true)::δ))) (cond g.2 (no ((g.1,false)::δ)) (yes ((g.1,false)::δ)))
  | _=>False
def zsg (v:V) (p q:Prop):Prop :=
 match v with
 | .bt=>p
 | .bf=>q
 | .d (.bool b)=>zaz b p q
 | _=>False
def zB2 (id:Nat) (left:List (D×D)) (mem:Mem):Option (Nat×D×D)→Mem
 | none=>mem
 | some (i,k,v)=>(id,some (.iter (left.eraseIdx i) (some (k,v))))::mem
def zB3:Option (Nat×D×D)→V
 | none => .d (.tup [.bool false])
 | some (_,k,v) => .d (.tup [.bool true,k,v])
def zju (Y:zc3) (o:CO) (env:Env) (mem:Mem) (n:Nat):Option ((V→Mem→Nat→Prop)→Prop) :=
 match o with
 | .callv g xs=>match g.ev env.get with
  | .yld l=>some fun K=>Y l (evs env.get xs) mem n fun b mem n=>K (.d (.bool b)) mem n
  | _=>none
 | .next it=>match it.ev env.get with
  | .iter id=>some fun K=>match mem.get id with
   | some (.iter left _)=>zzG left fun r=>K (zB3 r) (zB2 id left mem r) n
   | _=>False
  | _=>none
 | .eqN neg x y=>match x.ev env.get,y.ev env.get with
  | .d (.arr _ xs),.nils _=>some fun K=>zx8 (xs=[]) fun b=>K (.d (.bool (b != neg))) mem n
  | .own id,.nils _=>match mem.get id with
   | some (.row _ xs)=>some fun K=>zx8 (xs=[]) fun b=>K (.d (.bool (b != neg))) mem n
   | _=>none
  | _,_=>none
 | _=>none
def zin (C:zh) (K:Env→Mem→Nat→List zas→Prop) (ops:List COp):Dec→Env→Mem→Nat→List zas→Prop :=
 @List.rec COp (fun _=>Dec→Env→Mem→Nat→List zas→Prop) (fun _ env mem n l=>K env mem n l) (fun o _ ih δ env mem n l =>
  match o.guard with
  | none=>(zdr δ o.op env.get mem.get n).wpR C mem.get n fun v u k =>
    znP ih (δ.del o.dst) (zY o.dst v env) (zV u mem) (n+k) (l++[⟨zaI o.op env.get mem.get,u.map Prod.fst,zbm o.op env.get v,u⟩])
  | some g=>zjN δ env g
    (fun δ=>(zdr δ o.op env.get mem.get n).wpR C mem.get n fun v u k =>
     znP ih (δ.del o.dst) (zY o.dst v env) (zV u mem) (n+k) (l++[⟨zaI o.op env.get mem.get,u.map Prod.fst,zbm o.op env.get v,u⟩]))
    (fun δ=>znP ih (δ.del o.dst) (zY o.dst (.tup []) env) mem n (l++[⟨[],[],none,[]⟩]))) ops
def zf9 (C:zh) (Y:zc3) (K:Env→Mem→Nat→Prop) (ops:List COp):Dec→Env→Mem→Nat→Prop :=
 @List.rec COp (fun _=>Dec→Env→Mem→Nat→Prop) (fun _ env mem n=>K env mem n) (fun o _ ih δ env mem n =>
  match o.guard with
  | none=>match zju Y o.op env mem n with
   | some f=>f fun v mem n=>zhN ih (δ.del o.dst) (zY o.dst v env) mem n
   | none=>(zdr δ o.op env.get mem.get n).wpR C mem.get n fun v u k =>
     zfR o.op u mem env fun env=>zhN ih (δ.del o.dst) (zY o.dst v env) (zV u mem) (n+k)
  | some g=>zjN δ env g
    (fun δ=>match zju Y o.op env mem n with
     | some f=>f fun v mem n=>zhN ih (δ.del o.dst) (zY o.dst v env) mem n
     | none=>(zdr δ o.op env.get mem.get n).wpR C mem.get n fun v u k =>
       zfR o.op u mem env fun env=>zhN ih (δ.del o.dst) (zY o.dst v env) (zV u mem) (n+k))
    (fun δ=>zhN ih (δ.del o.dst) (zY o.dst (.tup []) env) mem n)) ops
def zgu (C:zh) (I:zcF) (c:CC):zc3→Bool→zac→Env→Mem→Nat→Prop :=
 @CC.rec (fun _=>zc3→Bool→zac→Env→Mem→Nat→Prop)
  (fun _ _ Q env mem n=>zdC Q .normal env mem n)
  (fun cx _ x y Y b Q env mem n=>match cx.cuts with
   | none=>x Y b (fun e env mem n=>match e with
    | .normal=>zfG y Y b Q env mem n
    | e=>zdC Q e env mem n) env mem n
   | some k=>zhO k (fun Q=>x Y b Q env mem n) (fun env mem n=>zfG y Y b Q env mem n) Q)
  (fun ops Y _ Q env mem n=>zf9 C Y (fun env mem n=>zdC Q .normal env mem n) ops [] env mem n)
  (fun ops bef _ _ Q env mem n=>zin C (fun env mem n l=>zvp ops bef l (zdC Q .normal env mem n)) ops [] env mem n [])
  (fun x _ _ c d Y b Q env mem n=>zsg (x.ev env.get) (zfG c Y b Q env mem n) (zfG d Y b Q env mem n))
  (fun id _ c Y b Q env mem n=>c Y b (fun e env mem n=>match e with
   | .exit j=>cond (Nat.beq j id) (zdC Q .normal env mem n) (zdC Q (.exit j) env mem n)
   | e=>zdC Q e env mem n) env mem n)
  (fun _ c Y b Q env mem n=>zsa (fun Q env mem n=>c Y b Q env mem n) Q env mem n)
  (fun id _ _ Q env mem n=>zdC Q (.exit id) env mem n)
  (fun _ _ Q env mem n=>zdC Q .ret env mem n)
  (fun f ps _ _ x y _ b Q env mem n=>match b with
   | true=>False
   | false=>match f.ev env.get with
    | .fn g cs=>zAW I (fun Q env mem n=>x noY true (fun e env mem n=>match e with
      | .normal=>zfG y noY true Q env mem n
      | e=>zdC Q e env mem n) env mem n) ps Q env mem n g cs
    | _=>False) c
theorem zgW (C:zh) (M:Nat→Option Ob) (n:Nat) (K:V→Upd→Nat→Prop) : ∀ e:Eff,e.wpR C M n K=e.wp C M n K
 | .bad=>rfl
 | .ok _ _ _=>rfl
 | @Eff.need p _ r=>by
  show zsb p (r.wpR C M n K)=zAU p (r.wp C M n K)
  rw [zgW C M n K r];exact propext ⟨fun ⟨a,b⟩=>⟨a,b⟩,fun ⟨a,b⟩=>⟨a,b⟩⟩
 | .given p r=>by
  show zjh p (r.wpR C M n K)=Given p (r.wp C M n K)
  rw [zgW C M n K r];exact propext ⟨fun ⟨a⟩=>a,fun a=>⟨a⟩⟩
 | @Eff.alt p _ r s=>by
  show zfb p (r.wpR C M n K) (s.wpR C M n K)=Alt p (r.wp C M n K) (s.wp C M n K)
  rw [zgW C M n K r,zgW C M n K s]
  exact propext ⟨fun h=>match h with | .fit a b => .inl ⟨a,b⟩ | .no b => .inr b,fun h=>h.elim (fun ⟨a,b⟩ => .fit a b) .no⟩
 | .elem xs i f=>by
  show zdg xs i (fun x=>(f x).wpR C M n K)=zzD xs i (fun x=>(f x).wp C M n K)
  rw [show (fun x=>(f x).wpR C M n K)=fun x=>(f x).wp C M n K from funext fun x=>zgW C M n K (f x)]
  exact propext ⟨fun ⟨x,a,b⟩=>⟨x,a,b⟩,fun ⟨x,a,b⟩=>⟨x,a,b⟩⟩
 | .find es k f=>by
  show zT es k (fun x=>(f x).wpR C M n K)=zzE es k (fun x=>(f x).wp C M n K)
  rw [show (fun x=>(f x).wpR C M n K)=fun x=>(f x).wp C M n K from funext fun x=>zgW C M n K (f x)]
  exact propext ⟨fun ⟨x,a,b⟩=>⟨x,a,b⟩,fun ⟨x,a,b⟩=>⟨x,a,b⟩⟩
 | .call f vs=>propext ⟨fun ⟨a⟩=>a,fun a=>⟨a⟩⟩
theorem zt3 (b:Bool) (p q:Prop):zaz b p q=zye b p q:=propext ⟨fun ⟨x,y⟩=>⟨x,y⟩,fun ⟨x,y⟩=>⟨x,y⟩⟩
theorem zrs (δ:Dec) (env:Env) (g:Nat×Bool) (yes no:Dec→Prop):zjN δ env g yes no=ze1 δ env g yes no:=by
 unfold zjN ze1
 simp only [zt3]
 cases δ.get g.1 with
 | some b=>rfl
 | none =>
  cases env.get g.1 with
  | d x=>cases x<;>rfl
  | tup l=>cases l<;>rfl
  | _=>rfl
theorem zyr (v:V) (p q:Prop):zsg v p q=zpk v p q:=by
 unfold zsg zpk
 simp only [zt3]
 cases v with
 | d x=>cases x<;>rfl
 | _=>rfl
theorem zwK (Y:zc3) (o:CO) (env:Env) (mem:Mem) (n:Nat):zju Y o env mem n=zcv Y o env mem n:=by
 unfold zju zcv
 cases o with
 | callv g xs=>rfl
 | next it =>
  simp only
  cases it.ev env.get with
  | iter id =>
   simp only
   congr 1
   funext K
   cases mem.get id with
   | none=>rfl
   | some ob =>
    cases ob with
    | iter left c=>exact propext ⟨fun ⟨a,b⟩=>⟨a,b⟩,fun ⟨a,b⟩=>⟨a,b⟩⟩
    | _=>rfl
  | _=>rfl
 | eqN neg x y =>
  simp only
  cases x.ev env.get with
  | d x =>
   cases x with
   | arr s xs =>
    cases y.ev env.get with
    | nils s=>exact congrArg some (funext fun K=>propext ⟨fun ⟨a⟩=>a,fun a=>⟨a⟩⟩)
    | _=>rfl
   | _=>rfl
  | own id =>
   cases y.ev env.get with
   | nils s =>
    simp only
    cases mem.get id with
    | none=>rfl
    | some ob =>
     cases ob with
     | row s xs=>exact congrArg some (funext fun K=>propext ⟨fun ⟨a⟩=>a,fun a=>⟨a⟩⟩)
     | _=>rfl
   | _=>rfl
  | _=>rfl
 | _=>rfl
theorem zrR (C:zh) (K:Env→Mem→Nat→List zas→Prop) : ∀ (ops:List COp) (δ:Dec) (env:Env) (mem:Mem) (n:Nat) (l:List zas),zin C K ops δ env mem n l=zeM C K ops δ env mem n l
 | [],_,_,_,_,_=>rfl
 | o::r,δ,env,mem,n,l=>by
  rw [show zin C K (o::r) δ env mem n l=(match o.guard with
  | none=>(zdr δ o.op env.get mem.get n).wpR C mem.get n fun v u k =>
    znP (zin C K r) (δ.del o.dst) (zY o.dst v env) (zV u mem) (n+k) (l++[⟨zaI o.op env.get mem.get,u.map Prod.fst,zbm o.op env.get v,u⟩])
  | some g=>zjN δ env g
    (fun δ=>(zdr δ o.op env.get mem.get n).wpR C mem.get n fun v u k =>
     znP (zin C K r) (δ.del o.dst) (zY o.dst v env) (zV u mem) (n+k) (l++[⟨zaI o.op env.get mem.get,u.map Prod.fst,zbm o.op env.get v,u⟩]))
    (fun δ=>znP (zin C K r) (δ.del o.dst) (zY o.dst (.tup []) env) mem n (l++[⟨[],[],none,[]⟩]))) from rfl]
  simp only [znP,zrR C K r,zgW,zrs,zeM]
  cases o.guard<;>rfl
theorem zrT (C:zh) (Y:zc3) (K:Env→Mem→Nat→Prop) : ∀ (ops:List COp) (δ:Dec) (env:Env) (mem:Mem) (n:Nat),zf9 C Y K ops δ env mem n=zdk C Y K ops δ env mem n
 | [],_,_,_,_=>rfl
 | o::r,δ,env,mem,n=>by
  rw [show zf9 C Y K (o::r) δ env mem n=(match o.guard with
  | none=>match zju Y o.op env mem n with
   | some f=>f fun v mem n=>zhN (zf9 C Y K r) (δ.del o.dst) (zY o.dst v env) mem n
   | none=>(zdr δ o.op env.get mem.get n).wpR C mem.get n fun v u k =>
     zfR o.op u mem env fun env=>zhN (zf9 C Y K r) (δ.del o.dst) (zY o.dst v env) (zV u mem) (n+k)
  | some g=>zjN δ env g
    (fun δ=>match zju Y o.op env mem n with
     | some f=>f fun v mem n=>zhN (zf9 C Y K r) (δ.del o.dst) (zY o.dst v env) mem n
     | none=>(zdr δ o.op env.get mem.get n).wpR C mem.get n fun v u k =>
       zfR o.op u mem env fun env=>zhN (zf9 C Y K r) (δ.del o.dst) (zY o.dst v env) (zV u mem) (n+k))
    (fun δ=>zhN (zf9 C Y K r) (δ.del o.dst) (zY o.dst (.tup []) env) mem n)) from rfl]
  simp only [zhN,zrT C Y K r,zgW,zrs,zwK,zdk]
  cases o.guard with
  | none=>cases zcv Y o.op env mem n<;>rfl
  | some g=>cases zcv Y o.op env mem n<;>rfl
theorem zcI (C:zh) (I:zcF) : ∀ (c:CC) (Y:zc3) (b:Bool) (Q:zac) (env:Env) (mem:Mem) (n:Nat),zgu C I c Y b Q env mem n=wpc C I Y b c Q env mem n
 | .skip,_,_,_,_,_,_=>rfl
 | .seq x y,Y,b,Q,env,mem,n=>by
  show (match x.cuts with
   | none=>zgu C I x Y b (fun e env mem n=>match e with
    | .normal=>zfG (zgu C I y) Y b Q env mem n
    | e=>zdC Q e env mem n) env mem n
   | some k=>zhO k (fun Q=>zgu C I x Y b Q env mem n) (fun env mem n=>zfG (zgu C I y) Y b Q env mem n) Q)=_
  rw [wpc]
  cases x.cuts with
  | none =>
   simp only [zcI C I x,zfG,zcI C I y,zdC]
   rfl
  | some k =>
   simp only [zcI C I x,zfG,zcI C I y]
   exact propext ⟨fun ⟨a⟩=>a,fun a=>⟨a⟩⟩
 | .reg ops,Y,b,Q,env,mem,n=>by
  show zf9 C Y (fun env mem n=>zdC Q .normal env mem n) ops [] env mem n=_
  rw [zrT,wpc];rfl
 | .regd ops bef,Y,b,Q,env,mem,n=>by
  show zin C (fun env mem n l=>zvp ops bef l (zdC Q .normal env mem n)) ops [] env mem n []=_
  rw [zrR,wpc]
  congr 1
  funext env mem n l
  refine propext ⟨fun h=>?_,fun ⟨a,b⟩=>a.elim (fun a => .mk a b) fun ⟨E,a,s⟩ => .ex E a s b⟩
  cases h with
  | mk a b=>exact ⟨.inl a,b⟩
  | ex E a s b=>exact ⟨.inr ⟨E,a,s⟩,b⟩
 | .cond x c d,Y,b,Q,env,mem,n=>by
  show zsg (x.ev env.get) (zfG (zgu C I c) Y b Q env mem n) (zfG (zgu C I d) Y b Q env mem n)=_
  simp only [zyr,zfG,zcI C I c,zcI C I d,wpc]
 | .block id c,Y,b,Q,env,mem,n=>by
  show zgu C I c Y b (fun e env mem n=>match e with
   | .exit j=>cond (Nat.beq j id) (zdC Q .normal env mem n) (zdC Q (.exit j) env mem n)
   | e=>zdC Q e env mem n) env mem n=_
  rw [zcI C I c,wpc];rfl
 | .loop c,Y,b,Q,env,mem,n=>by
  show zsa (fun Q env mem n=>zgu C I c Y b Q env mem n) Q env mem n=_
  simp only [zcI C I c,wpc]
  exact propext ⟨fun ⟨a⟩=>a,fun a=>⟨a⟩⟩
 | .exit id,_,_,_,_,_,_=>rfl
 | .ret,_,_,_,_,_,_=>rfl
 | .rng f ps x y,Y,true,Q,env,mem,n=>rfl
 | .rng f ps x y,Y,false,Q,env,mem,n=>by
  show (match f.ev env.get with
    | .fn g cs=>zAW I (fun Q env mem n=>zgu C I x noY true (fun e env mem n=>match e with
      | .normal=>zfG (zgu C I y) noY true Q env mem n
      | e=>zdC Q e env mem n) env mem n) ps Q env mem n g cs
    | _=>False)=_
  simp only [zcI C I x,zfG,zcI C I y,wpc,zdC]
  cases f.ev env.get with
  | fn g cs=>exact propext ⟨fun ⟨a⟩=>a,fun a=>⟨a⟩⟩
  | _=>rfl
end Go.Ab
namespace Go.Ab
open Go
section
variable {P:Program} {T:Nat→Obj→Prop}
theorem zhO.direct {k:Nat} {X:zac→Prop} {Z:Env→Mem→Nat→Prop} {Q:zac} (h:X (fun e env mem n=>match e with
  | .normal=>Z env mem n
  | e=>Q e env mem n)):zhO k X Z Q:=⟨.inl h⟩
theorem zhO.but {k:Nat} {X:zac→Prop} {Z:Env→Mem→Nat→Prop} {Q:zac} (j:Nat) (hj:Nat.beq k j=false) (h:X (fun e env mem n=>match e with
  | .normal=>Z env mem n
  | e=>Q e env mem n)):zhO k X Z Q:=⟨.inl h⟩
theorem zhO.cut {k:Nat} {X:zac→Prop} {Z:Env→Mem→Nat→Prop} {Q:zac} {α:Type} (E:α→Env) (M:α→Mem) (N:Nat) (I:α→Prop) (h:X (fun e env mem n=>match e with
  | .normal => ∃ a r nl,I a∧Le env mem n (E a) (M a) N r nl
  | e=>Q e env mem n)) (hz : ∀ a,I a→Z (E a) (M a) N):zhO k X Z Q:=⟨.inr ⟨α,E,M,N,I,h,hz⟩⟩
theorem zaz.dec {x:Prop} [Decidable x] {p q:Prop} (h1:x→p) (h2 : ¬x→q):zaz (decide x) p q:=⟨fun h=>h1 (by simpa using h),fun h=>h2 (by simpa using h)⟩
theorem zaz.ne {α:Type} {a b:α} [Decidable (a≠b)] {p q:Prop} (h1:a≠b→p) (h2:a=b→q):zaz (decide (a≠b)) p q :=
 ⟨fun h=>h1 (by simpa using h),fun h=>h2 (by simpa using h)⟩
theorem zaz.not {b:Bool} {p q:Prop} (h:zaz b q p):zaz (!b) p q:=⟨fun e=>h.2 (by simpa using e),fun e=>h.1 (by simpa using e)⟩
theorem zaz.tt {p q:Prop} (h:p):zaz true p q:=⟨fun _=>h,nofun⟩
theorem zaz.ff {p q:Prop} (h:q):zaz false p q:=⟨nofun,fun _=>h⟩
theorem zjh.map {α β:Type} {f:α→β} {xs:List α} {m:Nat} {q:Prop} (h:xs.length≤m→q):zjh ((xs.map f).length≤m) q:=⟨fun h'=>h (by simpa using h')⟩
theorem zdg.nat {α:Type} {f:α→D} {xs:List α} {i:Nat} {K:D→Prop} (h:i < xs.length) (k : ∀ x,xs[i]? = some x→K (f x)):zdg (xs.map f) (i:Int) K :=
 ⟨f xs[i],⟨Int.natCast_nonneg i,by simp [h]⟩,k _ (by simp [h])⟩
theorem zdg.int {α:Type} {f:α→D} {xs:List α} {i:Int} {K:D→Prop} (h0:0≤i) (h:i < xs.length) (k : ∀ x,xs[i.toNat]? = some x→K (f x)):zdg (xs.map f) i K:=by
 have h':i.toNat < xs.length:=by omega
 exact ⟨f xs[i.toNat],⟨h0,by simp [h']⟩,k _ (by simp [h'])⟩
theorem zdg.is {α:Type} {f:α→D} {xs:List α} {i:Int} {x:α} {K:D→Prop} (h0:0≤i) (h:xs[i.toNat]? = some x) (k:K (f x)):zdg (xs.map f) i K :=
 ⟨f x,⟨h0,by simp [h]⟩,k⟩
theorem zdg.isNat {α:Type} {f:α→D} {xs:List α} {i:Nat} {x:α} {K:D→Prop} (h:xs[i]? = some x) (k:K (f x)):zdg (xs.map f) (i:Int) K :=
 ⟨f x,⟨Int.natCast_nonneg i,by simp [h]⟩,k⟩
theorem zab {α:Type} {xs:List α} {k:Nat} {x:α} (h:xs[k]? = some x):xs.drop k=x::xs.drop (k+1):=by
 obtain ⟨h',rfl⟩:=List.getElem?_eq_some_iff.1 h
 exact List.drop_eq_getElem_cons h'
theorem End.int {k:IntKind} {x y:Int} (h:x=y):some (D.int k x)=some (D.int k y):=by rw [h]
theorem End.u64 {x y:BitVec 64} (h:x=y):some (D.u64 x)=some (D.u64 y):=by rw [h]
theorem End.bool {x y:Bool} (h:x=y):some (D.bool x)=some (D.bool y):=by rw [h]
theorem zo.data {M:Nat→Option Ob} {n f:Nat} {vs lvs:List V} {y:D} {K:V→Upd→Nat→Prop} (hf:Fn P T f lvs [] (.d y) []) (ha:VPasses M [] (zL M vs) 20 lvs vs)
  (hy:y.flat 19=true) (hK:K (.d y) [] 0):zo (zdf P T) M n f vs K:=⟨zfE.data hf ha hy hK⟩
theorem zo.res {M:Nat→Option Ob} {n f:Nat} {vs lvs:List V} {lv:V} {obs':List (Option Ob)} {K:V→Upd→Nat→Prop} (hf:Fn P T f lvs [] lv obs') (ha:VPasses M [] (zL M vs) 20 lvs vs)
  (hK:K (zje [] n 20 lv) (zfO [] (zL M vs) n obs' false) obs'.length):zo (zdf P T) M n f vs K :=
 ⟨⟨_,_,_,⟨[],zL M vs,false,lvs,[],lv,obs',hf,ha,rfl,rfl,by simp [zd1],by simp [zdM],by simp [zdM],by simp,nofun,rfl,rfl,rfl⟩,hK⟩⟩
theorem zb (hm:P.follows .mixedOrders=true) {f:Nat} {c:CFn} (hc:ze P f=some c) {vs:List V} {y:D} (hlen:vs.length≤c.ntmps)
  (h:zgu (zdf P T) (zkl P T) c.body noY false (zkv c y) (zbd 0 vs) [] 0):Fn P T f vs [] (.d y) [] :=
 zAa hm hc hlen (by rw [← zcI];exact h)
theorem zB (hm:P.follows .mixedOrders=true) {f:Nat} {c:CFn} (hc:ze P f=some c) {vs:List V} {obs:List Ob} {v:V} {obs':List (Option Ob)} (hlen:vs.length≤c.ntmps)
  (Q:zac) (hQ : ∀ e env mem n,Q e env mem n→zs5 c obs v obs' e env mem n) (h:zgu (zdf P T) (zkl P T) c.body noY false Q (zbd 0 vs++zc8 zc 0 obs) (zjb 0 obs) obs.length):Fn P T f vs obs v obs' :=
 zog hm hc hlen Q hQ (by rw [← zcI];exact h)
theorem zo.dataN {M:Nat→Option Ob} {n f:Nat} {vs lvs:List V} {y:D} {K:V→Upd→Nat→Prop} (hf:Fn P T f lvs [] (.d y) []) (ha:VPasses M [] (zL M vs) 20 lvs vs)
  (hK:K (.d y) (zfO [] (zL M vs) n [] false) 0):zo (zdf P T) M n f vs K :=
 ⟨⟨.d y,_,0,⟨[],zL M vs,false,lvs,[],.d y,[],hf,ha,rfl,rfl,by simp [zd1],by simp [zdM],by simp [zdM],by simp,nofun,rfl,rfl,rfl⟩,hK⟩⟩
theorem zar {α:Type} {B:zac→Env→Mem→Nat→Prop} {Q:zac} {env:Env} {mem:Mem} {n:Nat} (E:α→Env) (I:α→Prop) (μ:α→Nat) (a:α) (hI:I a) (hE:ziw [] [] env (E a))
  (h : ∀ a,I a→B (fun e env mem n=>match e with
   | .normal => ∃ a' r nl,I a'∧μ a' < μ a∧Le env mem n (E a') [] 0 r nl
   | e=>Q e env mem n) (E a) [] 0):zsa B Q env mem n :=
 ⟨⟨α,E,fun _=>[],0,I,μ,a,[],[],hI,⟨rfl,rfl,rfl,hE,trivial⟩,h⟩⟩
theorem zy {α:Type} {B:zac→Env→Mem→Nat→Prop} {Q:zac} {env:Env} {mem:Mem} {n:Nat} (E:α→Env) (M:α→Mem) (N:Nat) (I:α→Prop) (μ:α→Nat) (a:α) (r:List (Nat×Nat)) (nl:List Nat) (hI:I a) (hE:Le env mem n (E a) (M a) N r nl)
  (h : ∀ a,I a→B (fun e env mem n=>match e with
   | .normal => ∃ a' r nl,I a'∧μ a' < μ a∧Le env mem n (E a') (M a') N r nl
   | e=>Q e env mem n) (E a) (M a) N):zsa B Q env mem n :=
 ⟨⟨α,E,M,N,I,μ,a,r,nl,hI,hE,h⟩⟩
def zwl (id:Nat) (off:Nat×Option Nat) (v:V):List (Nat×Option Ob)→Prop
 | []=>True
 | p::r=>cond (Nat.beq p.1 id) (∃ cs,p.2=some (.box cs)∧rdC cs off=v) True∧zwl id off v r
def zB5 (b:zas):Option (Nat×(Nat×Option Nat)×V)→Prop
 | some (id,off,v)=>zwl id off v b.upd
 | none=>False
def zwk (l:List zas):List (Nat×Nat)→Prop
 | []=>True
 | e::r=>((l.getD e.1 ⟨[],[],none,[]⟩).changed=[]∧zB5 (l.getD e.2 ⟨[],[],none,[]⟩) (l.getD e.1 ⟨[],[],none,[]⟩).cell)∧zwk l r
theorem ztZ {id:Nat} {off:Nat×Option Nat} {v:V} : ∀ {u:List (Nat×Option Ob)},zwl id off v u → ∀ p,p∈u→p.1=id → ∃ cs,p.2=some (.box cs)∧rdC cs off=v
 | _::_,h,p,hp,e=>by
  rcases List.mem_cons.1 hp with rfl|hp
  ·have:=h.1
   rw [show Nat.beq p.1 id=true by rw [e];exact Nat.beq_refl id] at this
   exact this
  ·exact ztZ h.2 p hp e
theorem ztY {l:List zas} : ∀ {E:List (Nat×Nat)},zwk l E → ∀ e,e∈E→zmY (l.getD e.1 ⟨[],[],none,[]⟩) (l.getD e.2 ⟨[],[],none,[]⟩)
 | _::_,h,e,he=>by
  rcases List.mem_cons.1 he with rfl|he
  ·obtain ⟨h1,h2⟩:=h.1
   refine ⟨h1,?_⟩
   cases hc:(l.getD e.1 ⟨[],[],none,[]⟩).cell with
   | none=>rw [hc] at h2;exact h2.elim
   | some c=>rw [hc] at h2;exact ⟨_,_,_,rfl,ztZ h2⟩
  ·exact ztY h.2 e he
theorem vUE {ops:List COp} {bef:List Nat} {l:List zas} {q:Prop} (E:List (Nat×Nat)) (o:zkR E ops bef l=true) (s:zwk l E) (k:q):zvp ops bef l q := .ex E o (ztY s) k
end
section
variable {p q:Prop}
theorem vT (k:p):zfb True p q := .fit trivial k
theorem vO {n:Int} (h : -9223372036854775808≤n∧n≤9223372036854775807) (k:p):zfb (inR .i64 n) p q := .fit h k
theorem vS {α:Type} {f:α→D} {xs:List α} {i:Int} {K:D→Prop} (h:0≤i∧i < xs.length) (k : ∀ x,xs[i.toNat]? = some x→K (f x)):zdg (xs.map f) i K := .int h.1 h.2 k
end
abbrev vA := @zhO.direct
abbrev vB := @zx8.mk
abbrev vC := @zzG.mk
abbrev vD := @zaz.ne
abbrev vE := @zaz.not
abbrev vF := @zaz.dec
abbrev vG := @zaz.tt
abbrev vH := @zaz.ff
abbrev vI := @zaz.mk
abbrev vJ := @zjh.map
abbrev vK := @zjh.mk
abbrev vN := @zdg.isNat
abbrev vP := @zsb.mk
abbrev vQ := @zdg.nat
abbrev vR := @zdg.is
abbrev vU := @zvp.mk
abbrev vW := @zfb.fit
abbrev vX := @End.int
abbrev vY := @End.u64
abbrev vZ := @End.bool
abbrev yD := @zo.data
abbrev yN := @zo.dataN
theorem vL:(∀ {α β:Type} {f:α→β} {l:List α},(l.map f).length=l.length)∧(∀ {n:Nat},(List.range n).length=n)∧(∀ {α:Type} {n:Nat} {x:α},(List.replicate n x).length=n)∧(∀ {a b:Int},(¬a < b)=(b≤a))∧(∀ {a b:Int},(¬a≤b)=(b < a))∧(∀ {p:Prop},(¬¬p)=p) :=
 ⟨List.length_map _,List.length_range,List.length_replicate,propext Int.not_lt,propext Int.not_le,propext Classical.not_not⟩
theorem vM:zjZ=34359738368∧(∀ {α β:Type} {f:α→β} {l:List α},(l.map f).length=l.length)∧(∀ {n:Nat},(List.range n).length=n)∧(∀ {α:Type} {n:Nat} {x:α},(List.replicate n x).length=n)∧(∀ {α:Type} {x:α} {l:List α},(x::l).length=l.length+1) ∧
  (∀ {α:Type},([]:List α).length=0)∧(∀ {α:Type} {l m:List α},(l++m).length=l.length+m.length)∧(∀ {α:Type} {l:List α} {i:Nat} {x:α},(l.set i x).length=l.length) :=
 ⟨rfl,List.length_map _,List.length_range,List.length_replicate,rfl,rfl,List.length_append,List.length_set⟩
abbrev dI (l:List Int):D := .arr 1 (l.map (.int .i64))
abbrev dU (l:List (BitVec 64)):D := .arr 1 (l.map .u64)
abbrev dII (l:List (List Int)):D := .arr 1 (l.map dI)
abbrev dUU (l:List (List (BitVec 64))):D := .arr 1 (l.map dU)
end Go.Ab
namespace Go.Ab
open Go Go.Proofs
section
variable {P : Program} {T : Nat → Obj → Prop}
theorem zuv {f : Nat} (hf : zc5 P f) {vs : List V} {obs : List Ob} {v : V} {obs' : List (Option Ob)}
    (h : ∀ (B : zx) (σ : Nat → Option Nat) (a : Act) (w : World) (args : Array Value), Has T B →
      Sim B (fun _ => .undef) (zE (obs.map some)) (fun i => obs.length ≤ i) σ a w → args.size = vs.length →
      (∀ i, i < vs.length → VSim σ (zE (obs.map some)) (fun i => obs.length ≤ i) (B.X σ (zE (obs.map some))) w (vs.getD i .undef) (args.getD i undef)) →
      Calls P f args w fun e w' => ∃ v' σ', e = .returned v' ∧ Sim B (fun _ => .undef) (zE obs') (fun i => obs'.length ≤ i) σ' a w' ∧ VSim σ' (zE obs') (fun i => obs'.length ≤ i) (B.X σ' (zE obs')) w' v v' ∧
        ∀ i ob, obs[i]? = some ob → zE obs' i = none ∨ (σ' i = σ i ∧ ∃ ob', zE obs' i = some ob' ∧ zdh ob ob')) : Fn P T f vs obs v obs' := by
  refine ⟨hf, fun B σ a w args hT htr hs hsz hargs cs => ?_⟩
  obtain ⟨e, w', fr, ⟨v', σ', rfl, h1, h2, h3⟩, hc, hfn, hl⟩ := h B σ a w args hT hs hsz hargs cs
  exact ⟨v', w', σ', ⟨fr, hc, hfn, hl⟩, h1, h2, h3⟩
theorem zu2 {f : Nat} (hf : zc5 P f) {ds : List D} {y : D}
    (h : ∀ (w : World) (args : Array Value), (∀ b o, T b o → w.heap[b]? = some o) → args.size = ds.length → (∀ i, i < ds.length → ∃ X, zj X w (ds.getD i .nil) (args.getD i undef)) →
      Calls P f args w fun e w' => ∃ v', e = .returned v' ∧ w' = w ∧ ∀ X, zj X w y v') : Fn P T f (ds.map .d) [] (.d y) [] := by
  refine zuv hf fun B σ a w args hT hs hsz hargs => ?_
  refine (h w args (fun b o ht => hs.pins b o (hT b o ht)) (by simpa using hsz) (fun i hi => ?_)).mono fun e w' he => ?_
  · have := hargs i (by simpa using hi)
    rw [show (ds.map V.d).getD i .undef = .d (ds.getD i .nil) by simp [List.getD, hi]] at this
    cases this with
    | d _ _ hd => exact ⟨_, hd⟩
  · obtain ⟨v', rfl, rfl, hy⟩ := he
    exact ⟨v', σ, rfl, hs, .d _ _ (hy _), fun i ob hi => by simp at hi⟩
theorem zBZ {f g : Nat} (hf : zc5 P f) {tab : Obj} (hcalls : ∀ (x : Nat) (w : World), x < 18446744073709551616 → (x ≠ 0 → TabAt g Lib.deBruijn64tab w) →
      Calls P f #[.int .u64 x] w fun e w' => e = .returned (.int .i64 (Lib.ctz 64 x)) ∧ w' = w)
    (hT : ∀ w : World, (∀ b o, T b o → w.heap[b]? = some o) → TabAt g Lib.deBruijn64tab w) (x : BitVec 64) : Fn P T f [.d (.u64 x)] [] (.d (.int .i64 (Lib.ctz 64 x.toNat))) [] := by
  refine zu2 (ds := [.u64 x]) hf fun w args hw hsz hargs => ?_
  obtain ⟨X, hX⟩ := hargs 0 (by simp)
  have ha : args = #[.int .u64 x.toNat] := by
    have h0 : args.getD 0 undef = .int .u64 x.toNat := by
      generalize args.getD 0 undef = y at hX
      cases hX; rfl
    apply Array.ext'
    have : args.toList.length = 1 := by simpa using hsz
    obtain ⟨y, hy⟩ := List.length_eq_one_iff.1 this
    rw [hy]
    have e : args.getD 0 undef = y := by
      have : args = #[y] := by apply Array.ext'; simpa using hy
      rw [this]; rfl
    rw [← h0, e]
  rw [ha]
  refine (hcalls x.toNat w x.isLt (fun _ => hT w hw)).mono fun e w' he => ?_
  exact ⟨_, he.1, he.2, fun X => .int _ _ (by simp)⟩
end
end Go.Ab
namespace Go.Ab
open Go
def zpw {α:Type} (n:Nat) (k:Nat→α):α:=match n with
 | 0=>k 0
 | m+1=>k (m+1)
theorem zrq {α:Type} (n:Nat) (k:Nat→α):zpw n k=k n:=by cases n<;>rfl
def zpv {α:Type} (n:Int) (k:Int→α):α:=match n with
 | .ofNat m=>zpw m fun m=>k (.ofNat m)
 | .negSucc m=>zpw m fun m=>k (.negSucc m)
theorem zw6 {α:Type} (n:Int) (k:Int→α):zpv n k=k n:=by cases n<;>(unfold zpv;exact zrq _ _)
def zpu {α:Type} (w:BitVec 64) (k:BitVec 64→α):α:=zpw w.toNat fun m=>k (BitVec.ofNat 64 m)
theorem zw5 {α:Type} (w:BitVec 64) (k:BitVec 64→α):zpu w k=k w:=by
 unfold zpu;rw [zrq];simp
def zCv {α:Type} (v:V) (k:V→α):α:=match v with
 | .d (.int i n)=>zpv n fun n=>k (.d (.int i n))
 | .d (.u64 w)=>zpu w fun w=>k (.d (.u64 w))
 | .d (.bool b)=>match b with
  | true=>k (.d (.bool true))
  | false=>k (.d (.bool false))
 | v=>k v
abbrev zp:=V×List (Option Ob)
noncomputable def zc7:Env→Nat→V:=fun l => @List.rec (Nat×V) (fun _=>Nat→V) (fun _ => .undef) (fun p _ ih i => @Prod.rec Nat V (fun _=>V) (fun a v => @Bool.rec (fun _=>V) (ih i) v (Nat.beq a i)) p) l
theorem zfw (l:Env):zc7 l=l.get:=by
 funext i
 induction l with
 | nil=>rfl
 | cons p r ih =>
  obtain ⟨a,v⟩:=p
  show @Bool.rec (fun _=>V) (zc7 r i) v (Nat.beq a i)=cond (Nat.beq a i) v (Env.get r i)
  rw [ih];cases Nat.beq a i<;>rfl
noncomputable def zg1:Mem→Nat→Option Ob:=fun l => @List.rec (Nat×Option Ob) (fun _=>Nat→Option Ob) (fun _=>none) (fun p _ ih i => @Prod.rec Nat (Option Ob) (fun _=>Option Ob) (fun a v => @Bool.rec (fun _=>Option Ob) (ih i) v (Nat.beq a i)) p) l
theorem zmQ (l:Mem):zg1 l=l.get:=by
 funext i
 induction l with
 | nil=>rfl
 | cons p r ih =>
  obtain ⟨a,v⟩:=p
  show @Bool.rec (fun _=>Option Ob) (zg1 r i) v (Nat.beq a i)=cond (Nat.beq a i) v (Mem.get r i)
  rw [ih];cases Nat.beq a i<;>rfl
noncomputable def zcV (v:V):Bool := @V.rec (fun _=>Bool) (fun _=>Unit) (fun a=>true) (false) (false) (false) (fun a=>false) (fun a=>false) (fun a b=>false) (fun a b c=>false) (fun a b c=>false) (fun a=>false) (fun a=>false) (fun a b=>false) (fun a b c=>false) (fun a _=>false) (fun a _=>false) (fun a b _=>false) (fun a=>false) () (fun _ _ _ _=>()) v
theorem zkL {v:V} (h:zcV v=true) : ∃ x,v = .d x:=by cases v<;>first|exact ⟨_,rfl⟩|cases h
noncomputable def zoS (l:List V):Bool := @List.rec V (fun _=>Bool) true (fun v _ ih => @Bool.rec (fun _=>Bool) false ih (zcV v)) l
noncomputable def zBH (x:D):Option Bool := @D.rec (fun _=>Option Bool) (fun _=>Unit) (fun _=>Unit) (fun _=>Unit) (fun a=>some a) (fun a b=>none) (fun a=>none) (fun a=>none) (fun a _=>none) (fun a _=>none) (fun a b _=>none) (fun a _=>none) (fun a _=>none) (fun a b _=>none) (none) () (fun _ _ _ _=>()) () (fun _ _ _ _=>()) (fun _ _ _ _=>()) x
noncomputable def zmZ (v:V):Option Bool := @V.rec (fun _=>Option Bool) (fun _=>Unit) (fun a=>zBH a) (some true) (some false) (none) (fun a=>none) (fun a=>none) (fun a b=>none) (fun a b c=>none) (fun a b c=>none) (fun a=>none) (fun a=>none) (fun a b=>none) (fun a b c=>none) (fun a _=>none) (fun a _=>none) (fun a b _=>none) (fun a=>none) () (fun _ _ _ _=>()) v
noncomputable def zjK (v:V):Eff := @V.rec (fun _=>Eff) (fun _=>Unit) (fun a=>vd a) (val (.bt)) (val (.bf)) (.bad) (fun a=>val (.nils a)) (fun a=>val (.own a)) (fun a b=>val (.ptr a b)) (fun a b c=>val (.eptr a b c)) (fun a b c=>val (.dptr a b c)) (fun a=>val (.map a)) (fun a=>val (.iter a)) (fun a b=>val (.bown a b)) (fun a b c=>val (.view a b c)) (fun a _=>val (.agg a)) (fun a _=>val (.tup a)) (fun a b _=>val (.fn a b)) (fun a=>val (.yld a)) () (fun _ _ _ _=>()) v
theorem zl4 (v:V):zjK v=zcT v:=by cases v<;>rfl
noncomputable def zBV (x:D):(V→Option zp)→Option zp := @D.rec (fun _=>(V→Option zp)→Option zp) (fun _=>Unit) (fun _=>Unit) (fun _=>Unit) (fun a K=>cond a (K (.d (.bool true))) (K (.d (.bool false)))) (fun a b K=>zpv b fun n=>K (.d (.int a n))) (fun a K=>zpu a fun w=>K (.d (.u64 w))) (fun a K=>K (.d (.str a))) (fun a _ K=>K (.d (.agg a))) (fun a _ K=>K (.d (.tup a))) (fun a b _ K=>K (.d (.arr a b))) (fun a _ K=>K (.d (.box a))) (fun a _ K=>K (.d (.map a))) (fun a b _ K=>K (.d (.fn a b))) (fun K=>K (.d (.nil))) () (fun _ _ _ _=>()) () (fun _ _ _ _=>()) (fun _ _ _ _=>()) x
noncomputable def zzK (v:V):(V→Option zp)→Option zp := @V.rec (fun _=>(V→Option zp)→Option zp) (fun _=>Unit) (fun a K=>zBV a K) (fun K=>K (.bt)) (fun K=>K (.bf)) (fun K=>K (.undef)) (fun a K=>K (.nils a)) (fun a K=>K (.own a)) (fun a b K=>K (.ptr a b)) (fun a b c K=>K (.eptr a b c)) (fun a b c K=>K (.dptr a b c)) (fun a K=>K (.map a)) (fun a K=>K (.iter a)) (fun a b K=>K (.bown a b)) (fun a b c K=>K (.view a b c)) (fun a _ K=>K (.agg a)) (fun a _ K=>K (.tup a)) (fun a b _ K=>K (.fn a b)) (fun a K=>K (.yld a)) () (fun _ _ _ _=>()) v
theorem zys (v:V) (K:V→Option zp):zzK v K=K v:=by
 cases v
 case d x =>
  cases x
  case bool b=>cases b<;>rfl
  case int k n=>exact zw6 n fun n=>K (.d (.int k n))
  case u64 w=>exact zw5 w fun w=>K (.d (.u64 w))
  all_goals rfl
 all_goals rfl
noncomputable def zzH (op:BinOp):BitVec 64→BitVec 64→Eff := @BinOp.rec (fun _=>BitVec 64→BitVec 64→Eff) (fun a b=>vd (.u64 (a+b))) (fun a b=>vd (.u64 (a - b))) (fun a b=>vd (.u64 (a * b))) (fun a b => .need (b≠0#64) (vd (.u64 (a / b)))) (fun a b => .need (b≠0#64) (vd (.u64 (a % b)))) (fun a b=>vd (.u64 (a&&&b))) (fun a b=>vd (.u64 (a|||b))) (fun a b=>vd (.u64 (a ^^^ b))) (fun a b=>vd (.u64 (a <<< b.toNat))) (fun a b=>vd (.u64 (a >>> b.toNat))) (fun a b=>vd (.u64 (a &&& ~~~b))) (fun a b=>vb (decide (a=b))) (fun a b=>vb (decide (a≠b))) (fun a b=>vb (decide (a.toNat < b.toNat))) (fun a b=>vb (decide (a.toNat≤b.toNat))) (fun a b=>vb (decide (b.toNat < a.toNat))) (fun a b=>vb (decide (b.toNat≤a.toNat))) op
noncomputable def zvw (op:BinOp):IntKind→Int→Int→Eff := @BinOp.rec (fun _=>IntKind→Int→Int→Eff) (fun k a b=>vi k (a+b)) (fun k a b=>vi k (a - b)) (fun k a b=>vi k (a * b)) (fun k a b => .need (b≠0) (vi k (a.tdiv b))) (fun k a b => .need (b≠0) (vd (.int k (a.tmod b)))) (fun k a b=>vd (.int k (za6 k (fun p q=>p&&&q) a b))) (fun k a b=>vd (.int k (za6 k (fun p q=>p|||q) a b))) (fun k a b=>vd (.int k (za6 k (fun p q=>p ^^^ q) a b))) (fun k a b => .need (0≤b) (vi k (a * 2 ^ (min b.toNat k.bits)))) (fun k a b => .need (0≤b) (vd (.int k (a.fdiv (2 ^ (min b.toNat k.bits)))))) (fun k a b=>vd (.int k (za6 k (fun p q=>p &&& ~~~q) a b))) (fun k a b=>vb (decide (a=b))) (fun k a b=>vb (decide (a≠b))) (fun k a b=>vb (decide (a < b))) (fun k a b=>vb (decide (a≤b))) (fun k a b=>vb (decide (b < a))) (fun k a b=>vb (decide (b≤a))) op
noncomputable def zBT (op:BinOp):BitVec 64→Int→Eff := @BinOp.rec (fun _=>BitVec 64→Int→Eff) (fun a b => .bad) (fun a b => .bad) (fun a b => .bad) (fun a b => .bad) (fun a b => .bad) (fun a b => .bad) (fun a b => .bad) (fun a b => .bad) (fun a b => .need (0≤b) (vd (.u64 (a <<< b.toNat)))) (fun a b => .need (0≤b) (vd (.u64 (a >>> b.toNat)))) (fun a b => .bad) (fun a b => .bad) (fun a b => .bad) (fun a b => .bad) (fun a b => .bad) (fun a b => .bad) (fun a b => .bad) op
noncomputable def zBS (y:D):BitVec 64→BinOp→Eff := @D.rec (fun _=>BitVec 64→BinOp→Eff) (fun _=>Unit) (fun _=>Unit) (fun _=>Unit) (fun a w op => .bad) (fun a b w op=>zBT op w b) (fun a w op=>zzH op w a) (fun a w op => .bad) (fun a _ w op => .bad) (fun a _ w op => .bad) (fun a b _ w op => .bad) (fun a _ w op => .bad) (fun a _ w op => .bad) (fun a b _ w op => .bad) (fun w op => .bad) () (fun _ _ _ _=>()) () (fun _ _ _ _=>()) (fun _ _ _ _=>()) y
noncomputable def zBQ (y:D):IntKind→Int→BinOp→Eff := @D.rec (fun _=>IntKind→Int→BinOp→Eff) (fun _=>Unit) (fun _=>Unit) (fun _=>Unit) (fun a k n op => .bad) (fun a b k n op=>cond (decide (k=a)) (zvw op k n b) .bad) (fun a k n op => .bad) (fun a k n op => .bad) (fun a _ k n op => .bad) (fun a _ k n op => .bad) (fun a b _ k n op => .bad) (fun a _ k n op => .bad) (fun a _ k n op => .bad) (fun a b _ k n op => .bad) (fun k n op => .bad) () (fun _ _ _ _=>()) () (fun _ _ _ _=>()) (fun _ _ _ _=>()) y
noncomputable def zBP (y:V):BitVec 64→BinOp→Eff := @V.rec (fun _=>BitVec 64→BinOp→Eff) (fun _=>Unit) (fun a w op=>zBS a w op) (fun w op => .bad) (fun w op => .bad) (fun w op => .bad) (fun a w op => .bad) (fun a w op => .bad) (fun a b w op => .bad) (fun a b c w op => .bad) (fun a b c w op => .bad) (fun a w op => .bad) (fun a w op => .bad) (fun a b w op => .bad) (fun a b c w op => .bad) (fun a _ w op => .bad) (fun a _ w op => .bad) (fun a b _ w op => .bad) (fun a w op => .bad) () (fun _ _ _ _=>()) y
noncomputable def zBN (y:V):IntKind→Int→BinOp→Eff := @V.rec (fun _=>IntKind→Int→BinOp→Eff) (fun _=>Unit) (fun a k n op=>zBQ a k n op) (fun k n op => .bad) (fun k n op => .bad) (fun k n op => .bad) (fun a k n op => .bad) (fun a k n op => .bad) (fun a b k n op => .bad) (fun a b c k n op => .bad) (fun a b c k n op => .bad) (fun a k n op => .bad) (fun a k n op => .bad) (fun a b k n op => .bad) (fun a b c k n op => .bad) (fun a _ k n op => .bad) (fun a _ k n op => .bad) (fun a b _ k n op => .bad) (fun a k n op => .bad) () (fun _ _ _ _=>()) y
noncomputable def zwB (op:BinOp) (a b:List UInt8):Eff := @BinOp.rec (fun _=>Eff) (.need ((a.length:Int)+b.length≤9223372036854775807) (vd (.str (a++b)))) .bad .bad .bad .bad .bad .bad .bad .bad .bad .bad .bad .bad .bad .bad .bad .bad op
noncomputable def zBR (y:D):List UInt8→BinOp→Eff := @D.rec (fun _=>List UInt8→BinOp→Eff) (fun _=>Unit) (fun _=>Unit) (fun _=>Unit) (fun a w op => .bad) (fun a b w op => .bad) (fun a w op => .bad) (fun a w op=>zwB op w a) (fun a _ w op => .bad) (fun a _ w op => .bad) (fun a b _ w op => .bad) (fun a _ w op => .bad) (fun a _ w op => .bad) (fun a b _ w op => .bad) (fun w op => .bad) () (fun _ _ _ _=>()) () (fun _ _ _ _=>()) (fun _ _ _ _=>()) y
noncomputable def zBO (y:V):List UInt8→BinOp→Eff := @V.rec (fun _=>List UInt8→BinOp→Eff) (fun _=>Unit) (fun a w op=>zBR a w op) (fun w op => .bad) (fun w op => .bad) (fun w op => .bad) (fun a w op => .bad) (fun a w op => .bad) (fun a b w op => .bad) (fun a b c w op => .bad) (fun a b c w op => .bad) (fun a w op => .bad) (fun a w op => .bad) (fun a b w op => .bad) (fun a b c w op => .bad) (fun a _ w op => .bad) (fun a _ w op => .bad) (fun a b _ w op => .bad) (fun a w op => .bad) () (fun _ _ _ _=>()) y
noncomputable def zCe (x:D):V→BinOp→Eff := @D.rec (fun _=>V→BinOp→Eff) (fun _=>Unit) (fun _=>Unit) (fun _=>Unit) (fun a y op => .bad) (fun a b y op=>zBN y a b op) (fun a y op=>zBP y a op) (fun a y op=>zBO y a op) (fun a _ y op => .bad) (fun a _ y op => .bad) (fun a b _ y op => .bad) (fun a _ y op => .bad) (fun a _ y op => .bad) (fun a b _ y op => .bad) (fun y op => .bad) () (fun _ _ _ _=>()) () (fun _ _ _ _=>()) (fun _ _ _ _=>()) x
noncomputable def zA1 (x:V):V→BinOp→Eff := @V.rec (fun _=>V→BinOp→Eff) (fun _=>Unit) (fun a y op=>zCe a y op) (fun y op => .bad) (fun y op => .bad) (fun y op => .bad) (fun a y op => .bad) (fun a y op => .bad) (fun a b y op => .bad) (fun a b c y op => .bad) (fun a b c y op => .bad) (fun a y op => .bad) (fun a y op => .bad) (fun a b y op => .bad) (fun a b c y op => .bad) (fun a _ y op => .bad) (fun a _ y op => .bad) (fun a b _ y op => .bad) (fun a y op => .bad) () (fun _ _ _ _=>()) x
theorem zyk (op:BinOp) (a b:BitVec 64):zzH op a b=zsC op a b:=by cases op<;>rfl
theorem zyj (op:BinOp) (k:IntKind) (a b:Int):zvw op k a b=zqf op k a b:=by cases op<;>rfl
theorem zwC (op:BinOp) (a b:List UInt8):zwB op a b=zvx op a b:=by cases op<;>rfl
theorem zzW (op:BinOp) (x y:V):zA1 x y op=zsD op x y:=by
 cases x
 case d a =>
  cases a
  case u64 w =>
   cases y
   case d b =>
    cases b
    case u64 v=>exact zyk op w v
    case int k n=>cases op<;>rfl
    all_goals rfl
   all_goals rfl
  case int k n =>
   cases y
   case d b =>
    cases b
    case int k' m =>
     show cond (decide (k=k')) (zvw op k n m) .bad=cond (decide (k=k')) (zqf op k n m) .bad
     rw [zyj]
    all_goals rfl
   all_goals rfl
  case str s =>
   cases y
   case d b =>
    cases b
    case str t=>exact zwC op s t
    all_goals rfl
   all_goals rfl
  all_goals (cases y<;>rfl)
 all_goals (cases y<;>rfl)
def zzN (agg:Option Nat) (o:Nat):Option Ob→Eff
 | some (.box cs)=>zaF cs o agg
 | _ => .bad
noncomputable def zzM (a:V):(Nat→Option Ob)→Option Nat→Eff := @V.rec (fun _=>(Nat→Option Ob)→Option Nat→Eff) (fun _=>Unit) (fun a M g=>zaD M g (.d a)) (fun M g=>zaD M g (.bt)) (fun M g=>zaD M g (.bf)) (fun M g=>zaD M g (.undef)) (fun a M g=>zaD M g (.nils a)) (fun a M g=>zaD M g (.own a)) (fun a b M g=>zzN g b (M a)) (fun a b c M g=>zaD M g (.eptr a b c)) (fun a b c M g=>zaD M g (.dptr a b c)) (fun a M g=>zaD M g (.map a)) (fun a M g=>zaD M g (.iter a)) (fun a b M g=>zaD M g (.bown a b)) (fun a b c M g=>zaD M g (.view a b c)) (fun a _ M g=>zaD M g (.agg a)) (fun a _ M g=>zaD M g (.tup a)) (fun a b _ M g=>zaD M g (.fn a b)) (fun a M g=>zaD M g (.yld a)) () (fun _ _ _ _=>()) a
theorem zyP (a:V) (M:Nat→Option Ob) (g:Option Nat):zzM a M g=zaD M g a:=by
 cases a
 case ptr id o =>
  show zzN g o (M id)=match M id with
   | some (.box cs)=>zaF cs o g
   | _ => .bad
  generalize M id=x
  cases x with
  | none=>rfl
  | some x=>cases x<;>rfl
 all_goals rfl
noncomputable def Eff.ev (call:Nat→List V→(V→Upd→Nat→Option zp)→Option zp) (sec:Bool) (K:V→Upd→Nat→Option zp) (e:Eff):Option zp :=
 @Eff.rec (fun _=>Bool→Option zp) (fun _=>none) (fun v u k _=>zzK v fun v=>K v u k) (fun _ d _ ih c => @Bool.rec (fun _=>Option zp) none (ih c) (@decide _ d)) (fun _ _ ih=>ih)
  (fun _ d _ _ a b c => @Bool.rec (fun _=>Option zp) (@Bool.rec (fun _=>Option zp) (b false) (a false) (@decide _ d)) (b false) c) (fun xs i _ ih c=>cond (decide (0≤i)) (match xs[i.toNat]? with
   | some x=>ih x c
   | none=>none) none)
  (fun es k _ ih c=>match zF es k with
   | some r=>ih r c
   | none=>none) (fun f vs _=>call f vs K) e sec
structure Rn where
 sec:Bool
 call:(M:Nat→Option Ob)→(n:Nat)→Nat→List V→(V→Upd→Nat→Option zp)→Option zp
 iter:(M:Nat→Option Ob)→(n:Nat)→Nat→List V→Option (List (List D)×Upd)
 n0:Nat
mutual
def D.eqq:Nat→D→D→Bool
 | 0,_,_=>false
 | k+1,x,y=>match x,y with
  | .bool a,.bool b=>a==b
  | .int i a,.int j b=>decide (i=j)&&decide (a=b)
  | .u64 a,.u64 b=>decide (a=b)
  | .str a,.str b=>decide (a=b)
  | .agg a,.agg b=>eqqs k a b
  | .tup a,.tup b=>eqqs k a b
  | .arr s a,.arr t b=>Nat.beq s t&&eqqs k a b
  | .box a,.box b=>eqqs k a b
  | .map a,.map b=>eqqm k a b
  | .fn f a,.fn g b=>Nat.beq f g&&eqqs k a b
  | .nil,.nil=>true
  | _,_=>false
def eqqs:Nat→List D→List D→Bool
 | 0,_,_=>false
 | _+1,[],[]=>true
 | k+1,x::r,y::s=>D.eqq k x y&&eqqs k r s
 | _,_,_=>false
def eqqm:Nat→List (D×D)→List (D×D)→Bool
 | 0,_,_=>false
 | _+1,[],[]=>true
 | k+1,x::r,y::s=>D.eqq k x.1 y.1&&D.eqq k x.2 y.2&&eqqm k r s
 | _,_,_=>false
end
mutual
def V.eqq:Nat→V→V→Bool
 | 0,_,_=>false
 | k+1,x,y=>match x,y with
  | .d a,.d b=>D.eqq k a b
  | .bt,.bt=>true
  | .bf,.bf=>true
  | .undef,.undef=>true
  | .nils a,.nils b=>Nat.beq a b
  | .own a,.own b=>Nat.beq a b
  | .ptr a o,.ptr b p=>Nat.beq a b&&Nat.beq o p
  | .eptr a i o,.eptr b j p=>Nat.beq a b&&Nat.beq i j&&Nat.beq o p
  | .dptr s a o,.dptr t b p=>Nat.beq s t&&D.eqq k a b&&Nat.beq o p
  | .map a,.map b=>Nat.beq a b
  | .iter a,.iter b=>Nat.beq a b
  | .bown a o,.bown b p=>Nat.beq a b&&Nat.beq o p
  | .view a i o,.view b j p=>Nat.beq a b&&Nat.beq i j&&Nat.beq o p
  | .agg a,.agg b=>V.eqqs k a b
  | .tup a,.tup b=>V.eqqs k a b
  | .fn f a,.fn g b=>Nat.beq f g&&V.eqqs k a b
  | .yld a,.yld b=>Nat.beq a b
  | _,_=>false
def V.eqqs:Nat→List V→List V→Bool
 | 0,_,_=>false
 | _+1,[],[]=>true
 | k+1,x::r,y::s=>V.eqq k x y&&V.eqqs k r s
 | _,_,_=>false
end
def zgK:Env→Env→Bool
 | [],[]=>true
 | (a,x)::r,(b,y)::s=>Nat.beq a b&&V.eqq 1000 x y&&zgK r s
 | _,_=>false
def zv7:Option Ob→Option Ob→Bool
 | none,none=>true
 | some (.row a xs),some (.row b ys)=>Nat.beq a b&&eqqs 100000 xs ys
 | some (.box a),some (.box b)=>V.eqqs 1000 a b
 | some (.map a),some (.map b)=>eqqm 100000 a b
 | _,_=>false
def zj3:List (Option Ob)→List (Option Ob)→Bool
 | [],[]=>true
 | x::r,y::s=>zv7 x y&&zj3 r s
 | _,_=>false
def zsl (a b:zp):Bool:=V.eqq 1000 a.1 b.1&&zj3 a.2 b.2
def zvz (a b:Option zp):Option zp:=match a,b with
 | some x,some y=>cond (zsl x y) (some x) none
 | _,_=>none
def zn9 (f:Nat→D→D→Option zp):Nat→List (D×D)→Option zp
 | _,[]=>none
 | i,p::l=>match l with
  | []=>f i p.1 p.2
  | _::_=>zvz (f i p.1 p.2) (zn9 f (i+1) l)
abbrev zsr:=(Nat→V)→(Nat→Option Ob)→Mem→Nat→Option ((V→Mem→Nat→Option zp)→Option zp)
def zjt (it:Arg):zsr:=fun ρ M mem n=>match it.ev ρ with
 | .iter id=>some fun K=>match M id with
  | some (.iter left _)=>match left with
   | []=>K (.d (.tup [.bool false])) mem n
   | p::l=>zn9 (fun i k v=>K (.d (.tup [.bool true,k,v])) ((id,some (.iter (left.eraseIdx i) (some (k,v))))::mem) n) 0 left
  | _=>none
 | _=>none
def zv6 (neg:Bool) (xs:List D) (mem:Mem) (n:Nat):Option ((V→Mem→Nat→Option zp)→Option zp):=some fun K=>match xs with
 | []=>zvz (K (.d (.bool (true != neg))) mem n) (K (.d (.bool (false != neg))) mem n)
 | _::_=>K (.d (.bool (false != neg))) mem n
def zlL (neg:Bool) (x y:Arg):zsr:=fun ρ M mem n=>match x.ev ρ,y.ev ρ with
 | .d (.arr _ xs),.nils _=>zv6 neg xs mem n
 | .own id,.nils _=>match M id with
  | some (.row _ xs)=>zv6 neg xs mem n
  | _=>none
 | _,_=>none
def zjs (g:Arg):zsr:=fun ρ _ _ _=>match g.ev ρ with
 | .yld _=>some fun _=>none
 | _=>none
noncomputable def zmM (o:CO):zsr :=
 @CO.rec (fun _=>zsr) (fun _ _ _ _ _=>none) (fun _ _ _ _ _ _ _=>none) (fun _ _ _ _ _ _ _=>none) (fun _ _ _ _ _ _ _=>none) zlL (fun _ _ _ _ _ _ _ _=>none) (fun _ _ _ _ _ _=>none) (fun _ _ _ _ _ _=>none) (fun _ _ _ _ _=>none) (fun _ _ _ _ _ _=>none) (fun _ _ _ _ _ _=>none) (fun _ _ _ _ _ _ _ _=>none) (fun _ _ _ _ _ _=>none) (fun _ _ _ _ _ _ _=>none) (fun _ _ _ _ _=>none) (fun _ _ _ _ _ _=>none) (fun _ _ _ _=>none) (fun _ _ _ _ _ _ _ _ _=>none) (fun _ _ _ _ _ _ _ _=>none) (fun _ _ _ _ _ _=>none) (fun _ _ _ _ _ _ _=>none) (fun _ _ _ _ _ _ _=>none) (fun _ _ _ _ _ _ _ _=>none) (fun _ _ _ _ _ _ _ _ _=>none) (fun _ _ _ _ _ _ _ _ _=>none) (fun _ _ _ _ _ _ _ _=>none) (fun _ _ _ _ _=>none) zjt (fun _ _ _ _ _=>none) (fun _ _ _ _ _ _=>none) (fun _ _ _ _ _=>none) (fun _ _ _ _ _=>none) (fun _ _ _ _ _=>none) (fun _ _ _ _ _ _ _=>none) (fun _ _ _ _ _ _ _ _=>none) (fun _ _ _ _ _ _ _=>none) (fun _ _ _ _ _ _=>none) (fun g _=>zjs g) o
noncomputable def zlM (o:CO):(Nat→V)→(Nat→Option Ob)→Nat→Eff :=
 @CO.rec (fun _=>(Nat→V)→(Nat→Option Ob)→Nat→Eff)
  (fun x ρ M n=>zjK (x.ev ρ))
  (fun c a b ρ M n=>match c.ev ρ with
   | .bt=>zcT (a.ev ρ)
   | .bf=>zcT (b.ev ρ)
   | .d (.bool c)=>match toB (a.ev ρ),toB (b.ev ρ) with
    | some a,some b=>vb (cond c a b)
    | _,_ => .bad
   | _ => .bad)
  (fun op x y ρ M n=>zA1 (x.ev ρ) (y.ev ρ) op)
  (fun neg x y ρ M n=>match toB (x.ev ρ),toB (y.ev ρ) with
   | some a,some b=>vb (cond neg (a != b) (a==b))
   | _,_ => .bad)
  (fun neg x y ρ M n=>zvK neg (x.ev ρ) (y.ev ρ))
  (fun neg l x y ρ M n=>zvL neg l (x.ev ρ) (y.ev ρ))
  (fun op x ρ M n=>match op,x.ev ρ with
   | .neg,.d (.int k a)=>vi k (-a)
   | .neg,.d (.u64 w)=>vd (.u64 (-w))
   | .xor,.d (.u64 w)=>vd (.u64 (~~~w))
   | .not,.d (.bool b)=>vb (!b)
   | .not,.bt=>val .bf
   | .not,.bf=>val .bt
   | _,_ => .bad)
  (fun k x ρ M n=>zsh k (x.ev ρ))
  (fun z ρ M n=>cond (z.all V.isCell) (.ok (.ptr n 0) [(n,some (.box z))] 1) .bad)
  (fun m x ρ M n=>cond (Nat.beq (x.ev ρ).cells.length m&&(x.ev ρ).cells.all V.isCell) (.ok (.ptr n 0) [(n,some (.box (x.ev ρ).cells))] 1) .bad)
  (fun z ps ρ M n=>cond (z.all V.isCell) (match zgC z (zco ρ ps) with
   | some cs=>val (ziV cs)
   | none => .bad) .bad)
  (fun sz len z ps ρ M n=>zmJ M n sz len z (zK ρ ps))
  (fun agg a ρ M n=>zzM (a.ev ρ) M agg)
  (fun m a x ρ M n=>zf8 M m (a.ev ρ) (x.ev ρ))
  (fun x ρ M n=>match x.ev ρ with
   | .ptr i o=>val (.ptr i o)
   | .fn f cs=>val (.fn f cs)
   | .yld l=>val (.yld l)
   | .d (.fn f cs)=>vd (.fn f cs)
   | .d (.box cs)=>vd (.box cs)
   | _ => .bad)
  (fun f cs ρ M n=>val (.fn f (evs ρ cs)))
  (fun  ρ M n => .ok (.map n) [(n,some (.map []))] 1)
  (fun sz _ z l c ρ M n=>match l.ev ρ,c.ev ρ,zc2 M z with
   | .d (.int _ a),.d (.int _ b),some x=>cond (x.fits sz) (.need (0≤a∧a≤b∧b≤1073741824) (.ok (.own n) [(n,some (.row sz (List.replicate a.toNat x)))] 1)) .bad
   | _,_,_ => .bad)
  (fun sz x lo hi ρ M n=>ze6 M n sz (x.ev ρ) (oev ρ lo) (oev ρ hi))
  (fun o x ρ M n=>match x.ev ρ with
   | .ptr i p=>val (.ptr i (p+o))
   | .eptr i j p=>val (.eptr i j (p+o))
   | .dptr s x p=>val (.dptr s x (p+o))
   | .d (.box cs)=>cond (Nat.beq cs.length 1) .bad (val (.dptr cs.length (.agg cs) o))
   | _ => .bad)
  (fun o agg x ρ M n=>match zhP (x.ev ρ) with
   | some cs=>zaF cs o agg
   | none => .bad)
  (fun sz x i ρ M n=>ztl sz M (x.ev ρ) (i.ev ρ))
  (fun m sz x i ρ M n=>match x.ev ρ,i.ev ρ with
   | .ptr id p,.d (.int _ a) => .need (0≤a∧a < m) (val (.ptr id (p+a.toNat * sz)))
   | _,_ => .bad)
  (fun m sz agg x i ρ M n=>match i.ev ρ with
   | .d (.int _ a)=>match zhP (x.ev ρ) with
    | some cs => .need (0≤a∧a < m) (zaF cs (a.toNat * sz) agg)
    | none => .bad
   | _ => .bad)
  (fun kk z x k ok ρ M n=>ziU M kk z (x.ev ρ) (k.ev ρ) ok)
  (fun kk m k x ρ M n=>zmU M kk (m.ev ρ) (k.ev ρ) (x.ev ρ))
  (fun x ρ M n=>zkb M n (x.ev ρ))
  (fun _ _ _ _ => .bad)
  (fun x ρ M n=>zjx M (x.ev ρ))
  (fun x k ρ M n=>match x.ev ρ with
   | .d (.tup cs)=>match cs[k]? with
    | some y=>vd y
    | none => .bad
   | .tup cs=>zcT (cs.getD k .undef)
   | _ => .bad)
  (fun x ρ M n=>zqM M (x.ev ρ))
  (fun x ρ M n=>match x.ev ρ with
   | .d (.str s)=>vd (.int .i64 s.length)
   | _ => .bad)
  (fun x ρ M n=>zmT M (x.ev ρ))
  (fun sz z x ρ M n=>zjq M sz z (x.ev ρ))
  (fun sz _ x y ρ M n=>znV M n sz (x.ev ρ) (y.ev ρ))
  (fun mx x y ρ M n=>mmV mx (x.ev ρ) (y.ev ρ))
  (fun f xs ρ M n => .call f (evs ρ xs))
  (fun g xs ρ M n=>match g.ev ρ with
   | .fn f cs => .call f (evs ρ xs++cs)
   | .d (.fn f cs) => .call f (evs ρ xs++cs.map .d)
   | _ => .bad) o
theorem zqu (o:CO):zlM o=zm o:=by
 cases o
 case mv x=>funext ρ M n;exact zl4 _
 case bin op x y=>funext ρ M n;exact zzW op _ _
 case load g a=>funext ρ M n;exact zyP _ M g
 all_goals rfl
noncomputable def zxc (o:CO):Bool := @CO.rec (fun _=>Bool) (fun _=>false) (fun _ _ _=>true) (fun _ _ _=>false) (fun _ _ _=>false) (fun _ _ _=>false) (fun _ _ _ _=>false) (fun _ _=>false) (fun _ _=>false) (fun _=>false) (fun _ _=>false) (fun _ _=>false) (fun _ _ _ _=>false) (fun _ _=>false) (fun _ _ _=>false) (fun _=>false) (fun _ _=>false) false (fun _ _ _ _ _=>false) (fun _ _ _ _=>false) (fun _ _=>false) (fun _ _ _=>false) (fun _ _ _=>false) (fun _ _ _ _=>false) (fun _ _ _ _ _=>false) (fun _ _ _ _ _=>false) (fun _ _ _ _=>false) (fun _=>false) (fun _=>false) (fun _=>false) (fun _ _=>false) (fun _=>false) (fun _=>false) (fun _=>false) (fun _ _ _=>false) (fun _ _ _ _=>false) (fun _ _ _=>false) (fun _ _=>false) (fun _ _=>false) o
noncomputable def zAf (o:CO):Bool := @CO.rec (fun _=>Bool) (fun _=>false) (fun _ _ _=>false) (fun _ _ _=>false) (fun _ _ _=>false) (fun _ _ _=>false) (fun _ _ _ _=>false) (fun _ _=>false) (fun _ _=>false) (fun _=>false) (fun _ _=>false) (fun _ _=>false) (fun _ _ _ _=>true) (fun _ _=>false) (fun _ _ _=>false) (fun _=>false) (fun _ _=>false) false (fun _ _ _ _ _=>false) (fun _ _ _ _=>false) (fun _ _=>false) (fun _ _ _=>false) (fun _ _ _=>false) (fun _ _ _ _=>false) (fun _ _ _ _ _=>false) (fun _ _ _ _ _=>false) (fun _ _ _ _=>false) (fun _=>false) (fun _=>false) (fun _=>false) (fun _ _=>false) (fun _=>false) (fun _=>false) (fun _=>false) (fun _ _ _=>false) (fun _ _ _ _=>false) (fun _ _ _=>false) (fun _ _=>false) (fun _ _=>false) o
noncomputable def zpz (o:CO):Bool := @CO.rec (fun _=>Bool) (fun _=>false) (fun _ _ _=>false) (fun _ _ _=>false) (fun _ _ _=>false) (fun _ _ _=>false) (fun _ _ _ _=>false) (fun _ _=>false) (fun _ _=>false) (fun _=>false) (fun _ _=>false) (fun _ _=>false) (fun _ _ _ _=>false) (fun _ _=>false) (fun _ _ _=>false) (fun _=>false) (fun _ _=>false) false (fun _ _ _ _ _=>false) (fun _ _ _ _=>false) (fun _ _=>false) (fun _ _ _=>false) (fun _ _ _=>false) (fun _ _ _ _=>false) (fun _ _ _ _ _=>false) (fun _ _ _ _ _=>false) (fun _ _ _ _=>false) (fun _=>false) (fun _=>false) (fun _=>false) (fun _ _=>false) (fun _=>false) (fun _=>false) (fun _=>false) (fun _ _ _=>false) (fun _ _ _ _=>true) (fun _ _ _=>false) (fun _ _=>false) (fun _ _=>false) o
noncomputable def zB4 (δ:Dec) (c a b:Arg):(Nat→V)→(Nat→Option Ob)→Nat→Eff:=fun ρ M n=>match c with
 | .t c=>(match δ.get c with
  | some true=>zjK (a.ev ρ)
  | some false=>zjK (b.ev ρ)
  | none=>zlM (.pick (.t c) a b) ρ M n)
 | .c v=>zlM (.pick (.c v) a b) ρ M n
noncomputable def zsi (δ:Dec) (o:CO):(Nat→V)→(Nat→Option Ob)→Nat→Eff :=
 @Bool.rec (fun _=>(Nat→V)→(Nat→Option Ob)→Nat→Eff) (zlM o) (match o with
  | .pick c a b=>zB4 δ c a b
  | o=>zlM o) (zxc o)
noncomputable def zzT (S:Rn) (o:CO):Bool := @Bool.rec (fun _=>Bool) false S.sec (zAf o)
noncomputable def zBr (v:V):Bool := @V.rec (fun _=>Bool) (fun _=>Unit) (fun a=>false) (false) (false) (false) (fun a=>false) (fun a=>false) (fun a b=>false) (fun a b c=>false) (fun a b c=>false) (fun a=>false) (fun a=>false) (fun a b=>false) (fun a b c=>false) (fun a _=>false) (fun a _=>a.isEmpty) (fun a b _=>false) (fun a=>false) () (fun _ _ _ _=>()) v
noncomputable def zhy (δ:Dec) (ρ:Nat→V) (g:Nat×Bool) (yes no:Dec→Option zp):Option zp :=
 match δ.get g.1 with
 | some b=>cond (b==g.2) (yes δ) (no δ)
 | none=>match zmZ (ρ g.1) with
  | some b=>cond (b==g.2) (yes (cond (zcV (ρ g.1)) ((g.1,b)::δ) δ)) (no (cond (zcV (ρ g.1)) ((g.1,b)::δ) δ))
  | none=>cond (zBr (ρ g.1)) (no δ) none
noncomputable def zhX (d:Option Nat) (δ:Dec):Dec := @List.rec (Nat×Bool) (fun _=>Dec) [] (fun p r ih=>Dec.del d (p::r)) δ
theorem zmL (d:Option Nat) (δ:Dec):zhX d δ=δ.del d:=by cases δ<;>rfl
noncomputable def zeX (d:Option Nat) (v:V) (env:Env):Env := @Option.rec Nat (fun _=>Env) env (fun d=>(d,v)::env) d
theorem zhD (d:Option Nat) (v:V) (env:Env):zeX d v env=zY d v env:=by cases d<;>rfl
noncomputable def zj6 (S:Rn) (o:COp) (δ:Dec) (env:Env) (mem:Mem) (n:Nat) (l:List zas) (next:Dec→Env→Mem→Nat→List zas→Option zp):Option zp :=
 (zsi δ o.op (zc7 env) (zg1 mem) n).ev (S.call (zg1 mem) n) (zzT S o.op) fun v u k =>
  @List.rec (Nat×Option Ob) (fun _=>Option zp) (next (zhX o.dst δ) (zeX o.dst v env) mem (n+k) (l++[⟨zaI o.op (zc7 env) (zg1 mem),[],zbm o.op (zc7 env) v,[]⟩]))
   (fun _ _ _=>next (zhX o.dst δ) (zeX o.dst v env) (zV u mem) (n+k) (l++[⟨zaI o.op (zc7 env) (zg1 mem),u.map Prod.fst,zbm o.op (zc7 env) v,u⟩])) u
noncomputable def zpo (S:Rn) (K:Env→Mem→Nat→List zas→Option zp) (ops:List COp):Dec→Env→Mem→Nat→List zas→Option zp :=
 @List.rec COp (fun _=>Dec→Env→Mem→Nat→List zas→Option zp) (fun _ env mem n l=>K env mem n l)
  (fun o _ next δ env mem n l=>match o.guard with
   | none=>zj6 S o δ env mem n l next
   | some g=>zhy δ (zc7 env) g (fun δ=>zj6 S o δ env mem n l next)
     (fun δ=>next (zhX o.dst δ) (zeX o.dst (.tup []) env) mem n (l++[⟨[],[],none,[]⟩]))) ops
def zvt (u:Upd) (mem:Mem) (env:Env) (k:Env→Option zp):Option zp:=match u with
  | (id,none)::_=>match mem.get id with
   | some (.row _ xs)=>(match (zV u mem).get id with
    | none=>k (zgt id xs.length env)
    | some _=>k env)
   | _=>k env
  | _=>k env
noncomputable def zhE (S:Rn) (o:COp) (δ:Dec) (env:Env) (mem:Mem) (n:Nat) (next:Dec→Env→Mem→Nat→Option zp):Option zp :=
 match zmM o.op (zc7 env) (zg1 mem) mem n with
 | some f=>f fun v mem n=>next (zhX o.dst δ) (zeX o.dst v env) mem n
 | none=>(zsi δ o.op (zc7 env) (zg1 mem) n).ev (S.call (zg1 mem) n) (zzT S o.op) fun v u k =>
   @Bool.rec (fun _=>Option zp) (@List.rec (Nat×Option Ob) (fun _=>Option zp) (next (zhX o.dst δ) (zeX o.dst v env) mem (n+k)) (fun _ _ _=>next (zhX o.dst δ) (zeX o.dst v env) (zV u mem) (n+k)) u) (zvt u mem env fun env=>next (zhX o.dst δ) (zeX o.dst v env) (zV u mem) (n+k)) (zpz o.op)
noncomputable def zpp (S:Rn) (K:Env→Mem→Nat→Option zp) (ops:List COp):Dec→Env→Mem→Nat→Option zp :=
 @List.rec COp (fun _=>Dec→Env→Mem→Nat→Option zp) (fun _ env mem n=>K env mem n)
  (fun o _ next δ env mem n=>match o.guard with
   | none=>zhE S o δ env mem n next
   | some g=>zhy δ (zc7 env) g (fun δ=>zhE S o δ env mem n next)
     (fun δ=>next (zhX o.dst δ) (zeX o.dst (.tup []) env) mem n)) ops
def zji (n0:Nat) (mem:Mem):List Nat→List Nat→List Nat
 | [],acc=>acc
 | i::r,acc=>cond (Nat.blt i n0||acc.contains i) (zji n0 mem r acc) (match mem.get i with
  | some _=>zji n0 mem r (acc++[i])
  | none=>zji n0 mem r acc)
noncomputable def zwM (l:Env):List Nat := @List.rec (Nat×V) (fun _=>List Nat) [] (fun p _ ih => @Bool.rec (fun _=>List Nat) (V.deepIds 20 p.2++ih) ih (zcV p.2)) l
def zsE (mem:Mem):List Nat→List Nat
 | []=>[]
 | i::r=>(match mem.get i with
  | some (.box cs)=>deepIdss 20 cs
  | _=>[])++zsE mem r
def grow (n0:Nat) (mem:Mem):Nat→Nat→List Nat→List Nat
 | 0,_,acc=>acc
 | k+1,j,acc=>match acc[j]? with
  | none=>acc
  | some i=>grow n0 mem k (j+1) (zji n0 mem (zsE mem [i]) acc)
def zoe (mem:Mem):Nat→List Nat
 | 0=>[]
 | k+1=>zoe mem k++(match mem.get k with
  | some _=>[k]
  | none=>[])
def zjY (n0:Nat) (mem:Mem) (roots:List Nat):List Nat :=
 grow n0 mem 1000 0 (zji n0 mem roots (zji n0 mem (zsE mem (zoe mem n0)) []))
def zp2 (n0:Nat) (mem:Mem) (ids:List Nat):List (Nat×Nat):=(zoe mem n0).map (fun i=>(i,i))++go n0 ids
where
 go:Nat→List Nat→List (Nat×Nat)
  | _,[]=>[]
  | k,i::r=>(k,i)::go (k+1) r
def zzL:List (Nat×Nat)→Nat→Option Nat
 | [],_=>none
 | (a,b)::r,i=>cond (Nat.beq b i) (some a) (zzL r i)
def zgE (r:List (Nat×Nat)) (i:Nat):Option Nat:=match zzL r i with
 | some j=>(match zbG r j with
  | some i'=>cond (Nat.beq i' i) (some j) none
  | none=>none)
 | none=>none
mutual
def rnV (r:List (Nat×Nat)):Nat→V→Option V
 | 0,_=>none
 | k+1,v=>match v with
  | .own i=>(match zgE r i with|some j=>some (.own j)|none=>some .undef)
  | .ptr i o=>(match zgE r i with|some j=>some (.ptr j o)|none=>some .undef)
  | .eptr i a o=>(match zgE r i with|some j=>some (.eptr j a o)|none=>some .undef)
  | .map i=>(match zgE r i with|some j=>some (.map j)|none=>some .undef)
  | .iter i=>(match zgE r i with|some j=>some (.iter j)|none=>some .undef)
  | .bown i l=>(match zgE r i with|some j=>some (.bown j l)|none=>some .undef)
  | .view i o l=>(match zgE r i with|some j=>some (.view j o l)|none=>some .undef)
  | .agg cs=>(match rnVs r k cs with|some l=>some (.agg l)|none=>none)
  | .tup cs=>(match rnVs r k cs with|some l=>some (.tup l)|none=>none)
  | .fn f cs=>(match rnVs r k cs with|some l=>some (.fn f l)|none=>none)
  | .d x=>some (.d x)
  | .bt=>some .bt
  | .bf=>some .bf
  | .undef=>some .undef
  | .nils s=>some (.nils s)
  | .dptr s x o=>some (.dptr s x o)
  | .yld l=>some (.yld l)
def rnVs (r:List (Nat×Nat)):Nat→List V→Option (List V)
 | 0,_=>none
 | _+1,[]=>some []
 | k+1,v::l=>match rnV r k v,rnVs r k l with
  | some x,some y=>some (x::y)
  | _,_=>none
end
def zfL (t:Nat):Nat:=Nat.add (Nat.mul 3 (Nat.mod t zc)) (Nat.div t zc)
noncomputable def zkW (r:List (Nat×Nat)) (l:Env):Nat→Env := @List.rec (Nat×V) (fun _=>Nat→Env) (fun _=>[])
 (fun p _ ih s => @Prod.rec Nat V (fun _=>Env) (fun t v => @Bool.rec (fun _=>Env)
  (@Bool.rec (fun _=>Env) (match rnV r 30 v with
   | some x=>(t,x)::ih (Nat.lor s (Nat.shiftLeft 1 (zfL t)))
   | none=>ih (Nat.lor s (Nat.shiftLeft 1 (zfL t)))) ((t,v)::ih (Nat.lor s (Nat.shiftLeft 1 (zfL t)))) (zcV v))
  (ih s) (Nat.beq (Nat.land 1 (Nat.shiftRight s (zfL t))) 1)) p) l
def zzc (r:List (Nat×Nat)):Ob→Option Ob
 | .box cs=>(match rnVs r 30 cs with
  | some l=>some (.box l)
  | none=>none)
 | ob=>some ob
def ztE (r:List (Nat×Nat)) (mem:Mem) (i:Nat):Option Ob:=match zbG r i with
 | some j=>(match mem.get j with
  | some ob=>zzc r ob
  | none=>none)
 | none=>none
def zp4 (r:List (Nat×Nat)) (mem:Mem):List (Nat×Nat)→Mem
 | []=>[]
 | (i,_)::l=>match ztE r mem i with
  | some ob=>(i,some ob)::zp4 r mem l
  | none=>zp4 r mem l
def rOk (r:List (Nat×Nat)) (N:Nat):Bool:=nodup (r.map Prod.snd)&&r.all fun p=>Nat.blt p.1 N
noncomputable def zzU (r:List (Nat×Nat)) (N:Nat) (env:Env) (mem:Mem) (K:Env→Mem→Option zp):Option zp :=
 cond (rOk r N) (K (zkW r env 0) (zp4 r mem r)) none
noncomputable def zg7 (n0 N:Nat) (env:Env) (mem:Mem) (K:Env→Mem→Option zp):Option zp :=
 zzU (zp2 n0 mem (zjY n0 mem (zwM env))) N env mem K
def zej:Nat:=1000
noncomputable def zlR (n0:Nat) (B:(Ex→Env→Mem→Nat→Option zp)→Env→Mem→Nat→Option zp) (K:Ex→Env→Mem→Nat→Option zp) (k:Nat):Env→Mem→Option zp :=
 @Nat.rec (fun _=>Env→Mem→Option zp) (fun _ _=>none) (fun _ next env mem=>B (fun e env mem n=>match e with
  | .normal=>zg7 n0 zej env mem next
  | e=>K e env mem n) env mem zej) k
noncomputable def zhY (n0:Nat) (B:(Ex→Env→Mem→Nat→Option zp)→Env→Mem→Nat→Option zp) (ps:List Nat) (K:Ex→Env→Mem→Nat→Option zp) (E:Env) (xs:List (List D)):Mem→Option zp :=
 @List.rec (List D) (fun _=>Mem→Option zp) (fun mem=>K .normal E mem zej)
 (fun x _ next mem=>cond (Nat.beq x.length ps.length) (B (fun e env mem n=>match e with
  | .normal=>zg7 n0 zej (zbH env) mem fun env mem=>cond (zgK env E) (next mem) none
  | e=>K e (zbH env) mem n) (zdQ ps x (zdY E)++zct E) mem zej) none) xs
abbrev zAX:=Bool→(Ex→Env→Mem→Nat→Option zp)→Env→Mem→Nat→Option zp
def zib (f:Env→Mem→Nat→Option zp) (K:Ex→Env→Mem→Nat→Option zp):Ex→Env→Mem→Nat→Option zp:=fun e env mem n=>match e with
 | .normal=>f env mem n
 | e=>K e env mem n
def ztG (id:Nat) (K:Ex→Env→Mem→Nat→Option zp):Ex→Env→Mem→Nat→Option zp:=fun e env mem n=>match e with
 | .exit j=>cond (Nat.beq j id) (K .normal env mem n) (K (.exit j) env mem n)
 | e=>K e env mem n
noncomputable def evC (S:Rn) (fuel:Nat) (c:CC):zAX :=
 @CC.rec (fun _=>zAX) (fun _ K env mem n=>K .normal env mem n)
  (fun _ _ a b t K env mem n=>a t (zib (fun env mem n=>b t K env mem n) K) env mem n)
  (fun ops _ K env mem n=>zpp S (fun env mem n=>K .normal env mem n) ops [] env mem n)
  (fun ops bef _ K env mem n=>zpo S (fun env mem n l=>cond (zhB ops bef l) (K .normal env mem n) none) ops [] env mem n [])
  (fun x _ _ a b t K env mem n=>match zmZ (x.ev (zc7 env)) with
   | some z => @Bool.rec (fun _=>Option zp) (b t K env mem n) (a t K env mem n) z
   | none=>none)
  (fun id _ a t K env mem n=>a t (ztG id K) env mem n)
  (fun _ a t K env mem n=>zg7 S.n0 zej env mem fun env mem=>zlR S.n0 (a t) K fuel env mem)
  (fun id _ K env mem n=>K (.exit id) env mem n)
  (fun _ K env mem n=>K .ret env mem n)
  (fun f ps _ _ a b t K env mem n=>cond t none (match f.ev (zc7 env) with
   | .fn g cs=>match S.iter (zg1 mem) n g cs with
    | some (xs,u)=>zg7 S.n0 zej env (zV u mem) fun E mem=>zhY S.n0 (fun K env mem n=>a true (zib (fun env mem n=>b true K env mem n) K) env mem n) ps K E xs mem
    | none=>none
   | _=>none)) c
def zws:List Nat→List Nat→List Nat
 | [],acc=>acc
 | i::r,acc=>cond (acc.contains i) (zws r acc) (zws r (acc++[i]))
mutual
def zAL:Nat→V→List Nat
 | 0,_=>[]
 | k+1,v=>match v with
  | .view i _ _=>[i]
  | .agg cs | .tup cs | .fn _ cs=>viewIdss k cs
  | _=>[]
def viewIdss:Nat→List V→List Nat
 | 0,_=>[]
 | _+1,[]=>[]
 | k+1,v::r=>zAL k v++viewIdss k r
end
def zsF (M:Nat→Option Ob):List Nat→List Nat
 | []=>[]
 | i::r=>(match M i with
  | some (.box cs)=>viewIdss 20 cs
  | _=>[])++zsF M r
def zl9:List Nat→Nat→Nat→Option Nat
 | [],_,_=>none
 | a::r,k,i=>cond (Nat.beq a i) (some k) (zl9 r (k+1) i)
def zzP (M:Nat→Option Ob) (x:V):Option D:=cond (V.reach M 20 x).isEmpty (x.freeze M true 20) none
mutual
def zwa (M:Nat→Option Ob) (js fz:List Nat):Nat→V→Option V
 | 0,_=>none
 | k+1,x=>match x with
  | .d y=>some (.d y)
  | .bt=>some .bt
  | .bf=>some .bf
  | .nils s=>some (.nils s)
  | .own i=>(match zl9 js 0 i with
   | some j=>some (.own j)
   | none=>match (V.own i).freeze M true 20 with
    | some y=>cond (fz.contains i) (some (.d y)) (some .undef)
    | none=>some .undef)
  | .view i o l=>(match (V.view i o l).freeze M true 20 with
    | some y=>cond (fz.contains i) (some (.d y)) (some .undef)
    | none=>some .undef)
  | .ptr i o=>(match zl9 js 0 i with
   | some j=>some (.ptr j o)
   | none=>some .undef)
  | .bown i l=>(match zl9 js 0 i with
   | some j=>some (.bown j l)
   | none=>some .undef)
  | .map i=>(match zl9 js 0 i with
   | some j=>some (.map j)
   | none=>some .undef)
  | .agg cs=>(match zzP M (.agg cs) with
   | some y=>some (.d y)
   | none=>match passVs M js fz k cs with|some l=>some (.agg l)|none=>none)
  | .tup cs=>(match passVs M js fz k cs with|some l=>some (.tup l)|none=>none)
  | .fn f cs=>(match passVs M js fz k cs with|some l=>some (.fn f l)|none=>none)
  | _=>some .undef
def passVs (M:Nat→Option Ob) (js fz:List Nat):Nat→List V→Option (List V)
 | 0,_=>none
 | _+1,[]=>some []
 | k+1,v::r=>match zwa M js fz k v,passVs M js fz k r with
  | some x,some l=>some (x::l)
  | _,_=>none
end
def ztJ (M:Nat→Option Ob) (js fz:List Nat):Option Ob→Option Ob
 | some (.row s xs)=>some (.row s xs)
 | some (.box cs)=>(match passVs M js fz 20 cs with
  | some l=>some (.box l)
  | none=>none)
 | some (.map es)=>some (.map es)
 | _=>none
def zj8 (M:Nat→Option Ob) (js fz:List Nat):List Nat→Option (List Ob)
 | []=>some []
 | j::r=>match ztJ M js fz (M j),zj8 M js fz r with
  | some o,some l=>some (o::l)
  | _,_=>none
def alive (M:Nat→Option Ob):List Nat→List Nat
 | []=>[]
 | i::r=>match M i with
  | some _=>i::alive M r
  | none=>alive M r
def zkI (M:Nat→Option Ob) (vs:List V):List Nat×List Nat :=
 (fun ids=>(fun fz=>(ids.filter fun i => !fz.contains i,fz)) ((zws (viewIdss 20 vs++zsF M ids) []).filter fun i=>ids.contains i)) (zws (alive M (zL M vs)) [])
def Ob.flatB:Option Ob→Bool
 | some (.row _ xs)=>xs.all fun x=>x.cells.all fun y=>y.flat 10
 | some (.box cs)=>vflats 20 cs
 | some (.map es)=>es.all fun p=>p.1.flat 10&&p.2.flat 10
 | _=>true
abbrev Fs:=Nat→List V→List Ob→Option (V×List (Option Ob))
def zjJ:List (Option Ob)→Bool
 | []=>true
 | ob::r=>Ob.flatB ob&&zjJ r
def ztK (M:Nat→Option Ob) (vs:List V) (js fz:List Nat):Bool:=nodup js&&(zd1 fz js&&(zdM js (zL M vs)&&zdM fz (zL M vs)))
noncomputable def zlP (F:Fs) (M:Nat→Option Ob) (n f:Nat) (vs:List V) (K:V→Upd→Nat→Option zp):Option zp :=
 cond (zoS vs&&Nat.blt vs.length 18) (match F f vs [] with
  | some (lv,obs')=>cond (zcV lv&&obs'.isEmpty) (K lv [] 0) (K (zje [] n 20 lv) (zfO [] [] n obs' false) (obs'.length - 0))
  | none=>none)
 ((fun p=>match zj8 M p.1 p.2 p.1,passVs M p.1 p.2 20 vs with
  | some obs,some lvs=>match F f lvs obs with
   | some (lv,obs')=>(fun clean=>cond (Nat.ble p.1.length obs'.length&&ztK M vs p.1 p.2) (K (zje p.1 n 20 lv) (zfO p.1 p.2 n obs' clean) (obs'.length - p.1.length)) none)
     (cond p.2.isEmpty false (V.flat 20 lv&&zjJ obs'))
   | none=>none
  | _,_=>none) (zkI M vs))
def zkQ (r:List (Nat×Nat)) (mem:Mem):Nat→Nat→List (Option Ob)
 | _,0=>[]
 | i,k+1=>ztE r mem i::zkQ r mem (i+1) k
def zpA (r:List (Nat×Nat)) (i:Nat) (v x:V):Bool:=match rnV r 30 x with
 | some v'=>V.eqq 5 v' v
 | none=>false
noncomputable def zl7 (r:List (Nat×Nat)) (env:Env):Nat→List Ob→List (Option Ob)→Bool
 | _,[],_=>true
 | i,ob::rest,obs'=>(match obs' with
   | []=>true
   | none::_=>true
   | some (.row s _)::_=>(match ob with | .row s' _=>Nat.beq s' s|_=>false)&&zpA r i (.own i) (zc7 env (zc+i))
   | some (.box _)::_=>(match ob with | .box _=>true|_=>false)&&zpA r i (.ptr i 0) (zc7 env (zc+i))
   | some (.map _)::_=>(match ob with | .map _=>true|_=>false)&&zpA r i (.map i) (zc7 env (zc+i))
   | _=>false)&&zl7 r env (i+1) rest obs'.tail
noncomputable def zv9 (obs:List Ob) (env:Env) (mem:Mem) (v:V) (m:Nat) (r:List (Nat×Nat)):Option (V×List (Option Ob)) :=
 (fun obs'=>cond (rOk r m&&zl7 r env 0 obs obs') (some (v,obs')) none) (zkQ r mem 0 m)
noncomputable def zsf (obs:List Ob) (env:Env) (mem:Mem) (x:V):Option (V×List (Option Ob)) :=
 (fun ids=>(fun r=>match rnV r 30 x with
  | some v=>zv9 obs env mem v (obs.length+ids.length) r
  | none=>none) (zp2 obs.length mem ids)) (zjY obs.length mem (V.deepIds 20 x))
noncomputable def finish (own:Bool) (obs:List Ob) (res:List zhJ) (env:Env) (mem:Mem):Option (V×List (Option Ob)) :=
 match zoD res (zc7 env) (zg1 mem) with
 | none=>none
 | some x=>cond (obs.isEmpty&&zcV x) (some (x,[])) (match cond own none (x.freeze mem.get true 20) with
  | some y=>(fun ids=>(fun r=>cond (zd1 (V.reach mem.get 20 x) (r.map Prod.snd)) (zv9 obs env mem (.d y) (obs.length+ids.length) r) (zsf obs env mem x)) (zp2 obs.length mem ids)) (zjY obs.length mem [])
  | none=>zsf obs env mem x)
structure Cfg where
 code:Nat→Option CFn
 known:Fs
 its:Nat→List V→List Ob→Option (List (List D))
 own:Nat→Bool
 sec:Nat→Bool
 rounds:Nat
noncomputable def zlQ (C:Cfg) (M:Nat→Option Ob) (n g:Nat) (cs:List V):Option (List (List D)×Upd) :=
 (fun p=>match zj8 M p.1 p.2 p.1,passVs M p.1 p.2 20 cs with
  | some obs,some lvs=>match C.its g lvs obs with
   | some xs=>cond (nodup p.1&&zd1 p.2 p.1) (some (xs,zgy p.1++zgy p.2)) none
   | none=>none
  | _,_=>none) (zkI M cs)
noncomputable def evF (C:Cfg) (k:Nat):Fs :=
 @Nat.rec (fun _=>Fs) (fun _ _ _=>none) (fun _ F f vs obs=>match C.known f vs obs with
  | some r=>some r
  | none=>match C.code f with
   | some c=>cond (Nat.ble vs.length c.ntmps) (evC ⟨C.sec f,fun M n f vs K=>zlP F M n f vs K,zlQ C,obs.length⟩ C.rounds c.body false
     (fun e env mem n=>match e with
      | .exit _=>none
      | _=>finish (C.own f) obs c.res env mem) (zbd 0 vs++zc8 zc 0 obs) (zjb 0 obs) obs.length) none
   | none=>none) k
end Go.Ab
namespace Go.Ab
open Go
section
variable {r : zp}
theorem zyT {a b : Nat} : (Nat.beq a b = true) = (a = b) := propext ⟨Nat.eq_of_beq_eq_true, fun h => by subst h; exact Nat.beq_refl _⟩
mutual
theorem D.eqq_eq : ∀ (k : Nat) (x y : D), D.eqq k x y = true → x = y
  | 0, x, y, h => by simp [D.eqq] at h
  | k + 1, x, y, h => by
    cases x <;> cases y <;> simp only [D.eqq, Bool.and_eq_true, beq_iff_eq, decide_eq_true_eq, Bool.false_eq_true] at h
    case bool => rw [h]
    case int => rw [h.1, h.2]
    case u64 => rw [h]
    case str => rw [h]
    case agg => rw [eqqs_eq k _ _ h]
    case tup => rw [eqqs_eq k _ _ h]
    case arr => rw [Nat.eq_of_beq_eq_true h.1, eqqs_eq k _ _ h.2]
    case box => rw [eqqs_eq k _ _ h]
    case map => rw [eqqm_eq k _ _ h]
    case fn => rw [Nat.eq_of_beq_eq_true h.1, eqqs_eq k _ _ h.2]
    case nil => rfl
theorem eqqs_eq : ∀ (k : Nat) (x y : List D), eqqs k x y = true → x = y
  | 0, x, y, h => by simp [eqqs] at h
  | k + 1, [], [], h => rfl
  | k + 1, [], _ :: _, h => by simp [eqqs] at h
  | k + 1, _ :: _, [], h => by simp [eqqs] at h
  | k + 1, x :: r, y :: s, h => by
    simp only [eqqs, Bool.and_eq_true] at h
    rw [D.eqq_eq k x y h.1, eqqs_eq k r s h.2]
theorem eqqm_eq : ∀ (k : Nat) (x y : List (D × D)), eqqm k x y = true → x = y
  | 0, x, y, h => by simp [eqqm] at h
  | k + 1, [], [], h => rfl
  | k + 1, [], _ :: _, h => by simp [eqqm] at h
  | k + 1, _ :: _, [], h => by simp [eqqm] at h
  | k + 1, (a, b) :: r, (c, d) :: s, h => by
    simp only [eqqm, Bool.and_eq_true] at h
    rw [D.eqq_eq k _ _ h.1.1, D.eqq_eq k _ _ h.1.2, eqqm_eq k r s h.2]
end
mutual
theorem V.eqq_eq : ∀ (k : Nat) (x y : V), V.eqq k x y = true → x = y
  | 0, x, y, h => by simp [V.eqq] at h
  | k + 1, x, y, h => by
    cases x <;> cases y <;> simp only [V.eqq, Bool.and_eq_true, zyT, Bool.false_eq_true] at h
    case d => rw [D.eqq_eq k _ _ h]
    case agg => rw [V.eqqs_eq k _ _ h]
    case tup => rw [V.eqqs_eq k _ _ h]
    case fn => rw [h.1, V.eqqs_eq k _ _ h.2]
    case dptr => rw [h.1.1, D.eqq_eq k _ _ h.1.2, h.2]
    all_goals first | rfl | (rw [h]) | (rw [h.1, h.2]) | (rw [h.1.1, h.1.2, h.2])
theorem V.eqqs_eq : ∀ (k : Nat) (x y : List V), V.eqqs k x y = true → x = y
  | 0, x, y, h => by simp [V.eqqs] at h
  | k + 1, [], [], h => rfl
  | k + 1, [], _ :: _, h => by simp [V.eqqs] at h
  | k + 1, _ :: _, [], h => by simp [V.eqqs] at h
  | k + 1, x :: r, y :: s, h => by
    simp only [V.eqqs, Bool.and_eq_true] at h
    rw [V.eqq_eq k x y h.1, V.eqqs_eq k r s h.2]
end
theorem zq9 : ∀ (x y : Env), zgK x y = true → x = y
  | [], [], h => rfl
  | [], _ :: _, h => by simp [zgK] at h
  | _ :: _, [], h => by simp [zgK] at h
  | (a, x) :: r, (b, y) :: s, h => by
    simp only [zgK, Bool.and_eq_true, zyT] at h
    rw [h.1.1, V.eqq_eq _ _ _ h.1.2, zq9 r s h.2]
theorem zy1 (x y : Option Ob) (h : zv7 x y = true) : x = y := by
  unfold zv7 at h
  split at h
  · rfl
  · simp only [Bool.and_eq_true, zyT] at h; rw [h.1, eqqs_eq _ _ _ h.2]
  · rw [V.eqqs_eq _ _ _ h]
  · rw [eqqm_eq _ _ _ h]
  · cases h
theorem zrA : ∀ (x y : List (Option Ob)), zj3 x y = true → x = y
  | [], [], h => rfl
  | [], _ :: _, h => by simp [zj3] at h
  | _ :: _, [], h => by simp [zj3] at h
  | x :: r, y :: s, h => by
    simp only [zj3, Bool.and_eq_true] at h
    rw [zy1 _ _ h.1, zrA r s h.2]
theorem zza (x y : V × List (Option Ob)) (h : zsl x y = true) : x = y := by
  unfold zsl at h
  rw [Bool.and_eq_true] at h
  exact Prod.ext (V.eqq_eq _ _ _ h.1) (zrA _ _ h.2)
theorem Eff.ev_sound {C : zh} {M : Nat → Option Ob} {n : Nat} {call : Nat → List V → (V → Upd → Nat → Option zp) → Option zp} {K : V → Upd → Nat → Option zp} {K' : V → Upd → Nat → Prop}
    (hc : ∀ f vs, call f vs K = some r → zfE C M n f vs K') (hk : ∀ v u k, K v u k = some r → K' v u k) : ∀ (e : Eff) {sec : Bool}, e.ev call sec K = some r → e.wp C M n K'
  | .bad, _, h => by cases h
  | .ok v u k, _, h => hk _ _ _ (by rw [← zys v fun v => K v u k]; exact h)
  | @Eff.need p d e, sec, h => by
    have h1 : @Bool.rec (fun _ => Option zp) none (e.ev call sec K) (@decide p d) = some r := h
    cases hd : @decide p d with
    | true => rw [hd] at h1; exact ⟨of_decide_eq_true hd, ev_sound hc hk e h1⟩
    | false => rw [hd] at h1; cases h1
  | .given p e, _, h => fun _ => ev_sound hc hk e h
  | @Eff.alt p d e s, sec, h => by
    have h1 : @Bool.rec (fun _ => Option zp) (@Bool.rec (fun _ => Option zp) (s.ev call false K) (e.ev call false K) (@decide p d)) (s.ev call false K) sec = some r := h
    cases sec with
    | true => exact .inr (ev_sound hc hk s h1)
    | false =>
      cases hd : @decide p d with
      | true => rw [hd] at h1; exact .inl ⟨of_decide_eq_true hd, ev_sound hc hk e h1⟩
      | false => rw [hd] at h1; exact .inr (ev_sound hc hk s h1)
  | .elem xs i f, sec, h => by
    have h1 : cond (decide (0 ≤ i)) (match xs[i.toNat]? with
      | some x => (f x).ev call sec K
      | none => none) none = some r := h
    cases hd : decide (0 ≤ i) with
    | false => rw [hd] at h1; cases h1
    | true =>
      rw [hd, cond_true] at h1
      split at h1
      · rename_i x hx; exact ⟨x, ⟨of_decide_eq_true hd, hx⟩, ev_sound hc hk (f x) h1⟩
      · cases h1
  | .find es k f, sec, h => by
    have h1 : (match zF es k with
      | some r => (f r).ev call sec K
      | none => none) = some r := h
    split at h1
    · rename_i x hx; exact ⟨x, hx, ev_sound hc hk (f x) h1⟩
    · cases h1
  | .call f vs, _, h => hc f vs h
theorem zoX {a b : Option zp} (h : zvz a b = some r) : a = some r ∧ b = some r := by
  unfold zvz at h
  split at h
  · rename_i x y
    cases hs : zsl x y with
    | false => rw [hs] at h; cases h
    | true =>
      rw [hs] at h
      have := zza _ _ hs
      cases h; subst this; exact ⟨rfl, rfl⟩
  · cases h
theorem zjw {f : Nat → D → D → Option zp} : ∀ (l : List (D × D)) (i : Nat), zn9 f i l = some r → ∀ j k v, l[j]? = some (k, v) → f (i + j) k v = some r
  | [], i, h => fun j k v hj => by simp at hj
  | [p], i, h => fun j k v hj => by
    cases j with
    | zero => simp only [List.getElem?_cons_zero, Option.some.injEq] at hj; subst hj; exact h
    | succ j => simp at hj
  | p :: q :: l, i, h => fun j k v hj => by
    obtain ⟨h1, h2⟩ := zoX h
    cases j with
    | zero => simp only [List.getElem?_cons_zero, Option.some.injEq] at hj; subst hj; exact h1
    | succ j =>
      have := zjw (q :: l) (i + 1) h2 j k v (by simpa using hj)
      rw [show i + (j + 1) = i + 1 + j by omega]; exact this
theorem zsT {Y : zc3} {o : CO} {env : Env} {mem : Mem} {n : Nat} (h : zmM o env.get mem.get mem n = none) : zcv Y o env mem n = none := by
  cases o
  case callv g xs =>
    replace h : zjs g env.get mem.get mem n = none := h
    simp only [zjs] at h
    simp only [zcv]
    generalize g.ev env.get = v at h ⊢
    cases v <;> first | rfl | cases h
  case next it =>
    replace h : zjt it env.get mem.get mem n = none := h
    simp only [zjt] at h
    simp only [zcv]
    generalize it.ev env.get = v at h ⊢
    cases v <;> first | rfl | cases h
  case eqN neg x y =>
    replace h : zlL neg x y env.get mem.get mem n = none := h
    simp only [zlL, zv6] at h
    simp only [zcv]
    generalize x.ev env.get = v at h ⊢
    generalize y.ev env.get = w at h ⊢
    cases v
    case d z => cases z <;> cases w <;> first | rfl | cases h
    case own id =>
      cases w
      case nils t =>
        dsimp only at h ⊢
        generalize mem.get id = ob at h ⊢
        cases ob with
        | none => rfl
        | some ob => cases ob <;> first | rfl | cases h
      all_goals rfl
    all_goals (cases w <;> rfl)
  all_goals rfl
theorem zpT {neg : Bool} {xs : List D} {mem : Mem} {n : Nat} {f : (V → Mem → Nat → Option zp) → Option zp} (h : zv6 neg xs mem n = some f) {K : V → Mem → Nat → Option zp} {K' : V → Mem → Nat → Prop}
    (hk : ∀ v mem n, K v mem n = some r → K' v mem n) (hf : f K = some r) : ∀ b : Bool, (b = true → xs = []) → K' (.d (.bool (b != neg))) mem n := by
  intro b hb
  cases h
  dsimp only at hf
  split at hf
  · obtain ⟨h1, h2⟩ := zoX hf
    cases b
    · exact hk _ _ _ h2
    · exact hk _ _ _ h1
  · cases b
    · exact hk _ _ _ hf
    · cases hb rfl
theorem zsU {Y : zc3} {o : CO} {env : Env} {mem : Mem} {n : Nat} {f : (V → Mem → Nat → Option zp) → Option zp} (h : zmM o env.get mem.get mem n = some f)
    {K : V → Mem → Nat → Option zp} {K' : V → Mem → Nat → Prop} (hk : ∀ v mem n, K v mem n = some r → K' v mem n) (hf : f K = some r) : ∃ g, zcv Y o env mem n = some g ∧ g K' := by
  cases o
  case callv g xs =>
    replace h : zjs g env.get mem.get mem n = some f := h
    simp only [zjs] at h
    split at h
    · cases h; cases hf
    · cases h
  case next it =>
    replace h : zjt it env.get mem.get mem n = some f := h
    simp only [zjt] at h
    split at h
    · rename_i id hid
      cases h
      refine ⟨_, by simp only [zcv, hid]; rfl, ?_⟩
      dsimp only at hf ⊢
      split at hf
      · rename_i left cur hm
        rw [hm]
        dsimp only
        cases left with
        | nil => exact ⟨fun _ => hk _ _ _ hf, fun i k v hi => by simp at hi⟩
        | cons p l =>
          refine ⟨fun e => (by cases e), fun i k v hi => ?_⟩
          have := zjw _ _ hf i k v hi
          rw [Nat.zero_add] at this
          exact hk _ _ _ this
      · cases hf
    · cases h
  case eqN neg x y =>
    replace h : zlL neg x y env.get mem.get mem n = some f := h
    simp only [zlL] at h
    split at h
    · rename_i s xs t hx hy
      exact ⟨_, by simp only [zcv, hx, hy]; rfl, zpT h hk hf⟩
    · rename_i id t hx hy
      split at h
      · rename_i s xs hm
        exact ⟨_, by simp only [zcv, hx, hy, hm]; rfl, zpT h hk hf⟩
      · cases h
    · cases h
  all_goals cases h
theorem znO {v : V} {b : Bool} (h : zmZ v = some b) : (zcV v = true ∧ v = .d (.bool b)) ∨ (zcV v = false ∧ v = cond b .bt .bf) := by
  cases v
  case d x =>
    cases x
    case bool c => replace h : some c = some b := h; cases h; exact .inl ⟨rfl, rfl⟩
    all_goals cases h
  case bt => cases h; exact .inr ⟨rfl, rfl⟩
  case bf => cases h; exact .inr ⟨rfl, rfl⟩
  all_goals cases h
theorem zk5 {δ : Dec} {env : Env} {g : Nat × Bool} {yes no : Dec → Option zp} {yes' no' : Dec → Prop} (hy : ∀ δ, yes δ = some r → yes' δ) (hn : ∀ δ, no δ = some r → no' δ)
    (h : zhy δ env.get g yes no = some r) : ze1 δ env g yes' no' := by
  unfold zhy at h
  unfold ze1
  have two : ∀ (b : Bool) (p q : Option zp) (p' q' : Prop), (p = some r → p') → (q = some r → q') → cond b p q = some r → cond b p' q' := by
    intro b p q p' q' h1 h2 h; cases b
    · exact h2 h
    · exact h1 h
  cases hd : δ.get g.1 with
  | some b => rw [hd] at h; exact two _ _ _ _ _ (hy _) (hn _) h
  | none =>
    rw [hd] at h
    dsimp only at h ⊢
    generalize env.get g.1 = v at h ⊢
    cases ht : zmZ v with
    | some b =>
      rw [ht] at h
      dsimp only at h
      rcases znO ht with ⟨h1, rfl⟩ | ⟨h1, rfl⟩
      · rw [h1] at h
        cases b with
        | true =>
          refine ⟨fun _ => two g.2 _ _ _ _ (hy _) (hn _) ?_, nofun⟩
          revert h; cases g.2 <;> exact id
        | false =>
          refine ⟨nofun, fun _ => two g.2 _ _ _ _ (hn _) (hy _) ?_⟩
          revert h; cases g.2 <;> exact id
      · rw [h1] at h
        cases b with
        | true => refine two g.2 _ _ _ _ (hy _) (hn _) ?_; revert h; cases g.2 <;> exact id
        | false => refine two g.2 _ _ _ _ (hn _) (hy _) ?_; revert h; cases g.2 <;> exact id
    | none =>
      rw [ht] at h
      dsimp only at h
      cases v
      case tup cs =>
        cases cs with
        | nil => exact hn _ h
        | cons c cs => cases h
      all_goals cases h
structure zsv (S : Rn) (C : zh) (I : zcF) : Prop where
  call : ∀ r M n f vs K, S.call M n f vs K = some r → ∀ K' : V → Upd → Nat → Prop, (∀ v u k, K v u k = some r → K' v u k) → zfE C M n f vs K'
  iter : ∀ M n g cs xs u, S.iter M n g cs = some (xs, u) → I M n g cs xs u true
variable {S : Rn} {C : zh} {I : zcF}
theorem zsQ (δ : Dec) (o : CO) (ρ : Nat → V) (M : Nat → Option Ob) (n : Nat) : zsi δ o ρ M n = zdr δ o ρ M n := by
  unfold zsi
  cases hp : zxc o with
  | false =>
    show zlM o ρ M n = _
    rw [zqu]
    cases o <;> first | rfl | cases hp
  | true =>
    cases o
    case pick c a b =>
      cases c with
      | c v => show zlM (.pick (.c v) a b) ρ M n = _; rw [zqu]; rfl
      | t c =>
        show (match δ.get c with
          | some true => zjK (a.ev ρ)
          | some false => zjK (b.ev ρ)
          | none => zlM (.pick (.t c) a b) ρ M n) = _
        rw [zqu, zl4, zl4]
        unfold zdr
        rfl
    all_goals cases hp
theorem zmm (hS : zsv S C I) {o : COp} {δ : Dec} {env : Env} {mem : Mem} {n : Nat} {l : List zas} {next : Dec → Env → Mem → Nat → List zas → Option zp} {next' : Dec → Env → Mem → Nat → List zas → Prop}
    (hn : ∀ δ env mem n l, next δ env mem n l = some r → next' δ env mem n l) (h : zj6 S o δ env mem n l next = some r) : (zdr δ o.op env.get mem.get n).wp C mem.get n fun v u k =>
          next' (δ.del o.dst) (zY o.dst v env) (zV u mem) (n + k) (l ++ [⟨zaI o.op env.get mem.get, u.map Prod.fst, zbm o.op env.get v, u⟩]) := by
  unfold zj6 at h
  rw [zfw, zmQ, zsQ, zmL] at h
  have key : ∀ v u k, (@List.rec (Nat × Option Ob) (fun _ => Option zp) (next (δ.del o.dst) (zeX o.dst v env) mem (n + k) (l ++ [⟨zaI o.op env.get mem.get, [], zbm o.op env.get v, []⟩]))
      (fun _ _ _ => next (δ.del o.dst) (zeX o.dst v env) (zV u mem) (n + k) (l ++ [⟨zaI o.op env.get mem.get, u.map Prod.fst, zbm o.op env.get v, u⟩])) u) = some r →
      next' (δ.del o.dst) (zY o.dst v env) (zV u mem) (n + k) (l ++ [⟨zaI o.op env.get mem.get, u.map Prod.fst, zbm o.op env.get v, u⟩]) := by
    intro v u k h
    rw [zhD] at h
    cases u <;> exact hn _ _ _ _ _ h
  exact Eff.ev_sound (fun f vs hc => hS.call r _ _ _ _ _ hc _ key) key _ h
theorem zgA (hS : zsv S C I) {K : Env → Mem → Nat → List zas → Option zp} {K' : Env → Mem → Nat → List zas → Prop} (hk : ∀ env mem n l, K env mem n l = some r → K' env mem n l) :
    ∀ (ops : List COp) (δ : Dec) (env : Env) (mem : Mem) (n : Nat) (l : List zas), zpo S K ops δ env mem n l = some r → zeM C K' ops δ env mem n l
  | [], δ, env, mem, n, l, h => hk _ _ _ _ h
  | o :: ops, δ, env, mem, n, l, h => by
    replace h : (match o.guard with
      | none => zj6 S o δ env mem n l (zpo S K ops)
      | some g => zhy δ (zc7 env) g (fun δ => zj6 S o δ env mem n l (zpo S K ops))
          (fun δ => zpo S K ops (zhX o.dst δ) (zeX o.dst (.tup []) env) mem n (l ++ [⟨[], [], none, []⟩]))) = some r := h
    rw [zeM]
    cases hg : o.guard with
    | none => rw [hg] at h; exact zmm hS (zgA hS hk ops) h
    | some g =>
      rw [hg] at h
      dsimp only at h
      rw [zfw] at h
      refine zk5 (fun δ hd => zmm hS (zgA hS hk ops) hd) (fun δ hd => zgA hS hk ops _ _ _ _ _ ?_) h
      rw [← zmL, ← zhD]; exact hd
theorem zvu {o : CO} (ho : zpz o = true) {u : Upd} {mem : Mem} {env : Env} {k : Env → Option zp} {k' : Env → Prop} (hk : ∀ env, k env = some r → k' env) (h : zvt u mem env k = some r) : zfR o u mem env k' := by
  cases o
  case app sz by' x y =>
    simp only [zvt] at h
    simp only [zfR]
    cases u with
    | nil => exact hk _ h
    | cons p l =>
      obtain ⟨id, ob⟩ := p
      cases ob with
      | some ob => exact hk _ h
      | none =>
        dsimp only at h ⊢
        generalize mem.get id = w at h ⊢
        cases w with
        | none => exact hk _ h
        | some w =>
          cases w
          case row s xs =>
            dsimp only at h ⊢
            generalize Mem.get (zV ((id, none) :: l) mem) id = z at h ⊢
            cases z <;> exact hk _ h
          all_goals exact hk _ h
  all_goals cases ho
theorem zz7 {o : CO} (ho : zpz o = false) {u : Upd} {mem : Mem} {env : Env} {k' : Env → Prop} (h : k' env) : zfR o u mem env k' := by
  cases o
  case app sz by' x y => cases ho
  all_goals exact h
theorem zlg (hS : zsv S C I) {Y : zc3} {o : COp} {δ : Dec} {env : Env} {mem : Mem} {n : Nat} {next : Dec → Env → Mem → Nat → Option zp} {next' : Dec → Env → Mem → Nat → Prop}
    (hn : ∀ δ env mem n, next δ env mem n = some r → next' δ env mem n) (h : zhE S o δ env mem n next = some r) : (match zcv Y o.op env mem n with
          | some f => f fun v mem n => next' (δ.del o.dst) (zY o.dst v env) mem n
          | none => (zdr δ o.op env.get mem.get n).wp C mem.get n fun v u k =>
              zfR o.op u mem env fun env => next' (δ.del o.dst) (zY o.dst v env) (zV u mem) (n + k)) := by
  unfold zhE at h
  rw [zfw, zmQ, zsQ, zmL] at h
  cases hd : zmM o.op env.get mem.get mem n with
  | some f =>
    rw [hd] at h
    obtain ⟨g, hg, hgk⟩ := zsU (Y := Y) hd (K' := fun v mem n => next' (δ.del o.dst) (zY o.dst v env) mem n) (fun v mem n hv => by rw [zhD] at hv; exact hn _ _ _ _ hv) h
    rw [hg]; exact hgk
  | none =>
    rw [hd] at h
    rw [zsT hd]
    have key : ∀ v u k, (@Bool.rec (fun _ => Option zp) (@List.rec (Nat × Option Ob) (fun _ => Option zp) (next (δ.del o.dst) (zeX o.dst v env) mem (n + k)) (fun _ _ _ => next (δ.del o.dst) (zeX o.dst v env) (zV u mem) (n + k)) u) (zvt u mem env fun env => next (δ.del o.dst) (zeX o.dst v env) (zV u mem) (n + k)) (zpz o.op)) = some r →
        zfR o.op u mem env fun env => next' (δ.del o.dst) (zY o.dst v env) (zV u mem) (n + k) := by
      intro v u k h
      cases ha : zpz o.op with
      | true => rw [ha] at h; exact zvu ha (fun env he => by rw [zhD] at he; exact hn _ _ _ _ he) h
      | false =>
        rw [ha] at h
        dsimp only at h
        rw [zhD] at h
        exact zz7 ha (by cases u <;> exact hn _ _ _ _ h)
    exact Eff.ev_sound (fun f vs hc => hS.call r _ _ _ _ _ hc _ key) key _ h
theorem zgB (hS : zsv S C I) {Y : zc3} {K : Env → Mem → Nat → Option zp} {K' : Env → Mem → Nat → Prop} (hk : ∀ env mem n, K env mem n = some r → K' env mem n) :
    ∀ (ops : List COp) (δ : Dec) (env : Env) (mem : Mem) (n : Nat), zpp S K ops δ env mem n = some r → zdk C Y K' ops δ env mem n
  | [], δ, env, mem, n, h => hk _ _ _ h
  | o :: ops, δ, env, mem, n, h => by
    replace h : (match o.guard with
      | none => zhE S o δ env mem n (zpp S K ops)
      | some g => zhy δ (zc7 env) g (fun δ => zhE S o δ env mem n (zpp S K ops))
          (fun δ => zpp S K ops (zhX o.dst δ) (zeX o.dst (.tup []) env) mem n)) = some r := h
    rw [zdk]
    cases hg : o.guard with
    | none => rw [hg] at h; exact zlg hS (zgB hS hk ops) h
    | some g =>
      rw [hg] at h
      dsimp only at h
      rw [zfw] at h
      refine zk5 (fun δ hd => zlg hS (zgB hS hk ops) hd) (fun δ hd => zgB hS hk ops _ _ _ _ ?_) h
      rw [← zmL, ← zhD]; exact hd
theorem zyZ {r : List (Nat × Nat)} {i j : Nat} (h : zgE r i = some j) : zbG r j = some i := by
  unfold zgE at h
  split at h
  · split at h
    · rename_i i' hi
      cases hb : Nat.beq i' i with
      | true => rw [hb] at h; cases h; rw [hi, Nat.eq_of_beq_eq_true hb]
      | false => rw [hb] at h; cases h
    · cases h
  · cases h
theorem zda {r : List (Nat × Nat)} {i : Nat} {v w : V} (f : Nat → V) (h : (match zgE r i with | some j => some (f j) | none => some V.undef) = some v) :
    v = .undef ∨ ∃ j, zbG r j = some i ∧ v = f j := by
  split at h
  · rename_i j hj; cases h; exact .inr ⟨j, zyZ hj, rfl⟩
  · cases h; exact .inl rfl
mutual
theorem zms {r : List (Nat × Nat)} {nl : List Nat} : ∀ (k : Nat) (v x : V), rnV r k v = some x → VLe r nl k x v
  | 0, v, x, h => by cases h
  | k + 1, v, x, h => by
    cases v <;> simp only [rnV] at h
    case own i =>
      rcases zda (w := .undef) V.own h with rfl | ⟨j, hj, rfl⟩
      · trivial
      · simp only [VLe, hj]
    case ptr i o =>
      rcases zda (w := .undef) (fun j => V.ptr j o) h with rfl | ⟨j, hj, rfl⟩
      · trivial
      · exact ⟨i, hj, rfl⟩
    case eptr i a o =>
      rcases zda (w := .undef) (fun j => V.eptr j a o) h with rfl | ⟨j, hj, rfl⟩
      · trivial
      · exact ⟨i, hj, rfl⟩
    case map i =>
      rcases zda (w := .undef) V.map h with rfl | ⟨j, hj, rfl⟩
      · trivial
      · exact ⟨i, hj, rfl⟩
    case iter i =>
      rcases zda (w := .undef) V.iter h with rfl | ⟨j, hj, rfl⟩
      · trivial
      · exact ⟨i, hj, rfl⟩
    case bown i l =>
      rcases zda (w := .undef) (fun j => V.bown j l) h with rfl | ⟨j, hj, rfl⟩
      · trivial
      · exact ⟨i, hj, rfl⟩
    case view i o l =>
      rcases zda (w := .undef) (fun j => V.view j o l) h with rfl | ⟨j, hj, rfl⟩
      · trivial
      · exact ⟨i, hj, rfl⟩
    case agg cs =>
      split at h
      · rename_i l hl; cases h; exact ⟨cs, rfl, rnVs_le k cs l hl⟩
      · cases h
    case tup cs =>
      split at h
      · rename_i l hl; cases h; exact ⟨cs, rfl, rnVs_le k cs l hl⟩
      · cases h
    case fn f cs =>
      split at h
      · rename_i l hl; cases h; exact ⟨cs, rfl, rnVs_le k cs l hl⟩
      · cases h
    case d y =>
      cases h
      cases y <;> first | exact rfl | exact .inl rfl
    all_goals (cases h; first | exact rfl | trivial)
theorem rnVs_le {r : List (Nat × Nat)} {nl : List Nat} : ∀ (k : Nat) (v x : List V), rnVs r k v = some x → VLes r nl k x v
  | 0, v, x, h => by cases h
  | k + 1, [], x, h => by cases h; rfl
  | k + 1, v :: l, x, h => by
    simp only [rnVs] at h
    split at h
    · rename_i a b ha hb; cases h; exact ⟨zms k v a ha, rnVs_le k l b hb⟩
    · cases h
end
theorem zAv {r : List (Nat × Nat)} {nl : List Nat} {a b : Ob} (h : zzc r a = some b) : zcB r nl b a := by
  unfold zzc at h
  split at h
  · rename_i cs
    split at h
    · rename_i l hl; cases h; exact ⟨cs, rfl, rnVs_le _ _ _ hl⟩
    · cases h
  · rename_i hne
    cases h
    cases a with
    | box cs => exact absurd rfl (hne cs)
    | _ => exact rfl
theorem zu8 {r : List (Nat × Nat)} {nl : List Nat} {mem : Mem} {i : Nat} {ob : Ob} (h : ztE r mem i = some ob) : ∃ j, zbG r i = some j ∧ ∃ ob', mem.get j = some ob' ∧ zcB r nl ob ob' := by
  unfold ztE at h
  split at h
  · rename_i j hj
    split at h
    · rename_i ob' ho; exact ⟨j, hj, ob', ho, zAv h⟩
    · cases h
  · cases h
theorem zyl (s t : Nat) : Nat.beq (Nat.land 1 (Nat.shiftRight s t)) 1 = s.testBit t := by
  show Nat.beq (1 &&& (s >>> t)) 1 = s.testBit t
  rw [Nat.testBit, Nat.one_and_eq_mod_two]
  have h2 : (s >>> t) % 2 < 2 := Nat.mod_lt _ (by decide)
  generalize (s >>> t) % 2 = x at h2
  match x, h2 with
  | 0, _ => rfl
  | 1, _ => rfl
theorem zzX (s t i : Nat) : (Nat.lor s (Nat.shiftLeft 1 t)).testBit i = (s.testBit i || decide (i = t)) := by
  show (s ||| (1 <<< t)).testBit i = _
  rw [Nat.testBit_or, Nat.testBit_shiftLeft]
  congr 1
  by_cases h : i = t
  · subst h; simp
  · by_cases h2 : t ≤ i
    · obtain ⟨m, hm⟩ : ∃ m, i - t = m + 1 := ⟨i - t - 1, by omega⟩
      rw [hm, Nat.testBit_succ]
      simp [h]
    · simp [h, h2]
theorem zoF {q : List (Nat × Nat)} {nl : List Nat} {env : Env} : ∀ (e : Env) (s : Nat), (∀ t, s.testBit (zfL t) = false → env.get t = Env.get e t) → ziw q nl env (zkW q e s)
  | [], s, h => trivial
  | (t, v) :: e, s, h => by
    show ziw q nl env (@Bool.rec (fun _ => Env)
      (@Bool.rec (fun _ => Env) (match rnV q 30 v with
        | some x => (t, x) :: zkW q e (Nat.lor s (Nat.shiftLeft 1 (zfL t)))
        | none => zkW q e (Nat.lor s (Nat.shiftLeft 1 (zfL t)))) ((t, v) :: zkW q e (Nat.lor s (Nat.shiftLeft 1 (zfL t)))) (zcV v))
      (zkW q e s) (Nat.beq (Nat.land 1 (Nat.shiftRight s (zfL t))) 1))
    rw [zyl]
    have other : ∀ t', t ≠ t' → Env.get ((t, v) :: e) t' = Env.get e t' := by
      intro t' hne
      simp only [Env.get]
      cases hb : Nat.beq t t' with
      | true => exact absurd (Nat.eq_of_beq_eq_true hb) hne
      | false => rfl
    cases hc : s.testBit (zfL t) with
    | true =>
      refine zoF e s fun t' ht' => ?_
      have hne : t ≠ t' := fun he => by subst he; rw [hc] at ht'; cases ht'
      rw [h t' ht', other t' hne]
    | false =>
      have hself : env.get t = v := by
        rw [h t hc]
        simp [Env.get]
      have hrest : ziw q nl env (zkW q e (Nat.lor s (Nat.shiftLeft 1 (zfL t)))) := zoF e _ fun t' ht' => by
        rw [zzX, Bool.or_eq_false_iff] at ht'
        have hne : t ≠ t' := fun he => by subst he; simp at ht'
        rw [h t' ht'.1, other t' hne]
      show ziw q nl env (@Bool.rec (fun _ => Env) _ _ (zcV v))
      cases hv : zcV v with
      | true =>
        obtain ⟨x, rfl⟩ := zkL hv
        refine ⟨?_, hrest⟩
        rw [hself]
        exact zms 30 (.d x) _ rfl
      | false =>
        dsimp only
        split
        · rename_i x hx
          exact ⟨by rw [hself]; exact zms _ _ _ hx, hrest⟩
        · exact hrest
theorem zBu {r : List (Nat × Nat)} {N i j : Nat} (h : rOk r N = true) (hi : zbG r i = some j) : i < N := by
  unfold rOk at h
  rw [Bool.and_eq_true] at h
  have := List.all_eq_true.1 h.2 _ (zgm hi)
  exact of_decide_eq_true (by simpa [Nat.blt_eq] using this)
theorem zoG {r : List (Nat × Nat)} {nl : List Nat} {mem : Mem} {N : Nat} (hr : rOk r N = true) : ∀ l : List (Nat × Nat), zkm r nl mem N (zp4 r mem l)
  | [] => trivial
  | (i, _) :: l => by
    simp only [zp4]
    split
    · rename_i ob ho
      obtain ⟨j, hj, ob', h1, h2⟩ := zu8 (nl := nl) ho
      refine ⟨zBu hr hj, ?_, zoG hr l⟩
      rw [hj]; exact ⟨ob', h1, h2⟩
    · exact zoG hr l
theorem zhs {n0 N : Nat} {env : Env} {mem : Mem} {K : Env → Mem → Option zp} (h : zg7 n0 N env mem K = some r) : ∃ env' mem' q, K env' mem' = some r ∧ ∀ n, Le env mem n env' mem' N q [] := by
  unfold zg7 zzU at h
  generalize zp2 n0 mem (zjY n0 mem (zwM env)) = q at h
  cases hr : rOk q N with
  | false => rw [hr] at h; cases h
  | true =>
    rw [hr] at h
    have h1 := hr
    unfold rOk at h1
    rw [Bool.and_eq_true] at h1
    exact ⟨_, _, q, h, fun n => ⟨h1.1, h1.2, rfl, zoF env 0 fun t _ => rfl, zoG hr q⟩⟩
def zyd (B : (Ex → Env → Mem → Nat → Option zp) → Env → Mem → Nat → Option zp) (W : zac → Env → Mem → Nat → Prop) : Prop :=
  ∀ r K Q, (∀ e env mem n, K e env mem n = some r → Q e env mem n) → ∀ env mem n, B K env mem n = some r → W Q env mem n
theorem zsW {n0 : Nat} {B : (Ex → Env → Mem → Nat → Option zp) → Env → Mem → Nat → Option zp} {W : zac → Env → Mem → Nat → Prop} (hB : zyd B W) {K : Ex → Env → Mem → Nat → Option zp} {Q : zac} (hk : ∀ e env mem n, K e env mem n = some r → Q e env mem n)
    {fuel : Nat} {env : Env} {mem : Mem} {n : Nat} (h : zg7 n0 zej env mem (fun env mem => zlR n0 B K fuel env mem) = some r) : zv1 W Q env mem n := by
  obtain ⟨env1, mem1, q, h1, h2⟩ := zhs h
  refine ⟨Nat × Env × Mem, fun a => a.2.1, fun a => a.2.2, zej, fun a => zlR n0 B K a.1 a.2.1 a.2.2 = some r, fun a => a.1, (fuel, env1, mem1), q, [], h1, h2 n, fun a ha => ?_⟩
  obtain ⟨k, env2, mem2⟩ := a
  cases k with
  | zero => cases ha
  | succ k =>
    replace ha : B (fun e env mem n => match e with
      | .normal => zg7 n0 zej env mem (zlR n0 B K k)
      | e => K e env mem n) env2 mem2 zej = some r := ha
    refine hB r _ _ (fun e env3 mem3 n3 he => ?_) _ _ _ ha
    cases e with
    | normal =>
      obtain ⟨env4, mem4, q', h3, h4⟩ := zhs he
      exact ⟨(k, env4, mem4), q', [], h3, Nat.lt_succ_self k, h4 n3⟩
    | exit id => exact hk _ _ _ _ he
    | ret => exact hk _ _ _ _ he
theorem zqv {n0 : Nat} {B : (Ex → Env → Mem → Nat → Option zp) → Env → Mem → Nat → Option zp} {W : zac → Env → Mem → Nat → Prop} (hB : zyd B W) {K : Ex → Env → Mem → Nat → Option zp} {Q : zac} (hk : ∀ e env mem n, K e env mem n = some r → Q e env mem n)
    {ps : List Nat} {xs : List (List D)} {u : Upd} {env : Env} {mem : Mem} {n g : Nat} {cs : List V} (hI : I mem.get n g cs xs u true)
    (h : zg7 n0 zej env (zV u mem) (fun E mem => zhY n0 B ps K E xs mem) = some r) : zwe I W ps Q env mem n g cs := by
  obtain ⟨E, mem1, q, h1, h2⟩ := zhs h
  refine ⟨xs, u, true, hI, Mem, E, fun m => m, zej, fun i m => zhY n0 B ps K E (xs.drop i) m = some r, mem1, q, [], h1, h2 n, fun i x a hx ha => ?_, fun a ha => ?_⟩
  · have hlt := (List.getElem?_eq_some_iff.1 hx).1
    have hd : xs.drop i = x :: xs.drop (i + 1) := by
      rw [List.drop_eq_getElem_cons hlt, (List.getElem?_eq_some_iff.1 hx).2]
    dsimp only at ha
    rw [hd] at ha
    replace ha : cond (Nat.beq x.length ps.length) (B (fun e env mem n => match e with
      | .normal => zg7 n0 zej (zbH env) mem fun env mem => cond (zgK env E) (zhY n0 B ps K E (xs.drop (i + 1)) mem) none
      | e => K e (zbH env) mem n) (zdQ ps x (zdY E) ++ zct E) a zej) none = some r := ha
    cases hl : Nat.beq x.length ps.length with
    | false => rw [hl] at ha; cases ha
    | true =>
      rw [hl, cond_true] at ha
      refine ⟨Nat.eq_of_beq_eq_true hl, hB r _ _ (fun e env3 mem3 n3 he => ?_) _ _ _ ha⟩
      cases e with
      | normal =>
        obtain ⟨env4, mem4, q', h3, h4⟩ := zhs he
        cases hq : zgK env4 E with
        | false => rw [hq] at h3; cases h3
        | true =>
          rw [hq] at h3
          have := zq9 _ _ hq
          subst this
          exact ⟨mem4, q', [], h3, h4 n3⟩
      | exit id => exact hk _ _ _ _ he
      | ret => exact hk _ _ _ _ he
  · dsimp only at ha; rw [List.drop_length] at ha; exact hk _ _ _ _ ha
theorem zj5 {f : Env → Mem → Nat → Option zp} {K : Ex → Env → Mem → Nat → Option zp} {f' : Env → Mem → Nat → Prop} {Q : zac} (hf : ∀ env mem n, f env mem n = some r → f' env mem n) (hk : ∀ e env mem n, K e env mem n = some r → Q e env mem n) :
    ∀ e env mem n, zib f K e env mem n = some r → (match e with
        | .normal => f' env mem n
        | e => Q e env mem n) := by
  intro e env mem n h
  cases e with
  | normal => exact hf _ _ _ h
  | exit id => exact hk _ _ _ _ h
  | ret => exact hk _ _ _ _ h
theorem zcN (hS : zsv S C I) {fuel : Nat} : ∀ (c : CC) {Y : zc3} (b : Bool), zyd (evC S fuel c b) (fun Q env mem n => wpc C I Y b c Q env mem n)
  | .skip, Y, b => fun r K Q hk env mem n h => hk _ _ _ _ h
  | .seq x y, Y, b => fun r K Q hk env mem n h => by
    replace h : evC S fuel x b (zib (fun env mem n => evC S fuel y b K env mem n) K) env mem n = some r := h
    have key := zcN hS x (Y := Y) b r _ _ (zj5 (fun env mem n he => zcN hS y (Y := Y) b r K Q hk _ _ _ he) hk) _ _ _ h
    show wpc C I Y b (.seq x y) Q env mem n
    rw [wpc]
    split
    · exact key
    · exact .inl key
  | .reg ops, Y, b => fun r K Q hk env mem n h => zgB hS (fun env mem n he => hk _ _ _ _ he) ops _ _ _ _ h
  | .regd ops bef, Y, b => fun r K Q hk env mem n h => by
    refine zgA (r := r) hS (K' := fun env mem n l => zsc ops bef l ∧ Q .normal env mem n) (fun env mem n l he => ?_) ops _ _ _ _ _ h
    cases ho : zhB ops bef l with
    | false => rw [ho] at he; cases he
    | true => rw [ho] at he; exact ⟨.inl ho, hk _ _ _ _ he⟩
  | .cond x c d, Y, b => fun r K Q hk env mem n h => by
    replace h : (match zmZ (x.ev (zc7 env)) with
      | some z => @Bool.rec (fun _ => Option zp) (evC S fuel d b K env mem n) (evC S fuel c b K env mem n) z
      | none => none) = some r := h
    show wpc C I Y b (.cond x c d) Q env mem n
    rw [wpc]
    rw [zfw] at h
    unfold zpk
    have hc := zcN hS (fuel := fuel) c (Y := Y) b r K Q hk env mem n
    have hd := zcN hS (fuel := fuel) d (Y := Y) b r K Q hk env mem n
    cases ht : zmZ (x.ev env.get) with
    | none => rw [ht] at h; cases h
    | some z =>
      rw [ht] at h
      rcases znO ht with ⟨-, e⟩ | ⟨-, e⟩
      · rw [e]
        cases z with
        | true => exact ⟨fun _ => hc h, nofun⟩
        | false => exact ⟨nofun, fun _ => hd h⟩
      · rw [e]
        cases z with
        | true => exact hc h
        | false => exact hd h
  | .block id c, Y, b => fun r K Q hk env mem n h => by
    replace h : evC S fuel c b (ztG id K) env mem n = some r := h
    show wpc C I Y b (.block id c) Q env mem n
    rw [wpc]
    refine zcN hS c (Y := Y) b r _ _ (fun e env mem n he => ?_) _ _ _ h
    cases e with
    | normal => exact hk _ _ _ _ he
    | ret => exact hk _ _ _ _ he
    | exit j =>
      simp only [ztG] at he
      dsimp only
      cases hb : Nat.beq j id with
      | true => rw [hb] at he; exact hk _ _ _ _ he
      | false => rw [hb] at he; exact hk _ _ _ _ he
  | .loop c, Y, b => fun r K Q hk env mem n h => by
    replace h : zg7 S.n0 zej env mem (fun env mem => zlR S.n0 (evC S fuel c b) K fuel env mem) = some r := h
    show wpc C I Y b (.loop c) Q env mem n
    rw [wpc]
    exact zsW (zcN hS c b) hk h
  | .exit id, Y, b => fun r K Q hk env mem n h => hk _ _ _ _ h
  | .ret, Y, b => fun r K Q hk env mem n h => hk _ _ _ _ h
  | .rng f ps x y, Y, true => fun r K Q hk env mem n h => by
    replace h : (none : Option zp) = some r := h
    cases h
  | .rng f ps x y, Y, false => fun r K Q hk env mem n h => by
    replace h : (match f.ev (zc7 env) with
      | .fn g cs => match S.iter (zg1 mem) n g cs with
        | some (xs, u) => zg7 S.n0 zej env (zV u mem) fun E mem => zhY S.n0 (fun K env mem n => evC S fuel x true (zib (fun env mem n => evC S fuel y true K env mem n) K) env mem n) ps K E xs mem
        | none => none
      | _ => none) = some r := h
    show wpc C I Y false (.rng f ps x y) Q env mem n
    rw [wpc]
    rw [zfw, zmQ] at h
    generalize f.ev env.get = v at h ⊢
    cases v
    case fn g cs =>
      dsimp only at h ⊢
      split at h
      · rename_i xs u hit
        refine zqv (W := fun Q env mem n => wpc C I noY true x (fun e env mem n => match e with
          | .normal => wpc C I noY true y Q env mem n
          | e => Q e env mem n) env mem n) (fun r K Q hk env mem n h => ?_) hk (hS.iter _ _ _ _ _ _ hit) h
        exact zcN hS x (Y := noY) true r _ _ (zj5 (fun env mem n he => zcN hS y (Y := noY) true r K Q hk _ _ _ he) hk) _ _ _ h
      · cases h
    all_goals cases h
end
theorem zon : ∀ {l : List Nat} {k i j : Nat}, zl9 l k i = some j → k ≤ j ∧ l[j - k]? = some i
  | [], k, i, j, h => by cases h
  | a :: r, k, i, j, h => by
    simp only [zl9] at h
    cases hb : Nat.beq a i with
    | true =>
      rw [hb, cond_true] at h; cases h
      exact ⟨Nat.le_refl _, by simp [Nat.eq_of_beq_eq_true hb]⟩
    | false =>
      rw [hb, cond_false] at h
      obtain ⟨h1, h2⟩ := zon h
      refine ⟨by omega, ?_⟩
      rw [show j - k = j - (k + 1) + 1 by omega, List.getElem?_cons_succ]
      exact h2
theorem zkM {js : List Nat} {i : Nat} {v : V} (f : Nat → V) (h : (match zl9 js 0 i with | some j => some (f j) | none => some V.undef) = some v) : v = .undef ∨ ∃ j, js[j]? = some i ∧ v = f j := by
  split at h
  · rename_i j hj; cases h; exact .inr ⟨j, by simpa using (zon hj).2, rfl⟩
  · cases h; exact .inl rfl
theorem zl5 {M : Nat → Option Ob} {fz : List Nat} {x v : V} {i : Nat} (hr : V.reach M 20 x = [i]) (h : (match x.freeze M true 20 with
      | some y => cond (fz.contains i) (some (V.d y)) (some .undef)
      | none => some .undef) = some v) : v = .undef ∨ ∃ y, v = .d y ∧ x.freeze M true 20 = some y ∧ zdM (V.reach M 20 x) fz = true := by
  split at h
  · rename_i y hy
    cases hc : fz.contains i with
    | true => rw [hc] at h; cases h; exact .inr ⟨y, rfl, hy, by rw [hr]; simpa [zdM] using hc⟩
    | false => rw [hc] at h; cases h; exact .inl rfl
  · cases h; exact .inl rfl
mutual
theorem zy5 {M : Nat → Option Ob} {js fz : List Nat} : ∀ (k : Nat) (x l : V), zwa M js fz k x = some l → zbX M js fz k l x
  | 0, x, l, h => by cases h
  | k + 1, x, l, h => by
    cases x <;> simp only [zwa] at h
    case d y => cases h; exact ⟨rfl, rfl⟩
    case own i =>
      split at h
      · rename_i j hj; cases h; exact ⟨i, by simpa using (zon hj).2, rfl⟩
      · rcases zl5 rfl h with rfl | ⟨y, rfl, h1, h2⟩
        · trivial
        · exact ⟨h1, h2⟩
    case view i o n =>
      rcases zl5 rfl h with rfl | ⟨y, rfl, h1, h2⟩
      · trivial
      · exact ⟨h1, h2⟩
    case ptr i o =>
      rcases zkM (fun j => V.ptr j o) h with rfl | ⟨j, hj, rfl⟩
      · trivial
      · exact ⟨i, hj, rfl⟩
    case bown i o =>
      rcases zkM (fun j => V.bown j o) h with rfl | ⟨j, hj, rfl⟩
      · trivial
      · exact ⟨i, hj, rfl⟩
    case map i =>
      rcases zkM (fun j => V.map j) h with rfl | ⟨j, hj, rfl⟩
      · trivial
      · exact ⟨i, hj, rfl⟩
    case agg cs =>
      split at h
      · rename_i y hy
        cases h
        unfold zzP at hy
        cases hr : (V.reach M 20 (.agg cs)).isEmpty with
        | false => rw [hr] at hy; cases hy
        | true =>
          rw [hr] at hy
          exact ⟨hy, by rw [List.isEmpty_iff.1 hr]; rfl⟩
      · split at h
        · rename_i l hl; cases h; exact ⟨cs, rfl, passVs_ok k cs l hl⟩
        · cases h
    case tup cs =>
      split at h
      · rename_i l hl; cases h; exact ⟨cs, rfl, passVs_ok k cs l hl⟩
      · cases h
    case fn f cs =>
      split at h
      · rename_i l hl; cases h; exact ⟨cs, rfl, passVs_ok k cs l hl⟩
      · cases h
    all_goals (cases h; first | exact rfl | trivial)
theorem passVs_ok {M : Nat → Option Ob} {js fz : List Nat} : ∀ (k : Nat) (x l : List V), passVs M js fz k x = some l → VPasses M js fz k l x
  | 0, x, l, h => by cases h
  | k + 1, [], l, h => by cases h; rfl
  | k + 1, v :: r, l, h => by
    simp only [passVs] at h
    split at h
    · rename_i a b ha hb; cases h; exact ⟨zy5 k v a ha, passVs_ok k r b hb⟩
    · cases h
end
theorem zxs {M : Nat → Option Ob} {js fz : List Nat} {x : Option Ob} {o : Ob} (h : ztJ M js fz x = some o) : zbA M js fz o x := by
  unfold ztJ at h
  split at h
  · cases h; rfl
  · rename_i cs
    split at h
    · rename_i l hl; cases h; exact ⟨l, rfl, passVs_ok _ _ _ hl⟩
    · cases h
  · cases h; rfl
  · cases h
theorem zkT {M : Nat → Option Ob} {js fz : List Nat} : ∀ {l : List Nat} {obs : List Ob}, zj8 M js fz l = some obs → zaN M js fz obs l
  | [], obs, h => by cases h; rfl
  | j :: r, obs, h => by
    simp only [zj8] at h
    split at h
    · rename_i o l ho hl; cases h; exact ⟨zxs ho, zkT hl⟩
    · cases h
theorem zpq : ∀ {obs : List (Option Ob)}, zjJ obs = true → Obs.Flat obs
  | [], h => trivial
  | ob :: r, h => by
    simp only [zjJ, Bool.and_eq_true] at h
    refine ⟨?_, zpq h.2⟩
    have h1 := h.1
    unfold Ob.flatB at h1
    unfold Ob.Flat
    split at h1
    · exact fun x hx y hy => List.all_eq_true.1 (List.all_eq_true.1 h1 x hx) y hy
    · exact h1
    · exact fun p hp => by simpa using List.all_eq_true.1 h1 p hp
    · split <;> first | trivial | (rename_i h2 h3 h4 _ _; exfalso; simp_all)
section
variable {r : zp} {P : Program} {T : Nat → Obj → Prop}
def zss (P : Program) (T : Nat → Obj → Prop) (F : Fs) : Prop := ∀ f vs obs v obs', F f vs obs = some (v, obs') → Fn P T f vs obs v obs'
theorem zq3 : ∀ {vs : List V}, zoS vs = true → ∃ ds : List D, vs = ds.map .d
  | [], h => ⟨[], rfl⟩
  | v :: r, h => by
    replace h : @Bool.rec (fun _ => Bool) false (zoS r) (zcV v) = true := h
    cases hv : zcV v with
    | false => rw [hv] at h; cases h
    | true =>
      rw [hv] at h
      obtain ⟨x, rfl⟩ := zkL hv
      obtain ⟨ds, rfl⟩ := zq3 h
      exact ⟨x :: ds, rfl⟩
theorem zpX {M : Nat → Option Ob} : ∀ (ds : List D) (k : Nat), ds.length + 1 < k → VPasses M [] [] k (ds.map .d) (ds.map .d)
  | [], k + 1, h => rfl
  | x :: r, k + 1, h => by
    simp only [List.length_cons] at h
    refine ⟨?_, zpX r k (by omega)⟩
    match k, h with
    | k + 1, h => exact ⟨rfl, rfl⟩
theorem zsS {F : Fs} (hF : zss P T F) {M : Nat → Option Ob} {n f : Nat} {vs : List V} {K : V → Upd → Nat → Option zp} (h : zlP F M n f vs K = some r) {K' : V → Upd → Nat → Prop} (hk : ∀ v u k, K v u k = some r → K' v u k) : zfE (zdf P T) M n f vs K' := by
  unfold zlP at h
  cases hd : zoS vs && Nat.blt vs.length 18 with
  | true =>
    rw [hd, cond_true] at h
    rw [Bool.and_eq_true] at hd
    obtain ⟨ds, rfl⟩ := zq3 hd.1
    have hlt : (ds.map V.d).length < 18 := of_decide_eq_true (by simpa [Nat.blt_eq] using hd.2)
    split at h
    · rename_i lv obs' hf
      have key : ∀ v u k, v = zje [] n 20 lv → u = zfO [] [] n obs' false → k = obs'.length - 0 → K v u k = some r → zfE (zdf P T) M n f (ds.map .d) K' := by
        intro v u k hv hu hkk h
        exact ⟨v, u, k, ⟨[], [], false, ds.map .d, [], lv, obs', hF _ _ _ _ _ hf, zpX ds 20 (by simp at hlt; omega), rfl, rfl, rfl, rfl, rfl, Nat.zero_le _, nofun, hv, hu, hkk⟩, hk _ _ _ h⟩
      cases hc : (zcV lv && obs'.isEmpty) with
      | true =>
        rw [hc] at h
        rw [Bool.and_eq_true] at hc
        obtain ⟨x, rfl⟩ := zkL hc.1
        cases obs' with
        | cons _ _ => cases hc.2
        | nil => exact key _ _ _ rfl rfl rfl h
      | false => rw [hc] at h; exact key _ _ _ rfl rfl rfl h
    · cases h
  | false =>
  rw [hd, cond_false] at h
  generalize zkI M vs = p at h
  obtain ⟨js, fz⟩ := p
  dsimp only at h
  split at h
  · rename_i obs lvs ho hl
    split at h
    · rename_i lv obs' hf
      generalize hcl : cond fz.isEmpty false (V.flat 20 lv && zjJ obs') = clean at h
      cases hc : (Nat.ble js.length obs'.length && ztK M vs js fz) with
      | false => rw [hc] at h; cases h
      | true =>
        rw [hc] at h
        simp only [ztK, Bool.and_eq_true] at hc
        refine ⟨_, _, _, ⟨js, fz, clean, lvs, obs, lv, obs', hF _ _ _ _ _ hf, passVs_ok _ _ _ hl, zkT ho, hc.2.1, hc.2.2.1, hc.2.2.2.1, hc.2.2.2.2, Nat.le_of_ble_eq_true hc.1, fun he => ?_, rfl, rfl, rfl⟩, hk _ _ _ h⟩
        rw [he] at hcl
        cases hz : fz.isEmpty with
        | true => rw [hz] at hcl; cases hcl
        | false =>
          rw [hz, cond_false, Bool.and_eq_true] at hcl
          exact ⟨hcl.1, zpq hcl.2⟩
    · cases h
  · cases h
theorem zom {q : List (Nat × Nat)} {i : Nat} {v x : V} (h : zpA q i v x = true) : VLe q [] 30 v x := by
  unfold zpA at h
  split at h
  · rename_i v' hv
    rw [← V.eqq_eq _ _ _ h]; exact zms _ _ _ hv
  · cases h
theorem zrr {q : List (Nat × Nat)} {env : Env} {all : List (Option Ob)} : ∀ (obs : List Ob) (i : Nat) (obs' : List (Option Ob)), all.drop i = obs' → zl7 q env i obs obs' = true → zmH q [] env all i obs
  | [], i, obs', _, h => trivial
  | ob :: rest, i, obs', he, h => by
    simp only [zl7, Bool.and_eq_true, zfw] at h
    have hget : all.getD i none = obs'.getD 0 none := by rw [← he]; simp [List.getD]
    refine ⟨?_, zrr rest (i + 1) obs'.tail (by rw [← he, ← List.drop_drop, List.drop_one]) h.2⟩
    have h1 := h.1
    rw [hget]
    cases obs' with
    | nil => trivial
    | cons o l =>
      cases o with
      | none => trivial
      | some o =>
        cases o with
        | row s xs =>
          simp only [Bool.and_eq_true] at h1
          refine ⟨?_, zom h1.2⟩
          cases ob with
          | row s' ys => exact Nat.eq_of_beq_eq_true h1.1
          | _ => cases h1.1
        | box cs =>
          simp only [Bool.and_eq_true] at h1
          refine ⟨?_, zom h1.2⟩
          cases ob with
          | box ys => trivial
          | _ => cases h1.1
        | map es =>
          simp only [Bool.and_eq_true] at h1
          refine ⟨?_, zom h1.2⟩
          cases ob with
          | map ys => trivial
          | _ => cases h1.1
        | iter _ _ => cases h1
        | todo _ => cases h1
theorem zoy {q : List (Nat × Nat)} {mem : Mem} {N : Nat} (hr : rOk q N = true) : ∀ (k i : Nat), i + k ≤ N → zkm q [] mem N (zia i (zkQ q mem i k))
  | 0, i, _ => trivial
  | k + 1, i, hi => by
    simp only [zkQ, zia]
    cases ho : ztE q mem i with
    | none => exact ⟨by omega, zoy hr k (i + 1) (by omega)⟩
    | some ob =>
      obtain ⟨j, hj, ob', h1, h2⟩ := zu8 (nl := []) ho
      refine ⟨by omega, ?_, zoy hr k (i + 1) (by omega)⟩
      rw [hj]; exact ⟨ob', h1, h2⟩
theorem zrB {q : List (Nat × Nat)} {mem : Mem} : ∀ (k i : Nat), (zkQ q mem i k).length = k
  | 0, i => rfl
  | k + 1, i => by simp [zkQ, zrB k (i + 1)]
theorem zu9 {obs : List Ob} {env : Env} {mem : Mem} {n : Nat} {x v v' : V} {m : Nat} {q : List (Nat × Nat)} {obs' : List (Option Ob)} (h : zv9 obs env mem v m q = some (v', obs')) (hv : VLe q [] 30 v x ∨ zoP mem q v x) :
    ∃ r nl, zoO obs env mem n x v' obs' r nl := by
  unfold zv9 at h
  dsimp only at h
  cases hc : (rOk q m && zl7 q env 0 obs (zkQ q mem 0 m)) with
  | false => rw [hc] at h; cases h
  | true =>
    rw [hc] at h
    cases h
    rw [Bool.and_eq_true] at hc
    have h1 := hc.1
    unfold rOk at h1
    rw [Bool.and_eq_true] at h1
    refine ⟨q, [], hv.elim .inl (fun h => .inr (.inl h)), ?_, zrr obs 0 _ rfl hc.2⟩
    rw [zrB]
    exact ⟨h1.1, h1.2, rfl, trivial, zoy hc.1 m 0 (by omega)⟩
theorem zri {own : Bool} {obs : List Ob} {res : List zhJ} {env : Env} {mem : Mem} {n : Nat} {v : V} {obs' : List (Option Ob)} (h : finish own obs res env mem = some (v, obs')) :
    ∃ x r nl, zoD res env.get mem.get = some x ∧ zoO obs env mem n x v obs' r nl := by
  have href : ∀ x, zsf obs env mem x = some (v, obs') → ∃ r nl, zoO obs env mem n x v obs' r nl := by
    intro x h
    unfold zsf at h
    dsimp only at h
    split at h
    · rename_i v1 hv1; exact zu9 h (.inl (zms _ _ _ hv1))
    · cases h
  unfold finish at h
  rw [zfw, zmQ] at h
  split at h
  · cases h
  · rename_i x hx
    refine ⟨x, ?_⟩
    cases hq : obs.isEmpty && zcV x with
    | true =>
      rw [hq, cond_true] at h
      cases h
      rw [Bool.and_eq_true] at hq
      obtain ⟨y, rfl⟩ := zkL hq.2
      cases obs with
      | cons _ _ => cases hq.1
      | nil => exact ⟨[], [], hx, .inr (.inl ⟨y, rfl, rfl, rfl⟩), ⟨rfl, rfl, rfl, trivial, trivial⟩, trivial⟩
    | false =>
    rw [hq, cond_false] at h
    split at h
    · rename_i y hy
      have hfz : x.freeze mem.get true 20 = some y := by
        cases own
        · exact hy
        · cases hy
      dsimp only at h
      generalize zjY obs.length mem [] = ids at h
      cases hd : zd1 (V.reach mem.get 20 x) ((zp2 obs.length mem ids).map Prod.snd) with
      | true =>
        rw [hd] at h
        obtain ⟨r, nl, h1⟩ := zu9 (n := n) h (.inr ⟨y, rfl, hfz, hd⟩)
        exact ⟨r, nl, hx, h1⟩
      | false =>
        rw [hd] at h
        obtain ⟨r, nl, h1⟩ := href x h
        exact ⟨r, nl, hx, h1⟩
    · obtain ⟨r, nl, h1⟩ := href x h
      exact ⟨r, nl, hx, h1⟩
structure zr9 (P : Program) (T : Nat → Obj → Prop) (C : Cfg) : Prop where
  code : ∀ f c, C.code f = some c → ze P f = some c
  known : zss P T C.known
  its : ∀ g vs obs xs, C.its g vs obs = some xs → It P T g vs obs xs
theorem zsV {C : Cfg} (hC : zr9 P T C) {M : Nat → Option Ob} {n g : Nat} {cs : List V} {xs : List (List D)} {u : Upd} (h : zlQ C M n g cs = some (xs, u)) : zkl P T M n g cs xs u true := by
  unfold zlQ at h
  generalize zkI M cs = p at h
  obtain ⟨js, fz⟩ := p
  dsimp only at h
  split at h
  · rename_i obs lvs ho hl
    split at h
    · rename_i xs' hx
      cases hc : (nodup js && zd1 fz js) with
      | false => rw [hc] at h; cases h
      | true =>
        rw [hc] at h
        cases h
        rw [Bool.and_eq_true] at hc
        exact ⟨js, fz, lvs, obs, hC.its _ _ _ _ hx, passVs_ok _ _ _ hl, zkT ho, hc.1, hc.2, rfl⟩
    · cases h
  · cases h
theorem zen (hm : P.follows .mixedOrders = true) {C : Cfg} (hC : zr9 P T C) : ∀ k, zss P T (evF C k)
  | 0, f, vs, obs, v, obs', h => by
    replace h : (none : Option zp) = some (v, obs') := h
    cases h
  | k + 1, f, vs, obs, v, obs', h => by
    replace h : (match C.known f vs obs with
      | some r => some r
      | none => match C.code f with
        | some c => cond (Nat.ble vs.length c.ntmps) (evC ⟨C.sec f, fun M n f vs K => zlP (evF C k) M n f vs K, zlQ C, obs.length⟩ C.rounds c.body false
            (fun e env mem n => match e with
              | .exit _ => none
              | _ => finish (C.own f) obs c.res env mem) (zbd 0 vs ++ zc8 zc 0 obs) (zjb 0 obs) obs.length) none
        | none => none) = some (v, obs') := h
    split at h
    · rename_i r hr; cases h; exact hC.known _ _ _ _ _ hr
    · split at h
      · rename_i c hc
        cases hl : Nat.ble vs.length c.ntmps with
        | false => rw [hl] at h; cases h
        | true =>
          rw [hl, cond_true] at h
          have ih := zen hm hC k
          refine zog hm (hC.code f c hc) (Nat.le_of_ble_eq_true hl) (zs5 c obs v obs') (fun _ _ _ _ h => h) ?_
          refine zcN (S := ⟨C.sec f, fun M n f vs K => zlP (evF C k) M n f vs K, zlQ C, obs.length⟩) (I := zkl P T) (C := zdf P T) ⟨fun r M n f vs K h K' hk => zsS ih h hk, fun M n g cs xs u h => zsV hC h⟩ c.body (Y := noY) false (v, obs') _ _ (fun e env mem n he => ?_) _ _ _ h
          cases e with
          | exit id => cases he
          | normal => exact ⟨trivial, zri he⟩
          | ret => exact ⟨trivial, zri he⟩
      · cases h
end
end Go.Ab
