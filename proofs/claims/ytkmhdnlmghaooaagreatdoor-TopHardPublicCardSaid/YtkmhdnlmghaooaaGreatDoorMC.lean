/- A part of the proofs of this seat: functions and their contracts. -/
import Derived.Test.YtkmhdnlmghaooaaGreatDoorMB
import Derived.RangeFuncLeaves
import Derived.RangeFuncRecord
import Derived.Shelf.Spec.TrailingZeros
set_option linter.unusedVariables false
set_option linter.unusedSimpArgs false
set_option linter.unusedSectionVars false
namespace Go.Ab
open Go
theorem zwR {α:Type} {l:List α} {i:Nat} {d:α} (h:i < l.length):l.getD i d∈l:=by
 simp [List.getD,h]
theorem zhf : ∀ {k:Nat} {l:List D},flats k l=true → ∀ i,i < l.length → ∃ k',k' < k∧(l.getD i .nil).flat k'=true
 | 0,l,h=>by simp [flats] at h
 | k+1,[],h=>fun i hi=>by simp at hi
 | k+1,x::r,h=>by
  simp only [flats,Bool.and_eq_true] at h
  intro i hi
  cases i with
  | zero=>exact ⟨k,by omega,h.1⟩
  | succ i =>
   obtain ⟨k',h1,h2⟩:=zhf h.2 i (by simpa using hi)
   exact ⟨k',by omega,by simpa using h2⟩
theorem zi0 {X X':Nat→Prop} {w:World} : ∀ (k:Nat) (d:D) (v:Value),d.flat k=true→zh X w d v→zh X' w d v:=by
 intro k
 induction k using Nat.strongRecOn with
 | _ k ih =>
  intro d v hf h
  cases k with
  | zero=>simp [D.flat] at hf
  | succ k =>
   cases h with
   | bool b=>exact .bool b
   | int k n hk=>exact .int k n hk
   | u64 x=>exact .u64 x
   | str s=>exact .str s
   | nilf=>exact .nilf
   | nilp=>exact .nilp
   | nilm=>exact .nilm
   | map=>simp [D.flat] at hf
   | arr0 s a cap=>exact .arr0 s a cap
   | agg cs vs h1 h2 h3 =>
    simp only [D.flat] at hf
    exact .agg cs vs h1 h2 fun i hi=>by obtain ⟨k',h4,h5⟩:=zhf hf i hi;exact ih k' (by omega) _ _ h5 (h3 i hi)
   | tup cs vs h1 h3 =>
    simp only [D.flat] at hf
    exact .tup cs vs h1 fun i hi=>by obtain ⟨k',h4,h5⟩:=zhf hf i hi;exact ih k' (by omega) _ _ h5 (h3 i hi)
   | fn f cs vs h1 h3 =>
    simp only [D.flat] at hf
    exact .fn f cs vs h1 fun i hi=>by obtain ⟨k',h4,h5⟩:=zhf hf i hi;exact ih k' (by omega) _ _ h5 (h3 i hi)
   | arr s xs b off cap cv h1 h2 h3 h4 h5 h6 h7 =>
    cases xs with
    | nil=>exact .arr0 s _ cap
    | cons x r=>simp [D.flat] at hf
   | box=>simp [D.flat] at hf
theorem zjn : ∀ {k:Nat} {l:List V},vflats k l=true → ∀ i,i < l.length → ∃ k',k' < k∧(l.getD i .undef).flat k'=true
 | 0,l,h=>by simp [vflats] at h
 | k+1,[],h=>fun i hi=>by simp at hi
 | k+1,x::r,h=>by
  simp only [vflats,Bool.and_eq_true] at h
  intro i hi
  cases i with
  | zero=>exact ⟨k,by omega,h.1⟩
  | succ i =>
   obtain ⟨k',h1,h2⟩:=zjn h.2 i (by simpa using hi)
   exact ⟨k',by omega,by simpa using h2⟩
theorem zcn {js:List Nat} {n:Nat} : ∀ (k:Nat) (l:List V),(renVs js n k l).length=l.length
 | 0,l=>by simp [renVs]
 | k+1,[]=>rfl
 | k+1,v::r=>by simp [renVs,zcn k r]
theorem zkI {js:List Nat} {n:Nat} : ∀ (k:Nat) (l:List V) (i:Nat),i < l.length→(renVs js n k l).getD i .undef = .undef ∨ ∃ k',k' < k∧(renVs js n k l).getD i .undef=zjg js n k' (l.getD i .undef)
 | 0,l,i,hi=>by left;simp [renVs,List.getD,hi]
 | k+1,[],i,hi=>by simp at hi
 | k+1,v::r,0,hi => .inr ⟨k,by omega,by simp [renVs]⟩
 | k+1,v::r,i+1,hi=>by
  rcases zkI k r i (by simpa using hi) with h|⟨k',h1,h2⟩
  ·left;simpa [renVs] using h
  ·exact .inr ⟨k',by omega,by simpa [renVs] using h2⟩
section
variable {σ σ':Nat→Option Nat} {M M':Nat→Option Ob} {F F' X X':Nat→Prop} {w:World} {js:List Nat} {n:Nat}
theorem ztq (hσ : ∀ i,¬ F i→σ' (zaw js n i)=σ i) (hM : ∀ i,¬ F i→M' (zaw js n i)=zdQ js n (M i)) (hF : ∀ i,¬ F i → ¬ F' (zaw js n i)) (hFM : ∀ i,F i→M i=none)
  : ∀ (k:Nat) (v:V) (u:Value),((∃ k',v.flat k'=true) ∨ ∀ b,b < w.heap.size→X' b→X b)→VSim σ M F X w v u→VSim σ' M' F' X' w (zjg js n k v) u:=by
 have live : ∀ {i:Nat} {ob:Ob},M i=some ob → ¬ F i:=fun h hf=>by rw [hFM _ hf] at h;cases h
 intro k
 induction k using Nat.strongRecOn with
 | _ k ih =>
  intro v u hX h
  cases k with
  | zero=>exact .undef u
  | succ k =>
   have list : ∀ (cs:List V) (us:Array Value),((∃ k',vflats k' cs=true) ∨ ∀ b,b < w.heap.size→X' b→X b)→(∀ i,i < cs.length→VSim σ M F X w (cs.getD i .undef) (us.getD i undef)) →
     ∀ i,i < (renVs js n k cs).length→VSim σ' M' F' X' w ((renVs js n k cs).getD i .undef) (us.getD i undef):=by
    intro cs us hX hs i hi
    rw [zcn] at hi
    rcases zkI (js:=js) (n:=n) k cs i hi with e|⟨k',hk,e⟩
    ·rw [e];exact .undef _
    ·rw [e]
     refine ih k' (by omega) _ _ ?_ (hs i hi)
     rcases hX with ⟨k2,h2⟩|hX
     ·obtain ⟨k3,_,h3⟩:=zjn h2 i hi
      exact .inl ⟨k3,h3⟩
     ·exact .inr hX
   cases h with
   | d x _ hx =>
    rcases hX with ⟨k',hf⟩|hX
    ·cases k' with
     | zero=>simp [V.flat] at hf
     | succ k'=>exact .d x u (zi0 k' _ _ hf hx)
    ·exact .d x u (hx.mono (fun _ _ _=>rfl) hX)
   | bt=>exact .bt
   | bf=>exact .bf
   | undef=>exact .undef u
   | nils s=>exact .nils s
   | ownDead id ad l c h1 h2=>exact .ownDead _ ad l c (by rw [hM id h2,h1];rfl) (hF id h2)
   | own id s xs b cap c e h1 h2 h3 h4 h5=>exact .own _ s xs b cap c e (by rw [hM id (live h1),h1];rfl) (by rw [hσ id (live h1),h2]) h3 h4 h5
   | ownNil id s h1 h2=>exact .ownNil _ s (by rw [hM id (live h1),h1];rfl) (by rw [hσ id (live h1),h2])
   | ptrDead id o ad h1 h2=>exact .ptrDead _ o ad (by rw [hM id h2,h1];rfl) (hF id h2)
   | ptr id o cs b h1 h2=>exact .ptr _ o _ b (by rw [hM id (live h1),h1];rfl) (by rw [hσ id (live h1),h2])
   | eptrDead id i o ad h1 h2=>exact .eptrDead _ i o ad (by rw [hM id h2,h1];rfl) (hF id h2)
   | eptr id i o s xs b h1 h2 h3=>exact .eptr _ i o s xs b (by rw [hM id (live h1),h1];rfl) (by rw [hσ id (live h1),h2]) h3
   | mapDead id r h1 h2=>exact .mapDead _ r (by rw [hM id h2,h1];rfl) (hF id h2)
   | map id es b h1 h2=>exact .map _ es b (by rw [hM id (live h1),h1];rfl) (by rw [hσ id (live h1),h2])
   | iterDead=>exact .undef _
   | iter=>exact .undef _
   | viewDead=>exact .undef _
   | view0=>exact .undef _
   | view=>exact .undef _
   | bownDead id l ad cap h1 h2=>exact .bownDead _ l ad cap (by rw [hM id h2,h1];rfl) (hF id h2)
   | bown id l cs b cap c e h1 h2 h3 h4 h5=>exact .bown _ l _ b cap c e (by rw [hM id (live h1),h1];rfl) (by rw [hσ id (live h1),h2]) h3 h4 h5
   | dptr s x o b off cv h1 h2 h3 h4 h5 =>
    rcases hX with ⟨k',hf⟩|hX
    ·cases k'<;>simp [V.flat] at hf
    ·exact .dptr s x o b off cv (fun hb=>h1 (hX b h2 hb)) h2 h3 h4 fun j hj=>(h5 j hj).mono (fun _ _ _=>rfl) hX
   | agg cs us h1 h2 h3 =>
    have hX':(∃ k',vflats k' cs=true) ∨ ∀ b,b < w.heap.size→X' b→X b:=by
     rcases hX with ⟨k',hf⟩|hX
     ·cases k' with
      | zero=>simp [V.flat] at hf
      | succ k'=>exact .inl ⟨k',hf⟩
     ·exact .inr hX
    exact .agg _ us (by rw [zcn];exact h1) (fun i hi=>h2 i (by rwa [zcn] at hi)) (list cs us hX' h3)
   | tup cs us h1 h3 =>
    have hX':(∃ k',vflats k' cs=true) ∨ ∀ b,b < w.heap.size→X' b→X b:=by
     rcases hX with ⟨k',hf⟩|hX
     ·cases k' with
      | zero=>simp [V.flat] at hf
      | succ k'=>exact .inl ⟨k',hf⟩
     ·exact .inr hX
    exact .tup _ us (by rw [zcn];exact h1) (list cs us hX' h3)
   | yld l=>exact .yld l
   | fn f cs us h1 h3 =>
    have hX':(∃ k',vflats k' cs=true) ∨ ∀ b,b < w.heap.size→X' b→X b:=by
     rcases hX with ⟨k',hf⟩|hX
     ·cases k' with
      | zero=>simp [V.flat] at hf
      | succ k'=>exact .inl ⟨k',hf⟩
     ·exact .inr hX
    exact .fn f _ us (by rw [zcn];exact h1) (list cs us hX' h3)
theorem zzj (hσ : ∀ i,¬ F i→σ' (zaw js n i)=σ i) (hM : ∀ i,¬ F i→M' (zaw js n i)=zdQ js n (M i)) (hF : ∀ i,¬ F i → ¬ F' (zaw js n i)) (hFM : ∀ i,F i→M i=none)
  {i:Nat} {ob ob':Ob} (hX:Ob.Flat (some ob) ∨ ∀ b,b < w.heap.size→X' b→X b) (hi : ¬ F i) (hr:zdQ js n (some ob)=some ob') (h:za5 σ M F X w i ob) :
  za5 σ' M' F' X' w (zaw js n i) ob':=by
 cases h with
 | nilrow s h1=>cases hr;exact .nilrow s (by rw [hσ i hi,h1])
 | row s xs b c e h1 h2 h3 h4 h5 h6 =>
  cases hr
  refine .row s xs b c e (by rw [hσ i hi,h1]) h2 h3 h4 h5 fun p q hp hq=>?_
  rcases hX with hf|hX
  ·have hx:=hf (xs.getD p .nil) (by simp [List.getD,hp])
   have hfit:=h5 (xs.getD p .nil) (by simp [List.getD,hp])
   have hlen:(xs.getD p .nil).cells.length=s:=by
    generalize xs.getD p .nil=x at hfit
    cases x<;>simp [D.fits,D.cells] at hfit ⊢ <;> omega
   have hy:(xs.getD p .nil).cells.getD q .nil∈(xs.getD p .nil).cells:=zwR (by omega)
   exact zi0 10 _ _ (hx _ hy) (h6 p q hp hq)
  ·exact (h6 p q hp hq).mono (fun _ _ _=>rfl) hX
 | box cs b c e h1 h2 h3 h4 h5 =>
  cases hr
  refine .box _ b c e (by rw [hσ i hi,h1]) h2 (by rw [zcn];exact h3) (fun p hp=>h4 p (by rwa [zcn] at hp)) fun p hp=>?_
  rw [zcn] at hp
  rcases zkI (js:=js) (n:=n) 20 cs p hp with e'|⟨k',hk,e'⟩
  ·rw [e'];exact .undef _
  ·rw [e']
   refine ztq hσ hM hF hFM k' _ _ ?_ (h5 p hp)
   rcases hX with hf|hX
   ·obtain ⟨k3,_,h3⟩:=zjn hf p hp
    exact .inl ⟨k3,h3⟩
   ·exact .inr hX
 | map es b ents clock h1 h2 h3 h4 h5 h6 =>
  cases hr
  have up : ∀ (p:Nat),p < es.length → ∀ d v,(d=(es.getD p (.nil,.nil)).1∨d=(es.getD p (.nil,.nil)).2)→zh X w d v→zh X' w d v:=by
   intro p hp d v hd hv
   rcases hX with hf|hX
   ·have:=hf (es.getD p (.nil,.nil)) (by simp [List.getD,hp])
    rcases hd with rfl|rfl
    ·exact zi0 10 _ _ this.1 hv
    ·exact zi0 10 _ _ this.2 hv
   ·exact hv.mono (fun _ _ _=>rfl) hX
  exact .map es b ents clock (by rw [hσ i hi,h1]) h2 h3 h4 (fun p hp=>up p hp _ _ (.inl rfl) (h5 p hp)) (fun p hp=>up p hp _ _ (.inr rfl) (h6 p hp))
 | iterNil=>cases hr
 | iter=>cases hr
 | todo=>cases hr
end
theorem zm4 : ∀ (u:Upd) (M:Nat→Option Ob) (i:Nat) (x:Option Ob),(i,x)∈u→(∀ y,(i,y)∈u→y=x)→zp u M i=x
 | [],M,i,x,h,_=>by cases h
 | (j,y)::r,M,i,x,h,hu=>by
  simp only [zp]
  by_cases hr : ∃ z,(i,z)∈r
  ·obtain ⟨z,hz⟩:=hr
   have:=hu z (by simp [hz])
   subst this
   exact zm4 r _ i z hz fun y hy=>hu y (by simp [hy])
  ·rw [zaL r _ i (by simpa using hr)]
   rcases List.mem_cons.1 h with e|h
   ·cases e;simp [zg]
   ·exact absurd ⟨x,h⟩ hr
theorem zpt {js0:List Nat} {n:Nat} {obs':List (Option Ob)} : ∀ (js:List Nat) (i j:Nat) (x:Option Ob),(j,x)∈zng js0 n obs' i js ↔ ∃ t,js[t]? = some j∧x=zdQ js0 n (obs'.getD (i+t) none)
 | [],i,j,x=>by simp [zng]
 | j'::r,i,j,x=>by
  simp only [zng,List.mem_cons,Prod.mk.injEq]
  rw [zpt r]
  constructor
  ·rintro (⟨rfl,rfl⟩|⟨t,h1,h2⟩)
   ·exact ⟨0,rfl,rfl⟩
   ·exact ⟨t+1,by simpa using h1,by rwa [show i+(t+1)=i+1+t by omega]⟩
  ·rintro ⟨t,h1,h2⟩
   cases t with
   | zero=>left;simp at h1;exact ⟨h1.symm,by simpa using h2⟩
   | succ t=>right;exact ⟨t,by simpa using h1,by rwa [show i+1+t=i+(t+1) by omega]⟩
theorem zrY {js:List Nat} {n:Nat} : ∀ (l:List (Option Ob)) (i j:Nat) (x:Option Ob),(j,x)∈zrX js n i l ↔ ∃ t,t < l.length∧j=i+t∧x=zdQ js n (l.getD t none)
 | [],i,j,x=>by simp [zrX]
 | ob::r,i,j,x=>by
  simp only [zrX,List.mem_cons,Prod.mk.injEq]
  rw [zrY r]
  constructor
  ·rintro (⟨rfl,rfl⟩|⟨t,h1,h2,h3⟩)
   ·exact ⟨0,by simp,rfl,rfl⟩
   ·exact ⟨t+1,by simp;omega,by omega,by simpa using h3⟩
  ·rintro ⟨t,h1,h2,h3⟩
   cases t with
   | zero=>left;exact ⟨by omega,by simpa using h3⟩
   | succ t=>right;exact ⟨t,by simp at h1;omega,by omega,by simpa using h3⟩
theorem zcU : ∀ (l:List Nat) (j:Nat) (x:Option Ob),(j,x)∈zfj l↔j∈l∧x=none
 | [],j,x=>by simp [zfj]
 | i::r,j,x=>by
  simp only [zfj,List.mem_cons,Prod.mk.injEq]
  rw [zcU r]
  constructor
  ·rintro (⟨rfl,rfl⟩|⟨h1,h2⟩)
   ·exact ⟨.inl rfl,rfl⟩
   ·exact ⟨.inr h1,h2⟩
  ·rintro ⟨rfl|h1,h2⟩
   ·exact .inl ⟨rfl,h2⟩
   ·exact .inr ⟨h1,h2⟩
theorem zkA : ∀ {js:List Nat},nodup js=true → ∀ {s t j:Nat},js[s]? = some j→js[t]? = some j→s=t
 | [],_,s,t,j,h,_=>by simp at h
 | x::r,h,s,t,j,h1,h2=>by
  simp only [nodup,Bool.and_eq_true,Bool.not_eq_true'] at h
  have hx : ∀ t,r[t]? = some x→False:=fun t ht=>by
   have:=List.mem_of_getElem? ht
   simp [this] at h
  cases s<;>cases t
  ·rfl
  ·simp at h1;subst h1;exact (hx _ (by simpa using h2)).elim
  ·simp at h2;subst h2;exact (hx _ (by simpa using h1)).elim
  ·simp at h1 h2;rw [zkA h.2 h1 h2]
end Go.Ab
namespace Go.Ab
open Go
section
variable {P:Program} {B:zq} {ρ:Nat→V} {M:Nat→Option Ob} {F:Nat→Prop} {σ:Nat→Option Nat} {a:Act} {w:World} {js fz:List Nat}
def zbB (h:Sim B ρ M F σ a w) (js fz:List Nat):zq where
 w0:=w
 O:=fun b=>b < w.heap.size∧(B.O b ∨ ∃ id,M id≠none∧σ id=some b∧id ∉ js∧id ∉ fz)
 R:=fun b => ∃ id,id∈js∧M id≠none∧σ id=some b
 nt:=B.nt
 pin:=B.pin
 pinO:=fun b o hp=>⟨h.olt b (B.pinO b o hp),.inl (B.pinO b o hp)⟩
 ghost:=fun _=>undef
 small:=B.small
 dfr:=B.dfr
 inv:=fun _ _ _ _=>True
 stab:=fun _ _ _ _ _ _ _ _ _ _ _ _=>trivial
 mono:=fun _ _ _ _ _ _ _=>trivial
def zR (js:List Nat) (σ:Nat→Option Nat):Nat→Option Nat:=fun i=>(js[i]?).bind σ
theorem zfC {obs:List Ob} {i:Nat} {ob:Ob} (h:zo (obs.map some) i=some ob):obs[i]? = some ob:=by
 unfold zo at h
 by_cases hi:i < obs.length
 ·simp [List.getD,hi] at h
  rw [List.getElem?_eq_getElem hi,h]
 ·simp [List.getD,hi] at h
theorem zkR {obs:List Ob} {i:Nat} {ob:Ob} (h:obs[i]? = some ob):zo (obs.map some) i=some ob:=by
 obtain ⟨hi,he⟩:=List.getElem?_eq_some_iff.1 h
 simp [zo,List.getD,hi,he]
theorem zcQ : ∀ {obs:List Ob} {l:List Nat},zaD M js fz obs l→obs.length=l.length ∧ ∀ (i:Nat) (ob:Ob),obs[i]? = some ob → ∃ j:Nat,l[i]? = some j∧zbl M js fz ob (M j)
 | [],l,h=>by simp only [zaD] at h;subst h;exact ⟨rfl,fun i ob h=>by simp at h⟩
 | ob::obs,[],h=>by simp [zaD] at h
 | ob::obs,j::l,h=>by
  simp only [zaD] at h
  obtain ⟨h1,h2⟩:=zcQ h.2
  refine ⟨by simp [h1],fun i o hi=>?_⟩
  cases i with
  | zero=>cases hi;exact ⟨j,rfl,h.1⟩
  | succ i=>obtain ⟨j',h3,h4⟩:=h2 i o (by simpa using hi);exact ⟨j',by simpa using h3,h4⟩
theorem zdE {ob:Ob} {x:Option Ob} (h:zbl M js fz ob x):x≠none:=by
 rintro rfl;exact h
theorem zeO : ∀ {k:Nat} {l x:List V},VPasses M js fz k l x→l.length=x.length ∧ ∀ i,i < l.length → ∃ k',k' < k∧zbA M js fz k' (l.getD i .undef) (x.getD i .undef)
 | 0,_,_,h=>by simp [VPasses] at h
 | k+1,[],x,h=>by simp only [VPasses] at h;subst h;exact ⟨rfl,fun i hi=>by simp at hi⟩
 | k+1,v::vs,[],h=>by simp [VPasses] at h
 | k+1,v::vs,x::xs,h=>by
  simp only [VPasses] at h
  obtain ⟨h1,h2⟩:=zeO h.2
  refine ⟨by simp [h1],fun i hi=>?_⟩
  cases i with
  | zero=>exact ⟨k,by omega,h.1⟩
  | succ i=>obtain ⟨k',h3,h4⟩:=h2 i (by simpa using hi);exact ⟨k',by omega,by simpa using h4⟩
theorem zww (h:Sim B ρ M F σ a w) {obs:List Ob} (ho:zaD M js fz obs js) {b:Nat} (hb:(zbB h js fz).X (zR js σ) (zo (obs.map some)) b) :
  B.X σ M b ∧ ∀ id,id∈fz→id ∉ js→M id≠none→σ id=some b→False:=by
 rcases hb with ⟨hlt,hb|⟨id,h1,h2,h3,h4⟩⟩|⟨i,h1,h2⟩
 ·exact ⟨.inl hb,fun id _ _ h1 h2=>(h.mine id b h1 h2).1 hb⟩
 ·refine ⟨.inr ⟨id,h1,h2⟩,fun id' h5 h6 h7 h8=>?_⟩
  have:=h.inj id id' b h1 h7 h2 h8
  subst this;exact h4 h5
 ·obtain ⟨ob,hob⟩:=Option.ne_none_iff_exists'.1 h1
  obtain ⟨j,hj,hp⟩:=(zcQ ho).2 i ob (zfC hob)
  have h2':σ j=some b:=by simpa [zR,hj] using h2
  have ha:=zdE hp
  refine ⟨.inr ⟨j,ha,h2'⟩,fun id' h5 h6 h7 h8=>?_⟩
  have:=h.inj j id' b ha h7 h2' h8
  subst this;exact h6 (List.mem_of_getElem? hj)
theorem zmU (h:Sim B ρ M F σ a w) {obs:List Ob} (ho:zaD M js fz obs js) (hdj : ∀ i∈fz,i ∉ js) : ∀ (k:Nat) (l x:V) (u:Value),zbA M js fz k l x→VSim σ M F (B.X σ M) w x u →
  VSim (zR js σ) (zo (obs.map some)) (fun i=>obs.length≤i) ((zbB h js fz).X (zR js σ) (zo (obs.map some))) w l u:=by
 obtain ⟨hlen,hobs⟩:=zcQ ho
 have alive : ∀ {i j:Nat},js[i]? = some j → ∃ ob,zo (obs.map some) i=some ob∧zbl M js fz ob (M j)∧zR js σ i=σ j:=by
  intro i j hj
  have hi:=(List.getElem?_eq_some_iff.1 hj).1
  obtain ⟨j',h1,h2⟩:=hobs i obs[i] (List.getElem?_eq_getElem (by omega))
  rw [hj] at h1;cases h1
  exact ⟨obs[i],zkR (List.getElem?_eq_getElem (by omega)),h2,by simp [zR,hj]⟩
 intro k
 induction k using Nat.strongRecOn with
 | _ k ih =>
  intro l x u hp hx
  cases k with
  | zero=>simp [zbA] at hp
  | succ k =>
   have list : ∀ (cs xs:List V) (us:Array Value),VPasses M js fz k cs xs→(∀ i,i < xs.length→VSim σ M F (B.X σ M) w (xs.getD i .undef) (us.getD i undef)) →
     cs.length=xs.length ∧ ∀ i,i < cs.length→VSim (zR js σ) (zo (obs.map some)) (fun i=>obs.length≤i) ((zbB h js fz).X (zR js σ) (zo (obs.map some))) w (cs.getD i .undef) (us.getD i undef):=by
    intro cs xs us hc hs
    obtain ⟨h1,h2⟩:=zeO hc
    refine ⟨h1,fun i hi=>?_⟩
    obtain ⟨k',h3,h4⟩:=h2 i hi
    exact ih k' (by omega) _ _ _ h4 (hs i (by omega))
   cases l with
   | undef=>exact .undef u
   | d y =>
    simp only [zbA] at hp
    refine .d y u ?_
    have hfr:=(zch (M':=fun id=>if id∈V.reach M 20 x then none else M id) h (fun j hj=>by
     split at hj
     ·exact absurd rfl hj
     ·exact hj) true 20).1 x y u hp.1 hx (fun id hid=>by
      simp only [zaC,cond_true] at hid
      simp [hid])
    refine hfr.mono (fun _ _ _=>rfl) (fun b hlt hb=>?_)
    rcases hb with ⟨-,hb|⟨id,h1,h2,h3,h4⟩⟩|⟨i,h1,h2⟩
    ·exact .inl hb
    ·refine .inr ⟨id,?_,h2⟩
     simp only
     rw [if_neg (fun hm=>h4 (zev hp.2 id hm))]
     exact h1
    ·obtain ⟨ob,hob⟩:=Option.ne_none_iff_exists'.1 h1
     obtain ⟨j,hj,hpj⟩:=hobs i ob (zfC hob)
     refine .inr ⟨j,?_,by simpa [zR,hj] using h2⟩
     simp only
     rw [if_neg (fun hm=>hdj j (zev hp.2 j hm) (List.mem_of_getElem? hj))]
     exact zdE hpj
   | bt=>simp only [zbA] at hp;subst hp;cases hx;exact .bt
   | bf=>simp only [zbA] at hp;subst hp;cases hx;exact .bf
   | nils s=>simp only [zbA] at hp;subst hp;cases hx;exact .nils s
   | own i =>
    simp only [zbA] at hp
    obtain ⟨j,hj,rfl⟩:=hp
    obtain ⟨ob,h1,h2,h3⟩:=alive hj
    cases hx with
    | ownDead _ ad l c h4 h5=>rw [h4] at h2;exact h2.elim
    | own _ s xs b cap c e h4 h5 h6 h7 h8 =>
     rw [h4] at h2
     simp only [zbl] at h2
     subst h2
     exact .own i s xs b cap c e h1 (h3.trans h5) h6 h7 h8
    | ownNil _ s h4 h5 =>
     rw [h4] at h2
     simp only [zbl] at h2
     subst h2
     exact .ownNil i s h1 (h3.trans h5)
   | ptr i o =>
    simp only [zbA] at hp
    obtain ⟨j,hj,rfl⟩:=hp
    obtain ⟨ob,h1,h2,h3⟩:=alive hj
    cases hx with
    | ptrDead _ _ ad h4 h5=>rw [h4] at h2;exact h2.elim
    | ptr _ _ cs b h4 h5 =>
     rw [h4] at h2
     simp only [zbl] at h2
     obtain ⟨cs',rfl,-⟩:=h2
     exact .ptr i o cs' b h1 (h3.trans h5)
   | bown i o =>
    simp only [zbA] at hp
    obtain ⟨j,hj,rfl⟩:=hp
    obtain ⟨ob,h1,h2,h3⟩:=alive hj
    cases hx with
    | bownDead _ _ ad cap h4 h5=>rw [h4] at h2;exact h2.elim
    | bown _ _ cs b cap c e h4 h5 h6 h7 h8 =>
     rw [h4] at h2
     simp only [zbl] at h2
     obtain ⟨cs',rfl,-⟩:=h2
     exact .bown i o cs' b cap c e h1 (h3.trans h5) h6 h7 h8
   | map i =>
    simp only [zbA] at hp
    obtain ⟨j,hj,rfl⟩:=hp
    obtain ⟨ob,h1,h2,h3⟩:=alive hj
    cases hx with
    | mapDead _ ad h4 h5=>rw [h4] at h2;exact h2.elim
    | map _ es b h4 h5 =>
     rw [h4] at h2
     simp only [zbl] at h2
     subst h2
     exact .map i es b h1 (h3.trans h5)
   | agg cs =>
    simp only [zbA] at hp
    obtain ⟨xs,rfl,hp⟩:=hp
    cases hx with
    | agg _ us h1 h2 h3 =>
     obtain ⟨h4,h5⟩:=list cs xs us hp h3
     exact .agg cs us (by omega) (fun i hi=>h2 i (by omega)) h5
   | tup cs =>
    simp only [zbA] at hp
    obtain ⟨xs,rfl,hp⟩:=hp
    cases hx with
    | tup _ us h1 h3 =>
     obtain ⟨h4,h5⟩:=list cs xs us hp h3
     exact .tup cs us (by omega) h5
   | fn f cs =>
    simp only [zbA] at hp
    obtain ⟨xs,rfl,hp⟩:=hp
    cases hx with
    | fn _ _ us h1 h3 =>
     obtain ⟨h4,h5⟩:=list cs xs us hp h3
     exact .fn f cs us (by omega) h5
   | _=>simp [zbA] at hp
theorem znz (h:Sim B ρ M F σ a w) {obs:List Ob} (ho:zaD M js fz obs js) (hdj : ∀ i∈fz,i ∉ js) (hnd:nodup js=true) :
  Sim (zbB h js fz) (fun _ => .undef) (zo (obs.map some)) (fun i=>obs.length≤i) (zR js σ) a w:=by
 obtain ⟨hlen,hobs⟩:=zcQ ho
 have alive : ∀ {i b:Nat},zo (obs.map some) i≠none→zR js σ i=some b → ∃ j,js[i]? = some j∧M j≠none∧σ j=some b:=by
  intro i b h1 h2
  obtain ⟨ob,hob⟩:=Option.ne_none_iff_exists'.1 h1
  obtain ⟨j,hj,hp⟩:=hobs i ob (zfC hob)
  exact ⟨j,hj,zdE hp,by simpa [zR,hj] using h2⟩
 have hless : ∀ {d:D} {u:Value},zh (B.X σ M) w d u→zh ((zbB h js fz).X (zR js σ) (zo (obs.map some))) w d u:=fun hd=>hd.mono (fun _ _ _=>rfl) fun b _ hb=>(zww h ho hb).1
 refine ⟨fun t => .undef _,fun i ob hi=>?_,fun i j b h1 h2 h3 h4=>?_,fun i b h1 h2=>?_,fun i hi=>?_,⟨rfl,rfl,rfl,Nat.le_refl _,fun _ _ _=>rfl,fun b c e hc=>⟨c,hc,rfl⟩⟩,h.nt,fun b hb=>hb.1,h.pins,fun _ _ _=>trivial⟩
 ·obtain ⟨j,hj,hp⟩:=hobs i ob (zfC hi)
  have hσ:zR js σ i=σ j:=by simp [zR,hj]
  cases hm:M j with
  | none=>rw [hm] at hp;exact hp.elim
  | some ob' =>
   rw [hm] at hp
   have hs:=h.mem j ob' hm
   cases hs with
   | nilrow s h1=>simp only [zbl] at hp;subst hp;exact .nilrow s (hσ.trans h1)
   | row s xs b c e h1 h2 h3 h4 h5 h6 =>
    simp only [zbl] at hp;subst hp
    exact .row s xs b c e (hσ.trans h1) h2 h3 h4 h5 fun p q hp hq=>hless (h6 p q hp hq)
   | box xs b c e h1 h2 h3 h4 h5 =>
    simp only [zbl] at hp
    obtain ⟨cs,rfl,hp⟩:=hp
    obtain ⟨h6,h7⟩:=zeO hp
    refine .box cs b c e (hσ.trans h1) h2 (by omega) (fun p hp=>h4 p (by omega)) fun p hp=>?_
    obtain ⟨k',-,h8⟩:=h7 p hp
    exact zmU h ho hdj k' _ _ _ h8 (h5 p (by omega))
   | map es b ents clock h1 h2 h3 h4 h5 h6 =>
    simp only [zbl] at hp;subst hp
    exact .map es b ents clock (hσ.trans h1) h2 h3 h4 (fun p hp=>hless (h5 p hp)) fun p hp=>hless (h6 p hp)
   | iterNil=>exact hp.elim
   | iter=>exact hp.elim
   | todo=>exact hp.elim
 ·obtain ⟨i',e1,e2,e3⟩:=alive h1 h3
  obtain ⟨j',f1,f2,f3⟩:=alive h2 h4
  have:=h.inj i' j' b e2 f2 e3 f3
  subst this
  exact zkA hnd e1 f1
 ·obtain ⟨j,e1,e2,e3⟩:=alive h1 h2
  have hmem:=List.mem_of_getElem? e1
  refine ⟨?_,.inl ⟨j,hmem,e2,e3⟩⟩
  rintro ⟨-,hb|⟨id,g1,g2,g3,g4⟩⟩
  ·exact (h.mine j b e2 e3).1 hb
  ·have:=h.inj j id b e2 g1 e3 g2
   subst this;exact g3 hmem
 ·simp [zo,List.getD,hi]
end
end Go.Ab
namespace Go.Ab
open Go
def zck (js:List Nat) (n m':Nat) (id:Nat):Option Nat :=
 if id∈js then some (js.idxOf id) else if n≤id∧id < n+(m' - js.length) then some (js.length+(id - n)) else none
theorem zhk {js:List Nat} {id:Nat} (h:id∈js):js[js.idxOf id]? = some id:=by
 have hlt:=List.idxOf_lt_length_of_mem h
 rw [List.getElem?_eq_getElem hlt]
 exact congrArg some (List.getElem_idxOf hlt)
theorem zwX {js:List Nat} {n m' id i:Nat} (hle:js.length≤m') (h:zck js n m' id=some i):i < m'∧zaw js n i=id:=by
 unfold zck at h
 split at h
 ·rename_i hm
  cases h
  have hlt:=List.idxOf_lt_length_of_mem hm
  exact ⟨by omega,by simp only [zaw,zhk hm]⟩
 ·split at h
  ·cases h
   refine ⟨by omega,?_⟩
   simp only [zaw]
   rw [List.getElem?_eq_none (by omega)]
   simp only;omega
  ·cases h
theorem zyf {js:List Nat} {n m' i:Nat} (hnd:nodup js=true) (hn : ∀ j∈js,¬ (n≤j∧j < n+(m' - js.length))) (hi:i < m'):zck js n m' (zaw js n i)=some i:=by
 unfold zck zaw
 cases hj:js[i]? with
 | some j =>
  simp only
  have hm:=List.mem_of_getElem? hj
  rw [if_pos hm]
  exact congrArg some (zkA hnd (zhk hm) hj)
 | none =>
  have hge:js.length≤i:=by
   rcases Nat.lt_or_ge i js.length with h|h
   ·rw [List.getElem?_eq_getElem h] at hj;cases hj
   ·exact h
  simp only
  have hin:n≤n+(i - js.length)∧n+(i - js.length) < n+(m' - js.length):=by omega
  rw [if_neg (fun hm=>hn _ hm hin),if_pos hin]
  congr 1;omega
theorem zrv : ∀ {obs:List (Option Ob)},Obs.Flat obs → ∀ i,Ob.Flat (zo obs i)
 | [],_,i=>by simp [zo,Ob.Flat]
 | ob::r,h,0=>h.1
 | ob::r,h,i+1=>by have:=zrv h.2 i;simpa [zo] using this
section
variable {P:Program}
theorem zsW {B:zq} {ρ:Nat→V} {M:Nat→Option Ob} {F:Nat→Prop} {σ:Nat→Option Nat} {a:Act} {w:World} (h:Sim B ρ M F σ a w) : ∀ (k:Nat),
  (∀ (x:V) (u:Value),VSim σ M F (B.X σ M) w x u → ∀ id∈V.reach M k x,¬ F id) ∧
  (∀ (cs:List V) (f:Nat→Value),(∀ i,i < cs.length→VSim σ M F (B.X σ M) w (cs.getD i .undef) (f i)) → ∀ id∈reachs M k cs,¬ F id):=by
 have live : ∀ {id:Nat} {ob:Ob},M id=some ob → ¬ F id:=fun hm hf=>by rw [h.free _ hf] at hm;cases hm
 intro k
 induction k with
 | zero=>exact ⟨fun x u _ id hid=>by simp [V.reach] at hid,fun cs f _ id hid=>by simp [reachs] at hid⟩
 | succ k ih =>
  constructor
  ·intro x u hx id hid
   cases hx with
   | ownDead i ad l c h1 h2=>simp [V.reach] at hid;subst hid;exact h2
   | own i s xs b cap c e h1=>simp [V.reach] at hid;subst hid;exact live h1
   | ownNil i s h1=>simp [V.reach] at hid;subst hid;exact live h1
   | ptrDead i o ad h1 h2=>simp [V.reach,h1] at hid;subst hid;exact h2
   | ptr i o cs b h1 h2 =>
    simp only [V.reach,h1,List.mem_cons] at hid
    rcases hid with rfl|hid
    ·exact live h1
    ·obtain ⟨c,e,h3,h4,h5,h6⟩:=zeW h h1 h2
     exact ih.2 cs (fun i=>c.getD i undef) h6 id hid
   | eptrDead i j o ad h1 h2=>simp [V.reach] at hid;subst hid;exact h2
   | eptr i j o s xs b h1=>simp [V.reach] at hid;subst hid;exact live h1
   | mapDead i r h1 h2=>simp [V.reach] at hid;subst hid;exact h2
   | map i es b h1=>simp [V.reach] at hid;subst hid;exact live h1
   | iterDead i ad h1 h2=>simp [V.reach] at hid;subst hid;exact h2
   | iter i l c b h1=>simp [V.reach] at hid;subst hid;exact live h1
   | viewDead i lo l ad cap h1 h2=>simp [V.reach] at hid;subst hid;exact h2
   | view i lo l s xs b cap h1=>simp [V.reach] at hid;subst hid;exact live h1
   | view0 i lo ad cap h1 =>
    simp [V.reach] at hid;subst hid
    rcases h1 with h1|h1
    ·obtain ⟨ob,hob⟩:=Option.ne_none_iff_exists'.1 h1;exact live hob
    ·exact h1
   | bownDead i l ad cap h1 h2=>simp [V.reach,h1] at hid;subst hid;exact h2
   | bown i l cs b cap c e h1 h2 h3' h4' =>
    simp only [V.reach,h1,List.mem_cons] at hid
    rcases hid with rfl|hid
    ·exact live h1
    ·obtain ⟨c,e,h3,h4,h5,h6⟩:=zeW h h1 h2
     exact ih.2 cs (fun i=>c.getD i undef) h6 id hid
   | agg cs us h1 h2 h3=>exact ih.2 cs (fun i=>us.getD i undef) h3 id (by simpa [V.reach] using hid)
   | tup cs us h1 h3=>exact ih.2 cs (fun i=>us.getD i undef) h3 id (by simpa [V.reach] using hid)
   | fn f cs us h1 h3=>exact ih.2 cs (fun i=>us.getD i undef) h3 id (by simpa [V.reach] using hid)
   | _=>simp [V.reach] at hid
  ·intro cs f hf id hid
   cases cs with
   | nil=>simp [reachs] at hid
   | cons c r =>
    simp only [reachs,List.mem_append] at hid
    rcases hid with hid|hid
    ·exact ih.1 c (f 0) (hf 0 (by simp)) id hid
    ·exact ih.2 r (fun i=>f (i+1)) (fun i hi=>by have:=hf (i+1) (by simpa using hi);simpa using this) id hid
theorem ziF {B:zq} {ρ:Nat→V} {M:Nat→Option Ob} {F:Nat→Prop} {σ:Nat→Option Nat} {a:Act} {w:World} (h:Sim B ρ M F σ a w) : ∀ (cs:List V) (f:Nat→Value),
  (∀ i,i < cs.length→VSim σ M F (B.X σ M) w (cs.getD i .undef) (f i)) → ∀ id∈zI M cs,¬ F id
 | [],f,_,id,hid=>by simp [zI] at hid
 | c::r,f,hf,id,hid=>by
  simp only [zI,List.mem_append] at hid
  rcases hid with hid|hid
  ·exact (zsW h 20).1 c (f 0) (hf 0 (by simp)) id hid
  ·exact ziF h r (fun i=>f (i+1)) (fun i hi=>by have:=hf (i+1) (by simpa using hi);simpa using this) id hid
set_option maxHeartbeats 1000000 in
theorem zsy {T:Nat→Obj→Prop} (B:zq) (hT:Has T B):zcb P B (zcW P T):=by
 rintro ρ M F σ a w n f vs v u k args h ⟨js,fz,clean,lvs,obs,lv,obs',hc⟩ hFn hsz hargs
 obtain ⟨hcallable,hfn⟩:=hc.fn
 refine ⟨hcallable,fun cs=>?_⟩
 have hdj : ∀ i∈fz,i ∉ js:=zep hc.dj
 obtain ⟨hlen,hobs⟩:=zcQ hc.objs
 obtain ⟨hal,hav⟩:=zeO hc.args
 have hk:=hc.k
 have hle:=hc.le
 obtain ⟨v',w',σL,hcalls,hsimL,hvL,hold⟩   := hfn (zbB h js fz) (zR js σ) a w args hT (fun _ _ _ _=>trivial) (znz h hc.objs hdj hc.nd) (by omega) (fun i hi=>by
  obtain ⟨k',-,hp⟩:=hav i hi
  exact zmU h hc.objs hdj k' _ _ _ hp (hargs i (by omega))) cs
 have hjM : ∀ {j:Nat},j∈js→M j≠none:=by
  intro j hj
  obtain ⟨i,hi,he⟩:=List.getElem_of_mem hj
  obtain ⟨j',h1,h2⟩:=hobs i obs[i] (List.getElem?_eq_getElem (by omega))
  rw [List.getElem?_eq_getElem hi,he] at h1;cases h1
  exact zdE h2
 have hFM : ∀ {j:Nat},F j→M j=none:=fun hj=>h.free _ hj
 have hnew : ∀ {j:Nat},n≤j→j < n+(obs'.length - js.length)→F j:=fun h1 h2=>hFn _ h1 (by omega)
 have hjn : ∀ j∈js,¬ (n≤j∧j < n+(obs'.length - js.length)):=fun j hj hx=>hjM hj (hFM (hnew hx.1 hx.2))
 have hlr : ∀ {i:Nat},i < obs'.length→zck js n obs'.length (zaw js n i)=some i:=fun hi=>zyf hc.nd hjn hi
 let L:=zck js n obs'.length
 have hL : ∀ {id i:Nat},L id=some i→i < obs'.length∧zaw js n i=id:=fun hi=>zwX hle hi
 have hLn : ∀ {id:Nat},L id=none→id ∉ js ∧ ¬ (n≤id∧id < n+(obs'.length - js.length)):=by
  intro id hi
  simp only [L,zck] at hi
  split at hi
  ·cases hi
  ·rename_i h1
   split at hi
   ·cases hi
   ·rename_i h2;exact ⟨h1,h2⟩
 have hfzF : ∀ id∈fz,¬ F id:=fun id hid=>ziF h vs (fun i=>args.getD i undef) hargs id (zev hc.sf id hid)
 have hfzL : ∀ {id:Nat},id∈fz→M id≠none→L id=none:=by
  intro id hf hm
  cases hi:L id with
  | none=>rfl
  | some i =>
   exfalso
   simp only [L,zck] at hi
   split at hi
   ·rename_i h1;exact hdj id hf h1
   ·split at hi
    ·rename_i h2;exact hm (hFM (hnew h2.1 h2.2))
    ·cases hi
 have hM' : ∀ id,zp u M id=match L id with
   | some i=>zdQ js n (zo obs' i)
   | none=>if clean=false∧id∈fz then none else M id:=by
  intro id
  rw [hc.u]
  have inU : ∀ x,(id,x)∈zfh js fz n obs' clean↔(∃ t,js[t]? = some id∧x=zdQ js n (zo obs' t))∨(clean=false∧id∈fz∧x=none) ∨ ∃ t,t < obs'.length - js.length∧id=n+t∧x=zdQ js n (zo obs' (js.length+t)):=by
   intro x
   simp only [zfh,List.mem_append]
   rw [zpt,zrY]
   have e1:(id,x)∈(cond clean [] (zfj fz))↔clean=false∧id∈fz∧x=none:=by
    cases clean
    ·simp only [cond_false,true_and];rw [zcU]
    ·simp
   rw [e1]
   simp only [Nat.zero_add,List.length_drop,zo,List.getD,List.getElem?_drop]
  cases hi:L id with
  | some i =>
   obtain ⟨h1,h2⟩:=hL hi
   simp only
   refine zm4 _ _ _ _ ((inU _).2 ?_) fun y hy=>?_
   ·simp only [L,zck] at hi
    split at hi
    ·rename_i hm
     cases hi
     exact .inl ⟨_,zhk hm,rfl⟩
    ·split at hi
     ·rename_i h3
      cases hi
      exact .inr (.inr ⟨id - n,by omega,by omega,rfl⟩)
     ·cases hi
   ·rcases (inU y).1 hy with ⟨t,h3,rfl⟩|⟨h3,h4,rfl⟩|⟨t,h3,h4,rfl⟩
    ·have:zaw js n t=id:=by simp only [zaw,h3]
     have ht:t < obs'.length:=by have:=(List.getElem?_eq_some_iff.1 h3).1;omega
     have:=hlr ht
     rw [show zaw js n t=id by simp only [zaw,h3]] at this
     rw [show zck js n obs'.length id=L id from rfl,hi] at this
     cases this;rfl
    ·
     cases hm:M id with
     | some ob=>have:=hfzL h4 (by rw [hm];simp);rw [hi] at this;cases this
     | none =>
      exfalso
      simp only [L,zck] at hi
      split at hi
      ·rename_i h5;exact hjM h5 hm
      ·split at hi
       ·rename_i h5
        exact hfzF id h4 (hnew h5.1 h5.2)
       ·cases hi
    ·have ht:js.length+t < obs'.length:=by omega
     have:=hlr ht
     have e:zaw js n (js.length+t)=id:=by simp only [zaw];rw [List.getElem?_eq_none (by omega)];simp only;omega
     rw [e,show zck js n obs'.length id=L id from rfl,hi] at this
     cases this;rfl
  | none =>
   obtain ⟨h1,h2⟩:=hLn hi
   simp only
   split
   ·rename_i h3
    refine zm4 _ _ _ _ ((inU _).2 (.inr (.inl ⟨h3.1,h3.2,rfl⟩))) fun y hy=>?_
    rcases (inU y).1 hy with ⟨t,h4,rfl⟩|⟨_,_,rfl⟩|⟨t,h4,h5,rfl⟩
    ·exact absurd (List.mem_of_getElem? h4) h1
    ·rfl
    ·exact absurd ⟨by omega,by omega⟩ h2
   ·rename_i h3
    refine zaL _ _ _ fun hm=>?_
    obtain ⟨⟨id',x⟩,hx,e⟩:=List.mem_map.1 hm
    simp only at e;subst e
    rcases (inU x).1 hx with ⟨t,h4,-⟩|⟨h4,h5,-⟩|⟨t,h4,h5,-⟩
    ·exact h1 (List.mem_of_getElem? h4)
    ·exact h3 ⟨h4,h5⟩
    ·exact h2 ⟨by omega,by omega⟩
 have hM'1 : ∀ {id i:Nat},L id=some i→zp u M id=zdQ js n (zo obs' i):=fun {id i} hi=>by rw [hM' id,hi]
 have hM'0 : ∀ {id:Nat},L id=none→zp u M id≠none→zp u M id=M id:=fun {id} hi hne=>by
  rw [hM' id,hi] at hne ⊢
  simp only at hne ⊢
  split
  ·rename_i hx;rw [if_pos hx] at hne;exact absurd rfl hne
  ·rfl
 let σ':Nat→Option Nat:=fun id=>match L id with
  | some i=>σL i
  | none=>σ id
 have hσ1 : ∀ {id i:Nat},L id=some i→σ' id=σL i:=fun {id i} hi=>by simp only [σ',hi]
 have hσ0 : ∀ {id:Nat},L id=none→σ' id=σ id:=fun {id} hi=>by simp only [σ',hi]
 have renSome : ∀ {x:Option Ob},zdQ js n x≠none→x≠none:=by
  rintro x hx rfl;exact hx rfl
 have hXm : ∀ b,b < w.heap.size→B.X σ' (zp u M) b→B.X σ M b:=by
  rintro b hlt (hb|⟨id,h1,h2⟩)
  ·exact .inl hb
  ·cases hi:L id with
   | some i =>
    rw [hM'1 hi] at h1
    rw [hσ1 hi] at h2
    rcases (hsimL.mine i b (renSome h1) h2).2 with ⟨j,_,h4,h5⟩|h3
    ·exact .inr ⟨j,h4,h5⟩
    ·exact absurd hlt (Nat.not_lt.2 h3)
   | none =>
    rw [hM'0 hi h1] at h1
    rw [hσ0 hi] at h2
    exact .inr ⟨id,h1,h2⟩
 have hkeep : ∀ b,b < w.heap.size→(∀ j,j∈js→M j≠none→σ j=some b→False)→w'.heap[b]? = w.heap[b]? := fun b hlt hb=>hsimL.kept.block b hlt fun ⟨j,h1,h2,h3⟩=>hb j h1 h2 h3
 have hF' : ∀ {id:Nat},F id→L id=none → ¬ (n≤id∧id < n+k):=fun {id} _ hi hx=>(hLn hi).2 ⟨hx.1,by omega⟩
 have tn:zde σ σ' M (zp u M) F (zbu F n k) (B.X σ M) (B.X σ' (zp u M)) w w':=by
  refine ⟨fun id ob hm=>?_,fun id hm hf=>?_,hsimL.kept.size,fun b hb hlt=>hkeep b hlt fun j _ h2 h3=>hb (.inr ⟨j,h2,h3⟩),hXm,fun id b c e h1 h2 hc=>?_⟩
  ·have hnF : ¬ zbu F n k id:=fun hf=>by rw [h.free _ hf.1] at hm;cases hm
   cases hi:L id with
   | some i =>
    have hmj:id∈js:=by
     simp only [L,zck] at hi
     split at hi
     ·rename_i h1;exact h1
     ·split at hi
      ·rename_i h2;rw [hFM (hnew h2.1 h2.2)] at hm;cases hm
      ·cases hi
    have hidx:js[i]? = some id:=by
     simp only [L,zck,if_pos hmj] at hi
     cases hi;exact zhk hmj
    have hi':=(List.getElem?_eq_some_iff.1 hidx).1
    obtain ⟨j',h1,h2⟩:=hobs i obs[i] (List.getElem?_eq_getElem (by omega))
    rw [hidx] at h1;cases h1
    rw [hm] at h2
    rcases hold i obs[i] (List.getElem?_eq_getElem (by omega)) with h3|⟨h3,ob',h4,h5⟩
    ·left;exact ⟨by rw [hM'1 hi,h3];rfl,hnF⟩
    ·right
     refine ⟨by rw [hσ1 hi,h3];simp [zR,hidx],?_⟩
     rw [hM'1 hi,h4]
     cases ob with
     | row s xs =>
      simp only [zbl] at h2
      rw [h2] at h5
      cases h5 with
      | row _ _ ys hl=>exact ⟨_,rfl,.row s xs ys hl⟩
     | box xs =>
      simp only [zbl] at h2
      obtain ⟨cs,h2,-⟩:=h2
      rw [h2] at h5
      cases h5 with
      | box _ ds=>exact ⟨_,rfl,.box _ _⟩
     | map es =>
      simp only [zbl] at h2
      rw [h2] at h5
      cases h5 with
      | map _ fs=>exact ⟨_,rfl,.map es fs⟩
     | iter=>exact h2.elim
     | todo=>exact h2.elim
   | none =>
    rw [hM' id,hi]
    simp only
    split
    ·exact .inl ⟨rfl,hnF⟩
    ·exact .inr ⟨hσ0 hi,ob,hm,zax h hm⟩
  ·cases hi:L id with
   | some i =>
    exfalso
    simp only [L,zck] at hi
    split at hi
    ·rename_i h1;exact hjM h1 hm
    ·split at hi
     ·rename_i h2;exact hf (hnew h2.1 h2.2)
     ·cases hi
   | none =>
    refine ⟨?_,fun h3=>hf h3.1⟩
    rw [hM' id,hi]
    simp only
    split
    ·rfl
    ·exact hm
  ·exact hsimL.kept.cells b c e hc
 have r1 : ∀ i,¬ (obs'.length≤i)→σ' (zaw js n i)=σL i:=fun i hi=>hσ1 (hlr (by omega))
 have r2 : ∀ i,¬ (obs'.length≤i)→zp u M (zaw js n i)=zdQ js n (zo obs' i):=fun i hi=>hM'1 (hlr (by omega))
 have r3 : ∀ i,¬ (obs'.length≤i) → ¬ zbu F n k (zaw js n i):=fun i hi hf=>by
  have hl:=hlr (show i < obs'.length by omega)
  have:L (zaw js n i)=some i:=hl
  simp only [L,zck] at this
  split at this
  ·rename_i h1;exact hjM h1 (hFM hf.1)
  ·split at this
   ·rename_i h2;exact hf.2 ⟨h2.1,by omega⟩
   ·cases this
 have r4 : ∀ i,obs'.length≤i→zo obs' i=none:=fun i hi=>by simp [zo,List.getD,hi]
 have rX:clean=true ∨ ∀ b,b < w'.heap.size→B.X σ' (zp u M) b→(zbB h js fz).X σL (zo obs') b:=by
  cases hcl:clean with
  | true=>exact .inl rfl
  | false =>
   right
   rintro b hlt (hb|⟨id,h1,h2⟩)
   ·exact .inl ⟨h.olt b hb,.inl hb⟩
   ·cases hi:L id with
    | some i =>
     rw [hM'1 hi] at h1
     rw [hσ1 hi] at h2
     exact .inr ⟨i,renSome h1,h2⟩
    | none =>
     have h3:=h1
     rw [hM' id,hi] at h3
     simp only at h3
     split at h3
     ·exact absurd rfl h3
     ·rename_i h4
      rw [hσ0 hi] at h2
      obtain ⟨o,hc⟩:=zaB h h3 h2
      exact .inl ⟨zi hc,.inr ⟨id,h3,h2,(hLn hi).1,fun hf=>h4 ⟨hcl,hf⟩⟩⟩
 refine ⟨v',w',σ',hcalls,?_,?_⟩
 ·refine h.step tn (fun id ob hm=>?_) (fun i j b h1 h2 h3 h4=>?_) (fun id b h1 h2=>?_) (fun id hf=>?_) ?_ (fun b hb=>hkeep b (h.olt b hb) fun j _ h2 h3=>(h.mine j b h2 h3).1 hb) (fun id l hm=>?_)
  rotate_left 5
  ·cases hi:L id with
   | some i =>
    have h1:=hM'1 hi
    rw [hm] at h1
    cases hob:zo obs' i with
    | none=>rw [hob] at h1;cases h1
    | some ob0=>rw [hob] at h1;cases ob0<;>cases h1
   | none =>
    have h1:=hM'0 hi (by rw [hm];simp)
    rw [hm] at h1
    exact h1.symm
  ·cases hi:L id with
   | some i =>
    right
    obtain ⟨hlt,hre⟩:=hL hi
    have h1:=hM'1 hi
    rw [hm] at h1
    cases hob:zo obs' i with
    | none=>rw [hob] at h1;cases h1
    | some ob0 =>
     rw [hob] at h1
     have:=zzj r1 r2 r3 r4 (X:=(zbB h js fz).X σL (zo obs')) (X':=B.X σ' (zp u M)) (w:=w') (i:=i) (ob:=ob0) (ob':=ob) (by
      rcases rX with hcl|hX
      ·have:=zrv (hc.fl hcl).2 i;rw [hob] at this;exact .inl this
      ·exact .inr hX) (by omega) h1.symm (hsimL.mem i ob0 hob)
     rwa [hre] at this
   | none =>
    left
    have h1:=hM'0 hi (by rw [hm];simp)
    rw [hm] at h1
    refine ⟨h1.symm,hσ0 hi,fun b hb=>?_⟩
    obtain ⟨o,hcb⟩:=zaB h (show M id≠none by rw [← h1];simp) hb
    exact hkeep b (zi hcb) fun j h3 h4 h5=>(hLn hi).1 (by have:=h.inj j id b h4 (by rw [← h1];simp) h5 hb;subst this;exact h3)
  ·
   have cross : ∀ {i j p b:Nat},L i=some p→L j=none→zp u M i≠none→zp u M j≠none→σ' i=some b→σ' j=some b→False:=by
    intro i j p b hi hj h1 h2 h3 h4
    rw [hM'1 hi] at h1
    rw [hσ1 hi] at h3
    have h5:=h2
    rw [hM'0 hj h2] at h5
    rw [hσ0 hj] at h4
    rcases (hsimL.mine p b (renSome h1) h3).2 with ⟨q,g1,g2,g3⟩|g1
    ·have:=h.inj q j b g2 h5 g3 h4
     subst this;exact (hLn hj).1 g1
    ·obtain ⟨o,hcb⟩:=zaB h h5 h4
     have:=zi hcb
     exact absurd this (Nat.not_lt.2 g1)
   cases hi:L i with
   | some p =>
    cases hj:L j with
    | some q =>
     rw [hM'1 hi] at h1;rw [hM'1 hj] at h2
     rw [hσ1 hi] at h3;rw [hσ1 hj] at h4
     have:=hsimL.inj p q b (renSome h1) (renSome h2) h3 h4
     subst this
     rw [← (hL hi).2,(hL hj).2]
    | none=>exact (cross hi hj h1 h2 h3 h4).elim
   | none =>
    cases hj:L j with
    | some q=>exact (cross hj hi h2 h1 h4 h3).elim
    | none =>
     have g1:=h1;have g2:=h2
     rw [hM'0 hi h1] at g1;rw [hM'0 hj h2] at g2
     rw [hσ0 hi] at h3;rw [hσ0 hj] at h4
     exact h.inj i j b g1 g2 h3 h4
  ·cases hi:L id with
   | some i =>
    rw [hM'1 hi] at h1
    rw [hσ1 hi] at h2
    obtain ⟨h3,h4⟩:=hsimL.mine i b (renSome h1) h2
    have hnO : ¬ B.O b:=fun hb=>h3 ⟨h.olt b hb,.inl hb⟩
    refine ⟨hnO,?_⟩
    rcases h4 with ⟨q,g1,g2,g3⟩|h4
    ·exact (h.mine q b g2 g3).2
    ·exact .inr (Nat.le_trans h.kept.size h4)
   | none =>
    have g1:=h1
    rw [hM'0 hi h1] at g1
    rw [hσ0 hi] at h2
    exact h.mine id b g1 h2
  ·cases hi:L id with
   | some i =>
    exfalso
    simp only [L,zck] at hi
    split at hi
    ·rename_i h1;exact hjM h1 (hFM hf.1)
    ·split at hi
     ·rename_i h2;exact hf.2 ⟨h2.1,by omega⟩
     ·cases hi
   | none =>
    rw [hM' id,hi]
    simp only
    split
    ·rfl
    ·exact hFM hf.1
  ·have kp:=hsimL.kept
   refine ⟨kp.os.trans h.kept.os,kp.tape.trans h.kept.tape,kp.output.trans h.kept.output,Nat.le_trans h.kept.size kp.size,fun b hlt hnr=>?_,fun b c e hcb=>?_⟩
   ·rw [hkeep b (Nat.lt_of_lt_of_le hlt h.kept.size) fun j h1 h2 h3=>by
     rcases (h.mine j b h2 h3).2 with h4|h4
     ·exact hnr h4
     ·omega]
    exact h.kept.block b hlt hnr
   ·obtain ⟨c1,h1,h2⟩:=h.kept.cells b c e hcb
    obtain ⟨c2,h3,h4⟩:=kp.cells b c1 e h1
    exact ⟨c2,h3,by omega⟩
 ·rw [hc.v]
  refine ztq r1 r2 r3 r4 20 _ _ ?_ hvL
  rcases rX with hcl|hX
  ·exact .inl ⟨20,(hc.fl hcl).1⟩
  ·exact .inr hX
end
end Go.Ab
namespace Go.Ab
open Go
def zaX:Nat→List V→Env
 | _,[]=>[]
 | i,v::r=>(i,v)::zaX (i+1) r
def zgQ:Nat→List (Option Ob)→Mem
 | _,[]=>[]
 | i,ob::r=>(i,ob)::zgQ (i+1) r
def zhC:Nat→List Ob→Mem
 | _,[]=>[]
 | i,ob::r=>(i,some ob)::zhC (i+1) r
def zxP (i:Nat):Ob→V
 | .row _ _ => .own i
 | .box _ => .ptr i 0
 | .map _ => .map i
 | _ => .undef
def zcw (g:Nat):Nat→List Ob→Env
 | _,[]=>[]
 | i,ob::r=>(g+i,zxP i ob)::zcw g (i+1) r
def zqO (ρ:Nat→V) (M:Nat→Option Ob):zgu→Option V
 | .tmp t=>some (ρ t)
 | .cell a g=>match ρ a with
  | .ptr id o=>match M id with
   | some (.box cs)=>match zaF cs o g with
    | .ok v _ _=>some v
    | _=>none
   | _=>none
  | _=>none
def zkJ (ρ:Nat→V) (M:Nat→Option Ob):List zgu→Option (List V)
 | []=>some []
 | r::rs=>match zqO ρ M r,zkJ ρ M rs with
  | some v,some l=>some (v::l)
  | _,_=>none
def zmZ (res:List zgu) (ρ:Nat→V) (M:Nat→Option Ob):Option V :=
 match zkJ ρ M res with
 | some [v]=>some v
 | some l=>some (.tup l)
 | none=>none
def zkX (r:List (Nat×Nat)) (nl:List Nat) (env:Env) (obs':List (Option Ob)):Nat→List Ob→Prop
 | _,[]=>True
 | i,ob::rest=>(match obs'.getD i none with
   | none=>True
   | some (.row s _)=>(match ob with | .row s' _=>s'=s|_=>False)∧VLe r nl 30 (.own i) (env.get (zf+i))
   | some (.box _)=>(match ob with | .box _=>True|_=>False)∧VLe r nl 30 (.ptr i 0) (env.get (zf+i))
   | some (.map _)=>(match ob with | .map _=>True|_=>False)∧VLe r nl 30 (.map i) (env.get (zf+i))
   | some _=>False)∧zkX r nl env obs' (i+1) rest
def zna (mem:Mem) (r:List (Nat×Nat)) (v x:V):Prop := ∃ y,v = .d y∧x.freeze mem.get true 20=some y∧zdw (V.reach mem.get 20 x) (r.map Prod.snd)=true
structure zm9 (obs:List Ob) (env:Env) (mem:Mem) (n:Nat) (x v:V) (obs':List (Option Ob)) (r:List (Nat×Nat)) (nl:List Nat):Prop where
 v:VLe r nl 30 v x∨zna mem r v x ∨ ∃ vs xs,v = .tup vs∧x = .tup xs∧vs.length=xs.length ∧ ∀ i,i < vs.length→VLe r nl 30 (vs.getD i .undef) (xs.getD i .undef)∨zna mem r (vs.getD i .undef) (xs.getD i .undef)
 le:Le [] mem n [] (zgQ 0 obs') obs'.length r nl
 gh:zkX r nl env obs' 0 obs
def zrw (c:CFn) (obs:List Ob) (v:V) (obs':List (Option Ob)):zaa:=fun e env mem n =>
 (match e with | .exit _=>False|_=>True) ∧ ∃ x r nl,zmZ c.res env.get mem.get=some x∧zm9 obs env mem n x v obs' r nl
theorem zlC : ∀ (vs:List V) (i t:Nat),(zaX i vs).get t=if i≤t∧t < i+vs.length then vs.getD (t - i) .undef else .undef
 | [],i,t=>by simp only [zaX,Env.get];split<;>simp
 | v::r,i,t=>by
  simp only [zaX,Env.get]
  cases hb:Nat.beq i t with
  | true =>
   have:=Nat.eq_of_beq_eq_true hb
   subst this
   simp
  | false =>
   have hne:i≠t:=fun e=>by subst e;simp at hb
   simp only [cond_false]
   rw [zlC r (i+1) t]
   by_cases h1:i≤t∧t < i+(v::r).length
   ·rw [if_pos h1,if_pos (by simp at h1;omega),show t - i=t - (i+1)+1 by omega]
    simp
   ·rw [if_neg h1,if_neg (by simp at h1;omega)]
theorem zkp (g:Nat) : ∀ (obs:List Ob) (i t:Nat),(zcw g i obs).get t=if g+i≤t∧t < g+i+obs.length then (match obs[t - g - i]? with|some ob=>zxP (t - g) ob|none => .undef) else .undef
 | [],i,t=>by simp only [zcw,Env.get];split<;>simp
 | ob::r,i,t=>by
  simp only [zcw,Env.get]
  cases hb:Nat.beq (g+i) t with
  | true =>
   have:=Nat.eq_of_beq_eq_true hb
   subst this
   simp
  | false =>
   have hne:g+i≠t:=fun e=>by subst e;simp at hb
   simp only [cond_false]
   rw [zkp g r (i+1) t]
   by_cases h1:g+i≤t∧t < g+i+(ob::r).length
   ·rw [if_pos h1,if_pos (by simp at h1;omega),show t - g - i=t - g - (i+1)+1 by omega]
    simp
   ·rw [if_neg h1,if_neg (by simp at h1;omega)]
theorem zrV : ∀ (obs:List (Option Ob)) (i t:Nat),(zgQ i obs).get t=if i≤t then obs.getD (t - i) none else none
 | [],i,t=>by simp only [zgQ,Mem.get];split<;>simp
 | ob::r,i,t=>by
  simp only [zgQ,Mem.get]
  cases hb:Nat.beq i t with
  | true =>
   have:=Nat.eq_of_beq_eq_true hb
   subst this
   simp
  | false =>
   have hne:i≠t:=fun e=>by subst e;simp at hb
   simp only [cond_false]
   rw [zrV r (i+1) t]
   by_cases h1:i≤t
   ·rw [if_pos h1,if_pos (by omega),show t - i=t - (i+1)+1 by omega]
    simp
   ·rw [if_neg h1,if_neg (by omega)]
theorem zpU (obs:List (Option Ob)):(zgQ 0 obs).get=zo obs:=by
 funext t;rw [zrV];simp [zo]
theorem zpV : ∀ (obs:List Ob) (i:Nat),zhC i obs=zgQ i (obs.map some)
 | [],i=>rfl
 | ob::r,i=>by simp only [zhC,zgQ,List.map_cons,zpV r (i+1)]
theorem znD : ∀ (l m:Env) (t:Nat),Env.get (l++m) t=if (∃ p∈l,p.1=t) then Env.get l t else Env.get m t
 | [],m,t=>by simp
 | (k,v)::r,m,t=>by
  show cond (Nat.beq k t) v (Env.get (r++m) t)=_
  cases hb:Nat.beq k t with
  | true =>
   have:=Nat.eq_of_beq_eq_true hb
   subst this
   rw [if_pos ⟨(k,v),by simp,rfl⟩]
   simp [Env.get]
  | false =>
   have hne:k≠t:=fun e=>by subst e;simp at hb
   rw [cond_false,znD r m t]
   simp only [Env.get,hb,cond_false]
   by_cases h : ∃ p∈r,p.1=t
   ·obtain ⟨p,h1,h2⟩:=h
    rw [if_pos ⟨p,h1,h2⟩,if_pos ⟨p,by simp [h1],h2⟩]
   ·rw [if_neg h,if_neg]
    rintro ⟨p,h1,h2⟩
    rcases List.mem_cons.1 h1 with rfl|h1
    ·exact hne h2
    ·exact h ⟨p,h1,h2⟩
def ziy (tmps:Array Value):ResultVar→Sem Value
 | .tmp t=>pure (tmps.getD t undef)
 | .cell a t=>do loadVar t (← asAddr (tmps.getD a undef))
theorem zup (fn:Func) (tmps:Array Value):results fn tmps=(do
  let vs ← fn.results.mapM (ziy tmps)
  pure (if h:vs.size=1 then vs[0] else .tuple vs)):=by
 unfold results
 congr 1
section
variable {P:Program} {B:zq} {ρ:Nat→V} {M:Nat→Option Ob} {F:Nat→Prop} {σ:Nat→Option Nat} {a:Act} {w:World}
theorem zvD (h:Sim B ρ M F σ a w) {r:ResultVar} {c:zgu} {v:V} (hc:zgf P r=some c) (hv:zqO ρ M c=some v) :
  ∃ v',(ziy a.tmps r).run P w = .ok v' w∧VSim σ M F (B.X σ M) w v v':=by
 cases r with
 | tmp t =>
  simp only [zgf] at hc
  cases hb:Nat.blt t zf with
  | false=>rw [hb] at hc;cases hc
  | true =>
   rw [hb] at hc;cases hc
   simp only [zqO,Option.some.injEq] at hv
   subst hv
   have hlt:t < zf:=of_decide_eq_true (by simpa [Nat.blt_eq] using hb)
   have:=h.env t
   simp only [zq.look,if_pos hlt] at this
   exact ⟨_,rfl,this⟩
 | cell x t =>
  simp only [zgf] at hc
  cases hb:Nat.blt x zf with
  | false=>rw [hb] at hc;cases hc
  | true =>
   rw [hb] at hc
   simp only [cond_true,Option.map_eq_some_iff] at hc
   obtain ⟨g,hg,rfl⟩:=hc
   have hlt:x < zf:=of_decide_eq_true (by simpa [Nat.blt_eq] using hb)
   have hx:=h.env x
   simp only [zq.look,if_pos hlt] at hx
   simp only [zqO] at hv
   split at hv
   ·rename_i id o he
    split at hv
    ·rename_i cs hm
     split at hv
     ·rename_i v0 u0 k0 hge
      cases hv
      rw [he] at hx
      simp only [ziy]
      generalize a.tmps.getD x undef=ax at hx ⊢
      cases hx with
      | ptrDead _ _ ad h1 h2=>rw [hm] at h1;cases h1
      | ptr _ _ cs' b h1 h2 =>
       rw [hm] at h1;cases h1
       obtain ⟨c,e,h3,h4,h5,h6⟩:=zeW h hm h2
       obtain ⟨-,-,v',hr,hv⟩:=zrT (P:=P) (C:=fun _ _ _ _ _ _ _=>False) (M:=M) (n:=0) (v:=v) (u:=u0) (k:=k0) hg h3 h4 h5 h6 (by rw [hge];exact ⟨rfl,rfl,rfl⟩)
       exact ⟨v',by simp only [asAddr,Sem.run_bind,Sem.run_pure,Result.andThen_ok,hr],hv⟩
     ·cases hv
    ·cases hv
   ·cases hv
theorem zoj (h:Sim B ρ M F σ a w) : ∀ (rs:List ResultVar) (cs:List zgu) (vs:List V),rs.length=cs.length→(∀ i (h1:i < rs.length) (h2:i < cs.length),zgf P rs[i]=some cs[i])→zkJ ρ M cs=some vs →
  ∃ us:List Value,(rs.mapM (m:=Sem) (ziy a.tmps)).run P w = .ok us w ∧
   us.length=vs.length ∧ ∀ i,i < vs.length→VSim σ M F (B.X σ M) w (vs.getD i .undef) (us.getD i undef)
 | [],[],vs,_,_,hv=>by cases hv;exact ⟨[],rfl,rfl,fun i hi=>by simp at hi⟩
 | [],c::cs,vs,hl,_,_=>by simp at hl
 | r::rs,[],vs,hl,_,_=>by simp at hl
 | r::rs,c::cs,vs,hl,hc,hv=>by
  simp only [zkJ] at hv
  split at hv
  ·rename_i v l h1 h2
   cases hv
   obtain ⟨v',g1,g2⟩:=zvD h (hc 0 (by simp) (by simp)) h1
   obtain ⟨us,g3,g4,g5⟩:=zoj h rs cs l (by simpa using hl) (fun i h3 h4=>hc (i+1) (by simp;omega) (by simp;omega)) h2
   refine ⟨v'::us,?_,by simp [g4],fun i hi=>?_⟩
   ·simp only [List.mapM_cons,Sem.run_bind]
    have g1':(ziy a.tmps r).run P w = .ok v' w:=g1
    rw [g1']
    simp only [Result.andThen_ok]
    rw [g3]
    rfl
   ·cases i with
    | zero=>simpa using g2
    | succ i=>simpa using g5 i (by simpa using hi)
  ·cases hv
end
end Go.Ab
namespace Go.Ab
open Go
theorem zgX {P:Program} : ∀ (Ds:List Nat) (fr:Frame) (cs:List Frame) (w:World),fr.mode = .returning→fr.defers=Ds.map zbU→Ds.Nodup→(∀ D∈Ds,w.heap[D]? = some (.deferred (some []))) →
  ∃ w',Steps P (lone fr cs w) (lone { fr with defers:=[] } cs w')∧za0 w w'∧w'.heap.size=w.heap.size ∧ ∀ b,b ∉ Ds→w'.heap[b]? = w.heap[b]?
 | [],fr,cs,w,hm,hd,_,_=>by
  refine ⟨w,?_,⟨rfl,rfl,rfl⟩,rfl,fun _ _=>rfl⟩
  have:fr = { fr with defers:=[] } := by cases fr;simp at hd;subst hd;rfl
  rw [← this]
  exact .refl _ _
 | D::Ds,fr,cs,w,hm,hd,hnd,hh=>by
  have hD:=hh D (by simp)
  have hstep:=step_collected (P:=P) (fr:=fr) (cs:=cs) (w:=w) (d:=zbU D) (r:=D) (ds:=Ds.map zbU) (calls:=[]) (by rw [hm];simp) (by simpa using hd) rfl (run_takeDeferred hD)
  rw [List.nodup_cons] at hnd
  obtain ⟨w',h1,h2,h3,h4⟩:=zgX Ds { fr with defers:=[]++Ds.map zbU } cs (w.putObj D (.deferred none)) hm rfl hnd.2 (fun D' hD'=>by
   rw [World.putObj_heap_other (show D'≠D from fun e=>hnd.1 (by rw [← e];exact hD'))];exact hh D' (by simp [hD']))
  refine ⟨w',.head hstep h1,⟨h2.os,h2.tape,h2.output⟩,by rw [h3];simp,fun b hb=>?_⟩
  simp only [List.mem_cons,not_or] at hb
  rw [h4 b hb.2,World.putObj_heap_other hb.1]
section
variable {B B':zq} {ρ:Nat→V} {M:Nat→Option Ob} {F:Nat→Prop} {σ:Nat→Option Nat} {a a':Act} {w w':World}
theorem Sim.less (ht:zaW B) (h:Sim B' ρ M F σ a w) (h0:B'.w0=B.w0) (hR:B'.R=B.R) (hnt:B'.nt=B.nt) (hg:B'.ghost=B.ghost) (hO : ∀ b,B.O b→B'.O b) (ha:a'.tmps=a.tmps) (hdf:a'.defers=B.dfr)
  (hs:za0 w w') (hsz:w'.heap.size=w.heap.size) (hh : ∀ b,¬ (B'.O b∧B.w0.heap.size≤b)→w'.heap[b]? = w.heap[b]?) (hp : ∀ b o,B.pin b o→w'.heap[b]? = some o):Sim B ρ M F σ a' w':=by
 have hmine:=h.mine
 have same : ∀ b,¬ B'.O b→w'.heap[b]? = w.heap[b]? := fun b hb=>hh b fun hx=>hb hx.1
 have t:zde σ σ M M F F (B'.X σ M) (B.X σ M) w w':=by
  refine ⟨fun id ob hi => .inr ⟨rfl,ob,hi,zax h hi⟩,fun id h1 h2=>⟨h1,h2⟩,by rw [hsz];exact Nat.le_refl _,fun b hb _=>same b fun hx=>hb (.inl hx),fun b _ hb=>?_,fun id b c e h1 h2 hc=>⟨c,by rw [same b (hmine id b h1 h2).1];exact hc,rfl⟩⟩
  rcases hb with hb|hb
  ·exact .inl (hO b hb)
  ·exact .inr hb
 have hlook : ∀ t,B.look a' t=B'.look a t:=fun t=>by simp only [zq.look,hg,ha]
 refine ⟨fun x=>by rw [hlook];exact (h.env x).turn t,fun id ob hi=>(h.mem id ob hi).turn t rfl fun b hb=>same b (hmine id b (by simp [hi]) hb).1,h.inj,fun id b h1 h2=>?_,h.free,?_,⟨by rw [ha,h.nt.1,hnt],hdf⟩,fun b hb=>?_,hp,fun id l hl=>ht _ _ _ _⟩
 ·obtain ⟨g1,g2⟩:=hmine id b h1 h2
  exact ⟨fun hb=>g1 (hO b hb),by rw [← h0,← hR];exact g2⟩
 ·have k:=h.kept
  rw [h0,hR] at k
  refine ⟨hs.os.trans k.os,hs.tape.trans k.tape,hs.output.trans k.output,by rw [hsz];exact k.size,fun b hb hr=>?_,fun b c e hc=>?_⟩
  ·rw [hh b (fun hx=>by omega)];exact k.block b hb hr
  ·obtain ⟨c',h1,h2⟩:=k.cells b c e hc
   exact ⟨c',by rw [hh b (fun hx=>by have:=zi hc;omega)];exact h1,h2⟩
 ·rw [hsz];exact h.olt b (hO b hb)
end
end Go.Ab
namespace Go.Ab
open Go
def zfL (obs:List Ob) (xs:Option (List (List D))):Nat→Option Ob:=zo (obs.map some++[some (.todo xs)])
def ItF (P:Program) (T:Nat→Obj→Prop) (fin:Bool) (f:Nat) (vs:List V) (obs:List Ob) (xs:List (List D)):Prop :=
 zct P f ∧ ∀ (B:zq) (σ:Nat→Option Nat) (a:Act) (w:World) (args:Array Value) (l:Nat),Has T B→zgd P B.w0 B.R B.pin B.inv l→(fin=false → ∀ O Z w,¬ B.inv O Z (some []) w) →
  Sim B (fun _ => .undef) (zfL obs (some xs)) (fun i=>obs.length+1≤i) σ a w→args.size=vs.length →
  (∀ i,i < vs.length→VSim σ (zfL obs (some xs)) (fun i=>obs.length+1≤i) (B.X σ (zfL obs (some xs))) w (vs.getD i .undef) (args.getD i undef)) →
  ∀ cs,∃ v' w',zeU P cs f (#[.func (.yield l) #[] #[]]++args) w v' w' ∧ ∃ O' Z' l',(l'=some []∨l'=none)∧B.inv O' Z' l' w'
abbrev It (P:Program) (T:Nat→Obj→Prop) (f:Nat) (vs:List V) (obs:List Ob) (xs:List (List D)):Prop:=ItF P T true f vs obs xs
structure zyH (P:Program) (T:Nat→Obj→Prop) (M:Nat→Option Ob) (g:Nat) (cs:List V) (xs:List (List D)) (u:Upd) (fin:Bool) (js fz:List Nat) (lvs:List V) (obs:List Ob):Prop where
 it:ItF P T fin g lvs obs xs
 args:VPasses M js fz 20 lvs cs
 objs:zaD M js fz obs js
 nd:nodup js=true
 dj:zdw fz js=true
 u:u=zfj js++zfj fz
def ziJ (P:Program) (T:Nat→Obj→Prop):zb8:=fun M n g cs xs u fin => ∃ js fz lvs obs,zyH P T M g cs xs u fin js fz lvs obs
theorem zgd.more {P:Program} {w0:World} {R R':Nat→Prop} {pin:Nat→Obj→Prop} {J:Inv} {l:Nat} (h:zgd P w0 R pin J l) (hR : ∀ b,R b→R' b):zgd P w0 R' pin J l:=by
 intro O Z x rest w args h1 h2 h3 h4 h5 h6 cs
 obtain ⟨b,w',k1,k2,k3,k4,k5,k6⟩:=h O Z x rest w args h1 h2 h3 h4 h5 h6 cs
 exact ⟨b,w',k1,k2,k3,k4,fun k hk hn=>k5 k hk fun h=>hn (hR k h),k6⟩
theorem zdC {obs:List Ob} {xs:Option (List (List D))} {i:Nat} : zfL obs xs i=if i=obs.length then some (.todo xs) else zo (obs.map some) i:=by
 unfold zfL zo
 by_cases h:i=obs.length
 ·subst h;simp [List.getD]
 ·rw [if_neg h]
  by_cases hlt:i < obs.length
  ·simp [List.getD,List.getElem?_append_left (show i < (obs.map some).length by simpa using hlt)]
  ·simp [List.getD,List.getElem?_eq_none (show (obs.map some++[some (Ob.todo xs)]).length≤i by simp;omega),List.getElem?_eq_none (show obs.length≤i by omega)]
set_option maxHeartbeats 1000000 in
theorem zsP {P:Program} {T:Nat→Obj→Prop} (B:zq) (hT:Has T B):zjO P B (ziJ P T):=by
 rintro ρ M F σ a w n g cs xs u fin caps h ⟨js,fz,lvs,obs,hc⟩ hsz hcaps
 obtain ⟨hcallable,hit⟩:=hc.it
 have hdj : ∀ i∈fz,i ∉ js:=zep hc.dj
 obtain ⟨hlen,hobs⟩:=zcQ hc.objs
 obtain ⟨hal,hav⟩:=zeO hc.args
 have hu : ∀ p∈u,p.2=none:=by
  intro p hp
  rw [hc.u] at hp
  obtain ⟨j,x⟩:=p
  rcases List.mem_append.1 hp with hp|hp
  ·exact ((zcU js j x).1 hp).2
  ·exact ((zcU fz j x).1 hp).2
 have hin : ∀ id,id∈u.map Prod.fst↔id∈js∨id∈fz:=by
  intro id
  rw [hc.u]
  simp only [List.map_append,List.mem_append,List.mem_map]
  constructor
  ·rintro (⟨⟨j,x⟩,hp,rfl⟩|⟨⟨j,x⟩,hp,rfl⟩)
   ·exact .inl ((zcU js j x).1 hp).1
   ·exact .inr ((zcU fz j x).1 hp).1
  ·rintro (hj|hj)
   ·exact .inl ⟨(id,none),(zcU js id none).2 ⟨hj,rfl⟩,rfl⟩
   ·exact .inr ⟨(id,none),(zcU fz id none).2 ⟨hj,rfl⟩,rfl⟩
 have hM1 : ∀ {id},zp u M id≠none→zp u M id=M id∧id ∉ js∧id ∉ fz:=by
  intro id h1
  by_cases hm:id∈u.map Prod.fst
  ·exact absurd (zkU u M id hu hm) h1
  ·refine ⟨zaL u M id hm,fun hj=>hm ((hin id).2 (.inl hj)),fun hj=>hm ((hin id).2 (.inr hj))⟩
 have hblk : ∀ {id b:Nat},M id≠none→σ id=some b→b < w.heap.size:=fun h1 h2=>by obtain ⟨o,ho⟩:=zaB h h1 h2;exact zi ho
 have hjM : ∀ {i j:Nat},js[i]? = some j→M j≠none:=by
  intro i j hj
  have hi:=(List.getElem?_eq_some_iff.1 hj).1
  obtain ⟨j',h1,h2⟩:=hobs i obs[i] (List.getElem?_eq_getElem (by omega))
  rw [hj] at h1;cases h1
  exact zdE h2
 refine ⟨hcallable,hu,(zbB h js fz).O,fun b => ∃ id,id∈js∧M id≠none∧σ id=some b,fun b ⟨id,h1,h2,h3⟩=>⟨⟨id,h2,h3⟩,fun ⟨id',h4,h5⟩=>?_⟩,fun b hb=>?_,fun b hb=>⟨hb.1,fun ⟨id,h1,h2,h3⟩=>?_⟩,?_⟩
 ·obtain ⟨e,h6,-⟩:=hM1 h4
  rw [e] at h4
  have:=h.inj id id' b h2 h4 h3 h5
  subst this;exact h6 h1
 ·rcases hb with ⟨id,h1,h2⟩|hb
  ·obtain ⟨e,h3,h4⟩:=hM1 h1
   rw [e] at h1
   exact ⟨hblk h1 h2,.inr ⟨id,h1,h2,h3,h4⟩⟩
  ·exact ⟨h.olt b hb,.inl hb⟩
 ·rcases hb.2 with hb|⟨id',h4,h5,h6,h7⟩
  ·exact (h.mine id b h2 h3).1 hb
  ·have:=h.inj id id' b h2 h4 h3 h5
   subst this;exact h6 h1
 ·intro w1 l J hJ hss hsz1 hold hJ0 hround hfin cs'
  have hcs:=znz h hc.objs hdj hc.nd
  let Bi:zq :=
   {w0:=w1,O:=fun b=>(zbB h js fz).O b∨(w.heap.size≤b∧b < w1.heap.size),R:=fun b=>((zbB h js fz).O b∨(w.heap.size≤b∧b < w1.heap.size)) ∨ ∃ id,id∈js∧M id≠none∧σ id=some b,
    nt:=B.nt,pin:=B.pin,pinO:=fun b o hp => .inl ((zbB h js fz).pinO b o hp),ghost:=fun _=>undef,small:=B.small,dfr:=B.dfr,inv:=J,stab:=hJ.stab,mono:=hJ.mono }
  have hX : ∀ b,b < w.heap.size→Bi.X (zR js σ) (zfL obs (some xs)) b→(zbB h js fz).X (zR js σ) (zo (obs.map some)) b:=by
   rintro b hlt ((hb|hb)|⟨id,h1,h2⟩)
   ·exact .inl hb
   ·omega
   ·refine .inr ⟨id,?_,h2⟩
    rw [zdC] at h1
    split at h1
    ·rename_i e
     subst e
     simp [zR,List.getElem?_eq_none (show js.length≤obs.length by omega)] at h2
    ·exact h1
  have hnl:zR js σ obs.length=none:=by simp [zR,List.getElem?_eq_none (show js.length≤obs.length by omega)]
  have tn:zde (zR js σ) (zR js σ) (zo (obs.map some)) (zfL obs (some xs)) (fun i=>obs.length≤i) (fun i=>obs.length+1≤i) ((zbB h js fz).X (zR js σ) (zo (obs.map some))) (Bi.X (zR js σ) (zfL obs (some xs))) w w1:=by
   refine ⟨fun id ob hi => .inr ⟨rfl,ob,?_,zbz.refl ob⟩,fun id h1 h2=>?_,hsz1,fun b _ hlt=>hold b hlt,hX,fun id b c e _ _ hcb=>⟨c,by rw [hold b (zi hcb)];exact hcb,rfl⟩⟩
   ·rw [zdC,if_neg]
    ·exact hi
    ·intro e;subst e;simp [zo,List.getD] at hi
   ·simp only [Nat.not_le] at h2
    refine ⟨?_,by simp only [Nat.not_le];omega⟩
    rw [zdC,if_neg (by omega)];exact h1
  have hownZ:own (zR js σ) (zfL obs (some xs))=fun b => ∃ id,id∈js∧M id≠none∧σ id=some b:=by
   funext b
   apply propext
   constructor
   ·rintro ⟨i,h1,h2⟩
    unfold zR at h2
    obtain ⟨j,h3,h4⟩:=Option.bind_eq_some_iff.1 h2
    exact ⟨j,List.mem_of_getElem? h3,hjM h3,h4⟩
   ·rintro ⟨j,h1,h2,h3⟩
    obtain ⟨i,hi,he⟩:=List.getElem_of_mem h1
    refine ⟨i,?_,by simp [zR,List.getElem?_eq_getElem hi,he,h3]⟩
    rw [zdC,if_neg (by omega)]
    simp [zo,List.getD,show i < obs.length by omega]
  have hsim:Sim Bi (fun _ => .undef) (zfL obs (some xs)) (fun i=>obs.length+1≤i) (zR js σ) a w1:=by
   refine ⟨fun t => .undef _,fun id ob hi=>?_,fun i j b h1 h2 h3 h4=>?_,fun id b h1 h2=>?_,fun i hi=>?_,⟨rfl,rfl,rfl,Nat.le_refl _,fun _ _ _=>rfl,fun b c e hcb=>⟨c,hcb,rfl⟩⟩,hcs.nt,fun b hb=>?_,fun b o hp=>?_,fun id l hl=>?_⟩
   ·rw [zdC] at hi
    split at hi
    ·rename_i e;cases hi;rw [e];exact .todo _ hnl
    ·exact (hcs.mem id ob hi).turn tn rfl fun b hb=>hold b (by obtain ⟨o,ho⟩:=zaB hcs (show zo (obs.map some) id≠none by rw [hi];simp) hb;exact zi ho)
   ·have g : ∀ {i b},zfL obs (some xs) i≠none→zR js σ i=some b→zo (obs.map some) i≠none:=by
     intro i b h1 h2
     rw [zdC] at h1
     split at h1
     ·rename_i e;rw [e,hnl] at h2;cases h2
     ·exact h1
    exact hcs.inj i j b (g h1 h3) (g h2 h4) h3 h4
   ·have hZ:(own (zR js σ) (zfL obs (some xs))) b:=⟨id,h1,h2⟩
    rw [hownZ] at hZ
    obtain ⟨j,g1,g2,g3⟩:=hZ
    refine ⟨fun hb=>?_,.inl (.inr ⟨j,g1,g2,g3⟩)⟩
    have:=hblk g2 g3
    rcases hb with hb|hb
    ·rcases hb.2 with hb|⟨id',h4,h5,h6,h7⟩
     ·exact (h.mine j b g2 g3).1 hb
     ·have:=h.inj j id' b g2 h4 g3 h5
      subst this;exact h6 g1
    ·omega
   ·rw [zdC,if_neg (by omega)]
    simp [zo,List.getD,List.getElem?_eq_none (show obs.length≤i by omega)]
   ·rcases hb with hb|hb
    ·have:=hb.1;omega
    ·exact hb.2
   ·have:=h.pins b o hp
    rw [hold b (zi this)];exact this
   ·rw [zdC] at hl
    split at hl
    ·cases hl;rw [hownZ];exact hJ0
    ·rename_i hne
     cases hcs.mem id _ hl with
     | todo =>
      exfalso
      obtain ⟨j,hj,hp⟩:=hobs id _ (zfC hl)
      cases hm:M j with
      | none=>rw [hm] at hp;exact hp
      | some ob=>rw [hm] at hp;cases ob<;>simp [zbl] at hp
  exact hit Bi (zR js σ) a w1 caps l hT (hround.more fun b hb => .inl hb) hfin hsim (by omega) (fun i hi=>by
   obtain ⟨k',-,hp⟩:=hav i hi
   exact (zmU h hc.objs hdj k' _ _ _ hp (hcaps i (by omega))).turn tn) cs'
end Go.Ab
namespace Go.Ab
open Go
theorem go_end {P:Program} {b:FB} {a:Act} {cs:List Frame} {w:World} (hb:b.rnd=none):step P (lone (b.at a []) cs w) = .next (lone { b.at a [] with mode := .returning } cs w) :=
 step_lone_go (by simp [stepG,stepG.exec,FB.at,hb])
theorem go_ret {P:Program} {b:FB} {a:Act} {k:List Item} {cs:List Frame} {w:World} (hb:b.rnd=none):step P (lone (b.at a (.code .ret::k)) cs w) = .next (lone { b.at a (.code .ret::k) with mode := .returning } cs w) :=
 step_lone_go (by simp [stepG,stepG.exec,FB.at,hb])
def zei (obs:List Ob) (σ:Nat→Option Nat) (t:Nat):Value :=
 match obs[t]?,σ t with
 | some (.row _ xs),some b => .slice (some ⟨b,0,none⟩) xs.length xs.length
 | some (.row _ _),none => .slice none 0 0
 | some (.box _),some b => .pointer (some ⟨b,0,none⟩)
 | some (.map _),some b => .map (some b)
 | _,_=>undef
theorem ztQ {P:Program} {f:Nat} {c:CFn} (h:zm P f=some c) :
  ∃ fn body,P.funcs[f]? = some fn∧fn.body=some body∧(fn.name == "runtime.NumGoroutine")=false∧fn.ntmps=c.ntmps∧c.ntmps≤zf∧comp P c.ntmps body=some c.body∧fn.results.toList.mapM (zgf P)=some c.res:=by
 unfold zm at h
 split at h
 ·rename_i fn hfn
  split at h
  ·rename_i b res hb hres
   split at h
   ·rename_i cc hcc
    cases hcond:(fn.name != "runtime.NumGoroutine" && Nat.ble fn.ntmps zf) with
    | false=>rw [hcond] at h;cases h
    | true =>
     rw [hcond] at h
     cases h
     rw [Bool.and_eq_true] at hcond
     exact ⟨fn,b,hfn,hb,by simpa [bne] using hcond.1,rfl,Nat.le_of_ble_eq_true hcond.2,hcc,hres⟩
   ·cases h
  ·cases h
 ·cases h
section
variable {P:Program} {T:Nat→Obj→Prop}
def zkZ (B:zq) (nt:Nat) (hnt:nt≤zf) (obs:List Ob) (σ:Nat→Option Nat):zq := { B with nt:=nt,ghost:=zei obs σ,small:=hnt,dfr:=[] }
theorem zv4 {B:zq} {σ:Nat→Option Nat} {a:Act} {w:World} {nt:Nat} (hsm:nt≤zf) {vs:List V} {obs:List Ob} {args:Array Value} (hlen:vs.length≤nt)
  (hsim:Sim B (fun _ => .undef) (zo (obs.map some)) (fun i=>obs.length≤i) σ a w) (hsz:args.size=vs.length)
  (hargs : ∀ i,i < vs.length→VSim σ (zo (obs.map some)) (fun i=>obs.length≤i) (B.X σ (zo (obs.map some))) w (vs.getD i .undef) (args.getD i undef)) :
  Sim (zkZ B nt hsm obs σ) (zaX 0 vs++zcw zf 0 obs).get (zhC 0 obs).get (fun i=>obs.length≤i) σ { tmps:=args++Array.replicate (nt - args.size) undef,defers:=[] } w:=by
 have hget:(zhC 0 obs).get=zo (obs.map some):=by rw [zpV,zpU]
 rw [hget]
 refine ⟨fun t=>?_,hsim.mem,hsim.inj,hsim.mine,hsim.free,hsim.kept,⟨by simp [zkZ];omega,rfl⟩,hsim.olt,hsim.pins,hsim.todo⟩
 rw [znD]
 by_cases ht:t < vs.length
 ·have hlt:t < zf:=by omega
  rw [if_pos]
  ·rw [zlC,if_pos (by omega)]
   simp only [zq.look,if_pos hlt]
   have:=hargs t ht
   rw [Nat.sub_zero]
   rwa [show (args++Array.replicate (nt - args.size) undef).getD t undef=args.getD t undef by
    simp only [Array.getD_eq_getD_getElem?]
    rw [Array.getElem?_append_left (by omega)]]
  ·have : ∀ (vs:List V) (i t:Nat),i≤t→t < i+vs.length → ∃ p∈zaX i vs,p.1=t:=by
    intro vs
    induction vs with
    | nil=>intro i t h1 h2;simp at h2;omega
    | cons v r ih =>
     intro i t h1 h2
     by_cases e:i=t
     ·exact ⟨(i,v),by simp [zaX],e⟩
     ·obtain ⟨p,h3,h4⟩:=ih (i+1) t (by omega) (by simp at h2;omega)
      exact ⟨p,by simp [zaX,h3],h4⟩
   exact this vs 0 t (Nat.zero_le _) (by omega)
 ·rw [if_neg]
  ·rw [zkp]
   by_cases hg:zf+0≤t∧t < zf+0+obs.length
   ·rw [if_pos hg]
    have hng : ¬ t < zf:=by omega
    simp only [zq.look,if_neg hng,zkZ,Nat.sub_zero]
    have hi:t - zf < obs.length:=by omega
    rw [List.getElem?_eq_getElem hi]
    simp only
    have hob:=zkR (List.getElem?_eq_getElem hi)
    have hs:=hsim.mem _ _ hob
    simp only [zei,List.getElem?_eq_getElem hi]
    generalize obs[t - zf]=ob at hob hs
    cases hs with
    | nilrow s h1=>rw [h1];exact .ownNil _ s hob h1
    | row s xs b c e h1 h2 h3 h4 h5 h6=>rw [h1];exact .own _ s xs b xs.length c e hob h1 h2 (Nat.le_refl _) h3
    | box cs b c e h1 h2 h3 h4 h5=>rw [h1];exact .ptr _ 0 cs b hob h1
    | map es b ents clock h1=>rw [h1];exact .map _ es b hob h1
    | iterNil=>exact .undef _
    | iter=>exact .undef _
    | todo=>exact .undef _
   ·rw [if_neg hg];exact .undef _
  ·rintro ⟨p,h1,h2⟩
   have : ∀ (vs:List V) (i:Nat) (p:Nat×V),p∈zaX i vs→p.1 < i+vs.length:=by
    intro vs
    induction vs with
    | nil=>intro i p h;simp [zaX] at h
    | cons v r ih =>
     intro i p h
     simp only [zaX,List.mem_cons] at h
     rcases h with rfl|h
     ·simp
     ·have:=ih (i+1) p h;simp;omega
   have:=this vs 0 p h1
   omega
set_option maxHeartbeats 1000000 in
theorem zmz (hm:P.follows .mixedOrders=true) {f:Nat} {c:CFn} (hc:zm P f=some c) {vs:List V} {obs:List Ob} {v:V} {obs':List (Option Ob)} (hlen:vs.length≤c.ntmps)
  (Q:zaa) (hQ : ∀ e env mem n,Q e env mem n→zrw c obs v obs' e env mem n) (h:wpc (zcW P T) (ziJ P T) noY false c.body Q (zaX 0 vs++zcw zf 0 obs) (zhC 0 obs) obs.length):Fn P T f vs obs v obs':=by
 obtain ⟨fn,body,hfn,hbody,hname,hnt,hsm,hcomp,hres⟩:=ztQ hc
 refine ⟨⟨fn,hfn,hname,by rw [hbody];rfl⟩,fun B σ a w args hT htr hsim hsz hargs cs=>?_⟩
 have hstart:=zv4 (nt:=c.ntmps) hsm hlen hsim hsz hargs
 obtain ⟨B',hB'⟩ : ∃ B',B'=zkZ B c.ntmps hsm obs σ:=⟨_,rfl⟩
 obtain ⟨a',ha'⟩ : ∃ a':Act,a' = { tmps:=args++Array.replicate (c.ntmps - args.size) undef,defers:=[] } := ⟨_,rfl⟩
 rw [← hB',← ha'] at hstart
 have hB'O:B'.O=B.O:=by rw [hB'];rfl
 have htr':zaW B':=fun O Z l w=>by rw [hB'];exact htr O Z l w
 have hT':Has T B':=fun b o ht=>by rw [hB'];exact hT b o ht
 have hcomp':comp P B'.nt body=some c.body:=by rw [hB'];exact hcomp
 have hwp:=zwb hm zsy (zsx P T) (fun B hT _=>zsP B hT) body ⟨f,.normal,none⟩ c.body noY false B' hT' (fun hn=>by cases hn) (fun _=>⟨rfl,htr',rfl⟩) hcomp' _ _ _ _ σ a' w h hstart
 have fin : ∀ (e:Ex) (a2:Act) (w2:World),zgc false B' Q e a2 w2→(∀ id,e ≠ .exit id) ∧ ∃ Ds:List Nat,a2.defers=Ds.map zbU∧Ds.Nodup∧(∀ D∈Ds,w2.heap[D]? = some (.deferred (some []))) ∧
   ∀ w3,za0 w2 w3→w3.heap.size=w2.heap.size→(∀ b,b ∉ Ds→w3.heap[b]? = w2.heap[b]?) → ∃ v' σ',(results fn a2.tmps).run P w3 = .ok v' w3 ∧
   Sim B (fun _ => .undef) (zo obs') (fun i=>obs'.length≤i) σ' a w3∧VSim σ' (zo obs') (fun i=>obs'.length≤i) (B.X σ' (zo obs')) w3 v v' ∧
   ∀ i ob,obs[i]? = some ob→zo obs' i=none∨(σ' i=σ i ∧ ∃ ob',zo obs' i=some ob'∧zbz ob ob'):=by
  rintro e a20 w20 ⟨B2,env2,mem2,n2,σ2,⟨hext,-⟩,hq,hs20⟩
  obtain ⟨he,x,r,nl,hx,hf⟩:=hQ _ _ _ _ hq
  obtain ⟨Ds,hds,hdn,hdp⟩:=hext.dfr
  refine ⟨fun id hid=>by subst hid;exact he,Ds,?_,hdn,fun D hD=>hs20.pins _ _ (hdp D hD).1,fun w2 hss hsz' hsame=>?_⟩
  ·rw [hs20.nt.2,hds,hB'];simp [zkZ]
  obtain ⟨a2,ha2⟩ : ∃ a2:Act,a2 = { a20 with defers:=[] } := ⟨_,rfl⟩
  have hat:a20.tmps=a2.tmps:=by rw [ha2]
  rw [hat]
  have hs2:Sim B' env2.get mem2.get (fun i=>n2≤i) σ2 a2 w2:=by
   refine hs20.less htr' (a':=a2) hext.w0 hext.R hext.nt hext.ghost hext.O hat.symm (by rw [ha2,hB'];rfl) hss hsz' (fun b hb=>hsame b fun hD=>hb ⟨B2.pinO _ _ (hdp b hD).1,(hdp b hD).2.1⟩) fun b o hp=>?_
   rw [hsame b (fun hD=>(hdp b hD).2.2 (B'.pinO b o hp))]
   exact hs20.pins b o (hext.pin b o hp)
  obtain ⟨hr1,hr2⟩:=zbQ hres
  have hxr : ∃ v',(results fn a2.tmps).run P w2 = .ok v' w2∧VSim σ2 mem2.get (fun i=>n2≤i) (B'.X σ2 mem2.get) w2 x v':=by
   unfold zmZ at hx
   have key : ∀ l,zkJ env2.get mem2.get c.res=some l → ∃ us:List Value,(results fn a2.tmps).run P w2 = .ok (if h:us.length=1 then us[0] else .tuple us.toArray) w2∧us.length=l.length ∧
     ∀ i,i < l.length→VSim σ2 mem2.get (fun i=>n2≤i) (B'.X σ2 mem2.get) w2 (l.getD i .undef) (us.getD i undef):=by
    intro l hl
    obtain ⟨us,g1,g2,g3⟩:=zoj hs2 fn.results.toList c.res l hr1.symm (fun i h1 h2=>hr2 i h1 h2) hl
    refine ⟨us,?_,g2,g3⟩
    have g1':(fn.results.mapM (m:=Sem) (ziy a2.tmps)).run P w2 = .ok us.toArray w2:=by
     rw [Array.mapM_eq_mapM_toList,Sem.run_map,g1];rfl
    rw [zup,Sem.run_bind,g1']
    simp only [Result.andThen_ok,Sem.run_pure]
    congr 1
   split at hx
   ·rename_i v0 hl
    cases hx
    obtain ⟨us,g1,g2,g3⟩:=key _ hl
    refine ⟨_,g1,?_⟩
    rw [dif_pos (by simpa using g2)]
    have:=g3 0 (by simp)
    simpa [List.getD,show 0 < us.length by simp at g2;omega] using this
   ·rename_i l hne hl
    cases hx
    obtain ⟨us,g1,g2,g3⟩:=key _ hl
    refine ⟨_,g1,?_⟩
    rw [dif_neg (by
     intro h1
     rw [g2] at h1
     obtain ⟨y,rfl⟩:=List.length_eq_one_iff.1 h1
     exact hne y rfl)]
    exact .tup l us.toArray (by simp [g2]) (fun i hi=>by simpa [Array.getD,List.getD,show i < us.length by omega] using g3 i hi)
   ·cases hx
  obtain ⟨v',hres',hvx⟩:=hxr
  have hs3:Sim B' (Env.get []) mem2.get (fun i=>n2≤i) σ2 a2 w2 := { hs2 with env:=fun t => .undef _ }
  have hmem':(zgQ 0 obs').get=zo obs':=zpU obs'
  have hs4:=zii hf.le hs3
  rw [hmem'] at hs4
  have hs5:Sim B (fun _ => .undef) (zo obs') (fun i=>obs'.length≤i) (reσ r σ2) a w2:=by
   subst hB'
   exact ⟨fun t => .undef _,hs4.mem,hs4.inj,hs4.mine,hs4.free,hs4.kept,hsim.nt,hs4.olt,hs4.pins,fun id l hl=>htr _ _ _ _⟩
  have hXB : ∀ σ M,B'.X σ M=B.X σ M:=fun σ M=>by rw [hB'];rfl
  refine ⟨v',reσ r σ2,hres',hs5,?_,fun i ob hob=>?_⟩
  ·rw [← hXB]
   have one : ∀ (v x:V) (v':Value),VLe r nl 30 v x∨zna mem2 r v x→VSim σ2 mem2.get (fun i=>n2≤i) (B'.X σ2 mem2.get) w2 x v'→VSim (reσ r σ2) (zo obs') (fun i=>obs'.length≤i) (B'.X (reσ r σ2) (zo obs')) w2 v v':=by
    intro v x v' hv hvx
    rcases hv with hv|⟨y,rfl,hfr,hdis⟩
    ·have:=zij hf.le 30 v x v' hv hvx
     rw [hmem'] at this
     exact this
    ·refine .d y v' ?_
     have hd:=(zch (M':=fun id=>if id∈V.reach mem2.get 20 x then none else mem2.get id) hs3 (fun j hj=>by
      split at hj
      ·exact absurd rfl hj
      ·exact hj) true 20).1 x y v' hfr hvx (fun id hid=>by
       simp only [zaC,cond_true] at hid
       simp [hid])
     refine hd.mono (fun _ _ _=>rfl) (fun b hlt hb=>?_)
     rcases hb with hb|⟨id,h1,h2⟩
     ·exact .inl hb
     ·obtain ⟨ob,hob⟩:=Option.ne_none_iff_exists'.1 h1
      rw [← hmem'] at hob
      have hg:=(zao hf.le.m hob).2
      unfold reσ at h2
      cases hj:zbo r id with
      | none=>rw [hj] at h2;cases h2
      | some j =>
       rw [hj] at h2
       simp only [hj] at hg
       obtain ⟨ob',h3,-⟩:=hg
       refine .inr ⟨j,?_,h2⟩
       simp only
       rw [if_neg (fun hm=>zep hdis j hm (List.mem_map.2 ⟨(id,j),ze3 hj,rfl⟩)),h3]
       simp
   rcases hf.v with hv|hv|⟨vs2,xs2,rfl,rfl,hl,hi⟩
   ·exact one _ _ _ (.inl hv) hvx
   ·exact one _ _ _ (.inr hv) hvx
   ·cases hvx with
    | tup _ us hsz2 hus=>exact .tup vs2 us (by rw [hl];exact hsz2) fun i h=>one _ _ _ (hi i h) (hus i (by rw [← hl];exact h))
  ·
   have hgl : ∀ (obs:List Ob) (k:Nat),zkX r nl env2 obs' k obs → ∀ (i:Nat) (ob:Ob),obs[i]? = some ob→(match obs'.getD (k+i) none with
     | none=>True
     | some (.row s _)=>(match ob with | .row s' _=>s'=s|_=>False)∧VLe r nl 30 (.own (k+i)) (env2.get (zf+(k+i)))
     | some (.box _)=>(match ob with | .box _=>True|_=>False)∧VLe r nl 30 (.ptr (k+i) 0) (env2.get (zf+(k+i)))
     | some (.map _)=>(match ob with | .map _=>True|_=>False)∧VLe r nl 30 (.map (k+i)) (env2.get (zf+(k+i)))
     | some _=>False):=by
    intro obs
    induction obs with
    | nil=>intro k _ i ob h;simp at h
    | cons o rest ih =>
     intro k hg i ob hi
     cases i with
     | zero=>cases hi;exact hg.1
     | succ i =>
      have:=ih (k+1) hg.2 i ob (by simpa using hi)
      rwa [show k+1+i=k+(i+1) by omega] at this
   have hgi:=hgl obs 0 hf.gh i ob hob
   rw [Nat.zero_add] at hgi
   have hi:=(List.getElem?_eq_some_iff.1 hob).1
   have hlook:B'.look a2 (zf+i)=zei obs σ i:=by
    simp only [zq.look,hB',zkZ]
    rw [if_neg (by omega),Nat.add_sub_cancel_left]
   have henv:=hs2.env (zf+i)
   rw [hlook] at henv
   have hini:=hsim.mem i ob (zkR hob)
   cases hm':zo obs' i with
   | none=>exact .inl rfl
   | some ob' =>
    right
    have hm'':obs'.getD i none=some ob':=hm'
    rw [hm''] at hgi
    cases ob' with
    | iter=>exact hgi.elim
    | todo=>exact hgi.elim
    | map ys =>
     obtain ⟨hk,hv⟩:=hgi
     have hvs:=zij hf.le 30 _ _ _ hv henv
     rw [hmem'] at hvs
     cases hini with
     | map es b ents clock h1 h2 =>
      simp only [zei,hob,h1] at hvs
      cases hvs with
      | mapDead _ _ g1=>rw [g1] at hm';cases hm'
      | map _ zs _ g1 g2=>rw [g1] at hm';cases hm';exact ⟨by rw [g2,h1],_,rfl,.map _ _⟩
     | _=>exact hk.elim
    | row s ys =>
     obtain ⟨hk,hv⟩:=hgi
     have hvs:=zij hf.le 30 _ _ _ hv henv
     rw [hmem'] at hvs
     cases hini with
     | box=>exact hk.elim
     | map=>exact hk.elim
     | iterNil=>exact hk.elim
     | iter=>exact hk.elim
     | todo=>exact hk.elim
     | nilrow s' h1 =>
      simp only at hk;subst hk
      simp only [zei,hob,h1] at hvs
      cases hvs with
      | ownDead _ _ _ _ g1=>rw [g1] at hm';cases hm'
      | ownNil _ _ g1 g2=>rw [g1] at hm';cases hm';exact ⟨by rw [g2,h1],_,rfl,.row _ _ _ rfl⟩
     | row s' xs b c e h1 h2 =>
      simp only at hk;subst hk
      simp only [zei,hob,h1] at hvs
      generalize hL:xs.length=len at hvs
      cases hvs with
      | ownDead _ _ _ _ g1=>rw [g1] at hm';cases hm'
      | own _ _ zs _ _ c e g1 g2=>rw [g1] at hm';cases hm';exact ⟨by rw [g2,h1],_,rfl,.row _ _ _ hL⟩
    | box ys =>
     obtain ⟨hk,hv⟩:=hgi
     have hvs:=zij hf.le 30 _ _ _ hv henv
     rw [hmem'] at hvs
     cases hini with
     | nilrow=>exact hk.elim
     | row=>exact hk.elim
     | map=>exact hk.elim
     | iterNil=>exact hk.elim
     | iter=>exact hk.elim
     | todo=>exact hk.elim
     | box cs b c e h1 h2 =>
      simp only [zei,hob,h1] at hvs
      cases hvs with
      | ptrDead _ _ _ g1=>rw [g1] at hm';cases hm'
      | ptr _ _ zs _ g1 g2=>rw [g1] at hm';cases hm';exact ⟨by rw [g2,h1],_,rfl,.box _ _⟩
 have henter:Frame.enter P f args .normal=(⟨f,.normal,none⟩:FB).at a' [.code body]:=by
  simp [Frame.enter,FB.at,hfn,hbody,ha',hnt]
 obtain ⟨e,a2,w2,hpost,harr⟩:=hwp [] cs
 obtain ⟨hne,Ds,hds,hdn,hdp,hfin⟩:=fin e a2 w2 hpost
 rw [← henter] at harr
 cases e with
 | normal =>
  obtain ⟨w3,u1,u2,u3,u4⟩:=zgX (P:=P) Ds { (⟨f,.normal,none⟩:FB).at a2 [] with mode := .returning } cs w2 rfl hds hdn hdp
  obtain ⟨v',σ',hres',hs',hv',hold⟩:=hfin w3 u2 u3 u4
  exact ⟨v',w3,σ',⟨_,(Steps.trans harr (.one (go_end rfl))).trans u1,rfl,rfl,rfl,rfl,fn,hfn,hres'⟩,hs',hv',hold⟩
 | ret =>
  obtain ⟨k2,hs⟩:=harr
  obtain ⟨w3,u1,u2,u3,u4⟩:=zgX (P:=P) Ds { (⟨f,.normal,none⟩:FB).at a2 (.code .ret::k2) with mode := .returning } cs w2 rfl hds hdn hdp
  obtain ⟨v',σ',hres',hs',hv',hold⟩:=hfin w3 u2 u3 u4
  exact ⟨v',w3,σ',⟨_,(hs.trans (.one (go_ret rfl))).trans u1,rfl,rfl,rfl,rfl,fn,hfn,hres'⟩,hs',hv',hold⟩
 | exit id=>exact absurd rfl (hne id)
def ziV (c:CFn) (y:D):zaa:=fun e env mem n =>
 match e with
 | .exit _=>False
 | _=>(match zmZ c.res env.get mem.get with
  | some x=>x.freeze mem.get true 20
  | none=>none)=some y
theorem zx8 (hm:P.follows .mixedOrders=true) {f:Nat} {c:CFn} (hc:zm P f=some c) {vs:List V} {y:D} (hlen:vs.length≤c.ntmps)
  (h:wpc (zcW P T) (ziJ P T) noY false c.body (ziV c y) (zaX 0 vs) [] 0):Fn P T f vs [] (.d y) []:=by
 refine zmz hm hc hlen (ziV c y) (fun e env mem n hq=>?_) (by simpa [zcw,zhC] using h)
 unfold ziV at hq
 have key:(match zmZ c.res env.get mem.get with
  | some x=>x.freeze mem.get true 20
  | none=>none)=some y → ∃ x r nl,zmZ c.res env.get mem.get=some x∧zm9 [] env mem n x (.d y) [] r nl:=by
  intro hq
  split at hq
  ·rename_i x hx
   exact ⟨x,[],[],hx,.inr (.inl ⟨y,rfl,hq,by simp [zdw]⟩),⟨rfl,rfl,rfl,trivial,trivial⟩,trivial⟩
  ·cases hq
 cases e with
 | exit id=>exact hq.elim
 | normal=>exact ⟨trivial,key hq⟩
 | ret=>exact ⟨trivial,key hq⟩
theorem zey.data {M:Nat→Option Ob} {n f:Nat} {vs lvs:List V} {y:D} {K:V→Upd→Nat→Prop} (hf:Fn P T f lvs [] (.d y) []) (ha:VPasses M [] (zI M vs) 20 lvs vs)
  (hy:y.flat 19=true) (hK:K (.d y) [] 0):zey (zcW P T) M n f vs K :=
 ⟨.d y,[],0,⟨[],zI M vs,true,lvs,[],.d y,[],hf,ha,rfl,rfl,by simp [zdw],by simp [zdG],by simp [zdG],by simp,fun _=>⟨hy,trivial⟩,rfl,rfl,rfl⟩,hK⟩
end
end Go.Ab
namespace Go.Ab
open Go
structure zap (b:Bool) (p q:Prop):Prop where
 t:b=true→p
 f:b=false→q
structure ziL (p q:Prop):Prop where
 p:p
 q:q
structure zhI (p q:Prop):Prop where
 h:p→q
inductive ziG (p a b:Prop):Prop where
 | fit (h:p) (k:a)
 | no (k:b)
inductive zdk (xs:List D) (i:Int) (K:D→Prop):Prop where
 | mk (x:D) (h:0≤i∧xs[i.toNat]? = some x) (k:K x)
inductive zbi (es:List (D×D)) (k:D) (K:Option D→Prop):Prop where
 | mk (r:Option D) (h:zz es k=some r) (k:K r)
structure zT (C:ze) (M:Nat→Option Ob) (n f:Nat) (vs:List V) (K:V→Upd→Nat→Prop):Prop where
 h:zey C M n f vs K
structure zwi (b:Bool) (q:Prop):Prop where
 o:b=true
 q:q
structure zxG (left:List (D×D)) (K:Option (Nat×D×D)→Prop):Prop where
 nil:left=[]→K none
 cons : ∀ i k v,left[i]? = some (k,v)→K (some (i,k,v))
structure zwf (p:Prop) (K:Bool→Prop):Prop where
 h : ∀ b:Bool,(b=true→p)→K b
structure zl8 (k:Nat) (X:zaa→Prop) (Z:Env→Mem→Nat→Prop) (Q:zaa):Prop where
 h:zzm X Z Q
structure zqC (B:zaa→Env→Mem→Nat→Prop) (Q:zaa) (env:Env) (mem:Mem) (n:Nat):Prop where
 h:zud B Q env mem n
structure zyK (I:zb8) (B:zaa→Env→Mem→Nat→Prop) (ps:List Nat) (Q:zaa) (env:Env) (mem:Mem) (n g:Nat) (cs:List V):Prop where
 h:zuq I B ps Q env mem n g cs
def zgv (f:Dec→Env→Mem→Nat→Prop) (δ:Dec) (env:Env) (mem:Mem) (n:Nat):Prop:=f δ env mem n
def zl7 (f:Dec→Env→Mem→Nat→List za3→Prop) (δ:Dec) (env:Env) (mem:Mem) (n:Nat) (l:List za3):Prop:=f δ env mem n l
def zz5 (f:Env→Mem→Nat→Prop) (env:Env) (mem:Mem) (n:Nat):Prop:=f env mem n
def zcX (f:zaa) (e:Ex) (env:Env) (mem:Mem) (n:Nat):Prop:=f e env mem n
def zeA (f:zcr→Bool→zaa→Env→Mem→Nat→Prop) (Y:zcr) (b:Bool) (Q:zaa) (env:Env) (mem:Mem) (n:Nat):Prop:=f Y b Q env mem n
def Eff.wpR (C:ze) (M:Nat→Option Ob) (n:Nat) (K:V→Upd→Nat→Prop) (e:Eff):Prop :=
 @Eff.rec (fun _=>Prop) False (fun v u k=>K v u k) (fun p _ _ ih=>ziL p ih) (fun p _ ih=>zhI p ih) (fun p _ _ _ a b=>ziG p a b) (fun xs i _ ih=>zdk xs i ih) (fun es k _ ih=>zbi es k ih) (fun f vs=>zT C M n f vs K) e
def zic (δ:Dec) (env:Env) (g:Nat×Bool) (yes no:Dec→Prop):Prop :=
 match δ.get g.1 with
 | some b=>cond (b==g.2) (yes δ) (no δ)
 | none=>match env.get g.1 with
  | .bt=>cond g.2 (yes δ) (no δ)
  | .bf=>cond g.2 (no δ) (yes δ)
  | .tup []=>no δ
  | .d (.bool b)=>zap b (cond g.2 (yes ((g.1,true)::δ)) (no ((g.1,true)::δ))) (cond g.2 (no ((g.1,false)::δ)) (yes ((g.1,false)::δ)))
  | _=>False
def zqH (v:V) (p q:Prop):Prop :=
 match v with
 | .bt=>p
 | .bf=>q
 | .d (.bool b)=>zap b p q
 | _=>False
def zzL (id:Nat) (left:List (D×D)) (mem:Mem):Option (Nat×D×D)→Mem
 | none=>mem
 | some (i,k,v)=>(id,some (.iter (left.eraseIdx i) (some (k,v))))::mem
def zzM:Option (Nat×D×D)→V
 | none => .d (.tup [.bool false])
 | some (_,k,v) => .d (.tup [.bool true,k,v])
def zhQ (Y:zcr) (o:CO) (env:Env) (mem:Mem) (n:Nat):Option ((V→Mem→Nat→Prop)→Prop) :=
 match o with
 | .callv g xs=>match g.ev env.get with
  | .yld l=>some fun K=>Y l (evs env.get xs) mem n fun b mem n=>K (.d (.bool b)) mem n
  | _=>none
 | .next it=>match it.ev env.get with
  | .iter id=>some fun K=>match mem.get id with
   | some (.iter left _)=>zxG left fun r=>K (zzM r) (zzL id left mem r) n
   | _=>False
  | _=>none
 | .eqN neg x y=>match x.ev env.get,y.ev env.get with
  | .d (.arr _ xs),.nils _=>some fun K=>zwf (xs=[]) fun b=>K (.d (.bool (b != neg))) mem n
  | .own id,.nils _=>match mem.get id with
   | some (.row _ xs)=>some fun K=>zwf (xs=[]) fun b=>K (.d (.bool (b != neg))) mem n
   | _=>none
  | _,_=>none
 | _=>none
def zgY (C:ze) (K:Env→Mem→Nat→List za3→Prop) (ops:List COp):Dec→Env→Mem→Nat→List za3→Prop :=
 @List.rec COp (fun _=>Dec→Env→Mem→Nat→List za3→Prop) (fun _ env mem n l=>K env mem n l) (fun o _ ih δ env mem n l =>
  match o.guard with
  | none=>(zcL δ o.op env.get mem.get n).wpR C mem.get n fun v u k =>
    zl7 ih (δ.del o.dst) (zS o.dst v env) (zP u mem) (n+k) (l++[⟨zau o.op env.get mem.get,u.map Prod.fst,za6 o.op env.get v,u⟩])
  | some g=>zic δ env g
    (fun δ=>(zcL δ o.op env.get mem.get n).wpR C mem.get n fun v u k =>
     zl7 ih (δ.del o.dst) (zS o.dst v env) (zP u mem) (n+k) (l++[⟨zau o.op env.get mem.get,u.map Prod.fst,za6 o.op env.get v,u⟩]))
    (fun δ=>zl7 ih (δ.del o.dst) (zS o.dst (.tup []) env) mem n (l++[⟨[],[],none,[]⟩]))) ops
def zeR (C:ze) (Y:zcr) (K:Env→Mem→Nat→Prop) (ops:List COp):Dec→Env→Mem→Nat→Prop :=
 @List.rec COp (fun _=>Dec→Env→Mem→Nat→Prop) (fun _ env mem n=>K env mem n) (fun o _ ih δ env mem n =>
  match o.guard with
  | none=>match zhQ Y o.op env mem n with
   | some f=>f fun v mem n=>zgv ih (δ.del o.dst) (zS o.dst v env) mem n
   | none=>(zcL δ o.op env.get mem.get n).wpR C mem.get n fun v u k =>
     zeG o.op u mem env fun env=>zgv ih (δ.del o.dst) (zS o.dst v env) (zP u mem) (n+k)
  | some g=>zic δ env g
    (fun δ=>match zhQ Y o.op env mem n with
     | some f=>f fun v mem n=>zgv ih (δ.del o.dst) (zS o.dst v env) mem n
     | none=>(zcL δ o.op env.get mem.get n).wpR C mem.get n fun v u k =>
       zeG o.op u mem env fun env=>zgv ih (δ.del o.dst) (zS o.dst v env) (zP u mem) (n+k))
    (fun δ=>zgv ih (δ.del o.dst) (zS o.dst (.tup []) env) mem n)) ops
def zfd (C:ze) (I:zb8) (c:CC):zcr→Bool→zaa→Env→Mem→Nat→Prop :=
 @CC.rec (fun _=>zcr→Bool→zaa→Env→Mem→Nat→Prop)
  (fun _ _ Q env mem n=>zcX Q .normal env mem n)
  (fun cx _ x y Y b Q env mem n=>match cx.cuts with
   | none=>x Y b (fun e env mem n=>match e with
    | .normal=>zeA y Y b Q env mem n
    | e=>zcX Q e env mem n) env mem n
   | some k=>zl8 k (fun Q=>x Y b Q env mem n) (fun env mem n=>zeA y Y b Q env mem n) Q)
  (fun ops Y _ Q env mem n=>zeR C Y (fun env mem n=>zcX Q .normal env mem n) ops [] env mem n)
  (fun ops bef _ _ Q env mem n=>zgY C (fun env mem n l=>zwi (zdP ops bef l) (zcX Q .normal env mem n)) ops [] env mem n [])
  (fun x _ _ c d Y b Q env mem n=>zqH (x.ev env.get) (zeA c Y b Q env mem n) (zeA d Y b Q env mem n))
  (fun id _ c Y b Q env mem n=>c Y b (fun e env mem n=>match e with
   | .exit j=>cond (Nat.beq j id) (zcX Q .normal env mem n) (zcX Q (.exit j) env mem n)
   | e=>zcX Q e env mem n) env mem n)
  (fun _ c Y b Q env mem n=>zqC (fun Q env mem n=>c Y b Q env mem n) Q env mem n)
  (fun id _ _ Q env mem n=>zcX Q (.exit id) env mem n)
  (fun _ _ Q env mem n=>zcX Q .ret env mem n)
  (fun f ps _ _ x y _ b Q env mem n=>match b with
   | true=>False
   | false=>match f.ev env.get with
    | .fn g cs=>zyK I (fun Q env mem n=>x noY true (fun e env mem n=>match e with
      | .normal=>zeA y noY true Q env mem n
      | e=>zcX Q e env mem n) env mem n) ps Q env mem n g cs
    | _=>False) c
theorem zfE (C:ze) (M:Nat→Option Ob) (n:Nat) (K:V→Upd→Nat→Prop) : ∀ e:Eff,e.wpR C M n K=e.wp C M n K
 | .bad=>rfl
 | .ok _ _ _=>rfl
 | @Eff.need p _ r=>by
  show ziL p (r.wpR C M n K)=zyJ p (r.wp C M n K)
  rw [zfE C M n K r];exact propext ⟨fun ⟨a,b⟩=>⟨a,b⟩,fun ⟨a,b⟩=>⟨a,b⟩⟩
 | .given p r=>by
  show zhI p (r.wpR C M n K)=Given p (r.wp C M n K)
  rw [zfE C M n K r];exact propext ⟨fun ⟨a⟩=>a,fun a=>⟨a⟩⟩
 | @Eff.alt p _ r s=>by
  show ziG p (r.wpR C M n K) (s.wpR C M n K)=Alt p (r.wp C M n K) (s.wp C M n K)
  rw [zfE C M n K r,zfE C M n K s]
  exact propext ⟨fun h=>match h with | .fit a b => .inl ⟨a,b⟩ | .no b => .inr b,fun h=>h.elim (fun ⟨a,b⟩ => .fit a b) .no⟩
 | .elem xs i f=>by
  show zdk xs i (fun x=>(f x).wpR C M n K)=zxD xs i (fun x=>(f x).wp C M n K)
  rw [show (fun x=>(f x).wpR C M n K)=fun x=>(f x).wp C M n K from funext fun x=>zfE C M n K (f x)]
  exact propext ⟨fun ⟨x,a,b⟩=>⟨x,a,b⟩,fun ⟨x,a,b⟩=>⟨x,a,b⟩⟩
 | .find es k f=>by
  show zbi es k (fun x=>(f x).wpR C M n K)=zxE es k (fun x=>(f x).wp C M n K)
  rw [show (fun x=>(f x).wpR C M n K)=fun x=>(f x).wp C M n K from funext fun x=>zfE C M n K (f x)]
  exact propext ⟨fun ⟨x,a,b⟩=>⟨x,a,b⟩,fun ⟨x,a,b⟩=>⟨x,a,b⟩⟩
 | .call f vs=>propext ⟨fun ⟨a⟩=>a,fun a=>⟨a⟩⟩
theorem zsl (b:Bool) (p q:Prop):zap b p q=zwl b p q:=propext ⟨fun ⟨x,y⟩=>⟨x,y⟩,fun ⟨x,y⟩=>⟨x,y⟩⟩
theorem zpO (δ:Dec) (env:Env) (g:Nat×Bool) (yes no:Dec→Prop):zic δ env g yes no=zd4 δ env g yes no:=by
 unfold zic zd4
 simp only [zsl]
 cases δ.get g.1 with
 | some b=>rfl
 | none =>
  cases env.get g.1 with
  | d x=>cases x<;>rfl
  | tup l=>cases l<;>rfl
  | _=>rfl
theorem zwB (v:V) (p q:Prop):zqH v p q=znB v p q:=by
 unfold zqH znB
 simp only [zsl]
 cases v with
 | d x=>cases x<;>rfl
 | _=>rfl
theorem zuP (Y:zcr) (o:CO) (env:Env) (mem:Mem) (n:Nat):zhQ Y o env mem n=zb1 Y o env mem n:=by
 unfold zhQ zb1
 cases o with
 | callv g xs=>rfl
 | next it =>
  simp only
  cases it.ev env.get with
  | iter id =>
   simp only
   congr 1
   funext K
   cases mem.get id with
   | none=>rfl
   | some ob =>
    cases ob with
    | iter left c=>exact propext ⟨fun ⟨a,b⟩=>⟨a,b⟩,fun ⟨a,b⟩=>⟨a,b⟩⟩
    | _=>rfl
  | _=>rfl
 | eqN neg x y =>
  simp only
  cases x.ev env.get with
  | d x =>
   cases x with
   | arr s xs =>
    cases y.ev env.get with
    | nils s=>exact congrArg some (funext fun K=>propext ⟨fun ⟨a⟩=>a,fun a=>⟨a⟩⟩)
    | _=>rfl
   | _=>rfl
  | own id =>
   cases y.ev env.get with
   | nils s =>
    simp only
    cases mem.get id with
    | none=>rfl
    | some ob =>
     cases ob with
     | row s xs=>exact congrArg some (funext fun K=>propext ⟨fun ⟨a⟩=>a,fun a=>⟨a⟩⟩)
     | _=>rfl
   | _=>rfl
  | _=>rfl
 | _=>rfl
theorem zqg (C:ze) (K:Env→Mem→Nat→List za3→Prop) : ∀ (ops:List COp) (δ:Dec) (env:Env) (mem:Mem) (n:Nat) (l:List za3),zgY C K ops δ env mem n l=zdS C K ops δ env mem n l
 | [],_,_,_,_,_=>rfl
 | o::r,δ,env,mem,n,l=>by
  rw [show zgY C K (o::r) δ env mem n l=(match o.guard with
  | none=>(zcL δ o.op env.get mem.get n).wpR C mem.get n fun v u k =>
    zl7 (zgY C K r) (δ.del o.dst) (zS o.dst v env) (zP u mem) (n+k) (l++[⟨zau o.op env.get mem.get,u.map Prod.fst,za6 o.op env.get v,u⟩])
  | some g=>zic δ env g
    (fun δ=>(zcL δ o.op env.get mem.get n).wpR C mem.get n fun v u k =>
     zl7 (zgY C K r) (δ.del o.dst) (zS o.dst v env) (zP u mem) (n+k) (l++[⟨zau o.op env.get mem.get,u.map Prod.fst,za6 o.op env.get v,u⟩]))
    (fun δ=>zl7 (zgY C K r) (δ.del o.dst) (zS o.dst (.tup []) env) mem n (l++[⟨[],[],none,[]⟩]))) from rfl]
  simp only [zl7,zqg C K r,zfE,zpO,zdS]
  cases o.guard<;>rfl
theorem zqi (C:ze) (Y:zcr) (K:Env→Mem→Nat→Prop) : ∀ (ops:List COp) (δ:Dec) (env:Env) (mem:Mem) (n:Nat),zeR C Y K ops δ env mem n=zcE C Y K ops δ env mem n
 | [],_,_,_,_=>rfl
 | o::r,δ,env,mem,n=>by
  rw [show zeR C Y K (o::r) δ env mem n=(match o.guard with
  | none=>match zhQ Y o.op env mem n with
   | some f=>f fun v mem n=>zgv (zeR C Y K r) (δ.del o.dst) (zS o.dst v env) mem n
   | none=>(zcL δ o.op env.get mem.get n).wpR C mem.get n fun v u k =>
     zeG o.op u mem env fun env=>zgv (zeR C Y K r) (δ.del o.dst) (zS o.dst v env) (zP u mem) (n+k)
  | some g=>zic δ env g
    (fun δ=>match zhQ Y o.op env mem n with
     | some f=>f fun v mem n=>zgv (zeR C Y K r) (δ.del o.dst) (zS o.dst v env) mem n
     | none=>(zcL δ o.op env.get mem.get n).wpR C mem.get n fun v u k =>
       zeG o.op u mem env fun env=>zgv (zeR C Y K r) (δ.del o.dst) (zS o.dst v env) (zP u mem) (n+k))
    (fun δ=>zgv (zeR C Y K r) (δ.del o.dst) (zS o.dst (.tup []) env) mem n)) from rfl]
  simp only [zgv,zqi C Y K r,zfE,zpO,zuP,zcE]
  cases o.guard with
  | none=>cases zb1 Y o.op env mem n<;>rfl
  | some g=>cases zb1 Y o.op env mem n<;>rfl
theorem zca (C:ze) (I:zb8) : ∀ (c:CC) (Y:zcr) (b:Bool) (Q:zaa) (env:Env) (mem:Mem) (n:Nat),zfd C I c Y b Q env mem n=wpc C I Y b c Q env mem n
 | .skip,_,_,_,_,_,_=>rfl
 | .seq x y,Y,b,Q,env,mem,n=>by
  show (match x.cuts with
   | none=>zfd C I x Y b (fun e env mem n=>match e with
    | .normal=>zeA (zfd C I y) Y b Q env mem n
    | e=>zcX Q e env mem n) env mem n
   | some k=>zl8 k (fun Q=>zfd C I x Y b Q env mem n) (fun env mem n=>zeA (zfd C I y) Y b Q env mem n) Q)=_
  rw [wpc]
  cases x.cuts with
  | none =>
   simp only [zca C I x,zeA,zca C I y,zcX]
   rfl
  | some k =>
   simp only [zca C I x,zeA,zca C I y]
   exact propext ⟨fun ⟨a⟩=>a,fun a=>⟨a⟩⟩
 | .reg ops,Y,b,Q,env,mem,n=>by
  show zeR C Y (fun env mem n=>zcX Q .normal env mem n) ops [] env mem n=_
  rw [zqi,wpc];rfl
 | .regd ops bef,Y,b,Q,env,mem,n=>by
  show zgY C (fun env mem n l=>zwi (zdP ops bef l) (zcX Q .normal env mem n)) ops [] env mem n []=_
  rw [zqg,wpc]
  congr 1
  funext env mem n l
  exact propext ⟨fun ⟨a,b⟩=>⟨a,b⟩,fun ⟨a,b⟩=>⟨a,b⟩⟩
 | .cond x c d,Y,b,Q,env,mem,n=>by
  show zqH (x.ev env.get) (zeA (zfd C I c) Y b Q env mem n) (zeA (zfd C I d) Y b Q env mem n)=_
  simp only [zwB,zeA,zca C I c,zca C I d,wpc]
 | .block id c,Y,b,Q,env,mem,n=>by
  show zfd C I c Y b (fun e env mem n=>match e with
   | .exit j=>cond (Nat.beq j id) (zcX Q .normal env mem n) (zcX Q (.exit j) env mem n)
   | e=>zcX Q e env mem n) env mem n=_
  rw [zca C I c,wpc];rfl
 | .loop c,Y,b,Q,env,mem,n=>by
  show zqC (fun Q env mem n=>zfd C I c Y b Q env mem n) Q env mem n=_
  simp only [zca C I c,wpc]
  exact propext ⟨fun ⟨a⟩=>a,fun a=>⟨a⟩⟩
 | .exit id,_,_,_,_,_,_=>rfl
 | .ret,_,_,_,_,_,_=>rfl
 | .rng f ps x y,Y,true,Q,env,mem,n=>rfl
 | .rng f ps x y,Y,false,Q,env,mem,n=>by
  show (match f.ev env.get with
    | .fn g cs=>zyK I (fun Q env mem n=>zfd C I x noY true (fun e env mem n=>match e with
      | .normal=>zeA (zfd C I y) noY true Q env mem n
      | e=>zcX Q e env mem n) env mem n) ps Q env mem n g cs
    | _=>False)=_
  simp only [zca C I x,zeA,zca C I y,wpc,zcX]
  cases f.ev env.get with
  | fn g cs=>exact propext ⟨fun ⟨a⟩=>a,fun a=>⟨a⟩⟩
  | _=>rfl
end Go.Ab
namespace Go.Ab
open Go
section
variable {P:Program} {T:Nat→Obj→Prop}
theorem zl8.direct {k:Nat} {X:zaa→Prop} {Z:Env→Mem→Nat→Prop} {Q:zaa} (h:X (fun e env mem n=>match e with
  | .normal=>Z env mem n
  | e=>Q e env mem n)):zl8 k X Z Q:=⟨.inl h⟩
theorem zl8.cut {k:Nat} {X:zaa→Prop} {Z:Env→Mem→Nat→Prop} {Q:zaa} {α:Type} (E:α→Env) (M:α→Mem) (N:Nat) (I:α→Prop) (h:X (fun e env mem n=>match e with
  | .normal => ∃ a r nl,I a∧Le env mem n (E a) (M a) N r nl
  | e=>Q e env mem n)) (hz : ∀ a,I a→Z (E a) (M a) N):zl8 k X Z Q:=⟨.inr ⟨α,E,M,N,I,h,hz⟩⟩
theorem zap.dec {x:Prop} [Decidable x] {p q:Prop} (h1:x→p) (h2 : ¬x→q):zap (decide x) p q:=⟨fun h=>h1 (by simpa using h),fun h=>h2 (by simpa using h)⟩
theorem zap.ne {α:Type} {a b:α} [Decidable (a≠b)] {p q:Prop} (h1:a≠b→p) (h2:a=b→q):zap (decide (a≠b)) p q :=
 ⟨fun h=>h1 (by simpa using h),fun h=>h2 (by simpa using h)⟩
theorem zap.not {b:Bool} {p q:Prop} (h:zap b q p):zap (!b) p q:=⟨fun e=>h.2 (by simpa using e),fun e=>h.1 (by simpa using e)⟩
theorem zap.tt {p q:Prop} (h:p):zap true p q:=⟨fun _=>h,nofun⟩
theorem zap.ff {p q:Prop} (h:q):zap false p q:=⟨nofun,fun _=>h⟩
theorem zhI.map {α β:Type} {f:α→β} {xs:List α} {m:Nat} {q:Prop} (h:xs.length≤m→q):zhI ((xs.map f).length≤m) q:=⟨fun h'=>h (by simpa using h')⟩
theorem zdk.nat {α:Type} {f:α→D} {xs:List α} {i:Nat} {K:D→Prop} (h:i < xs.length) (k : ∀ x,xs[i]? = some x→K (f x)):zdk (xs.map f) (i:Int) K :=
 ⟨f xs[i],⟨Int.natCast_nonneg i,by simp [h]⟩,k _ (by simp [h])⟩
theorem zdk.int {α:Type} {f:α→D} {xs:List α} {i:Int} {K:D→Prop} (h0:0≤i) (h:i < xs.length) (k : ∀ x,xs[i.toNat]? = some x→K (f x)):zdk (xs.map f) i K:=by
 have h':i.toNat < xs.length:=by omega
 exact ⟨f xs[i.toNat],⟨h0,by simp [h']⟩,k _ (by simp [h'])⟩
theorem zdk.is {α:Type} {f:α→D} {xs:List α} {i:Int} {x:α} {K:D→Prop} (h0:0≤i) (h:xs[i.toNat]? = some x) (k:K (f x)):zdk (xs.map f) i K :=
 ⟨f x,⟨h0,by simp [h]⟩,k⟩
theorem zdk.isNat {α:Type} {f:α→D} {xs:List α} {i:Nat} {x:α} {K:D→Prop} (h:xs[i]? = some x) (k:K (f x)):zdk (xs.map f) (i:Int) K :=
 ⟨f x,⟨Int.natCast_nonneg i,by simp [h]⟩,k⟩
theorem zaG {α:Type} {xs:List α} {k:Nat} {x:α} (h:xs[k]? = some x):xs.drop k=x::xs.drop (k+1):=by
 obtain ⟨h',rfl⟩:=List.getElem?_eq_some_iff.1 h
 exact List.drop_eq_getElem_cons h'
theorem End.int {k:IntKind} {x y:Int} (h:x=y):some (D.int k x)=some (D.int k y):=by rw [h]
theorem End.u64 {x y:BitVec 64} (h:x=y):some (D.u64 x)=some (D.u64 y):=by rw [h]
theorem End.bool {x y:Bool} (h:x=y):some (D.bool x)=some (D.bool y):=by rw [h]
theorem zT.data {M:Nat→Option Ob} {n f:Nat} {vs lvs:List V} {y:D} {K:V→Upd→Nat→Prop} (hf:Fn P T f lvs [] (.d y) []) (ha:VPasses M [] (zI M vs) 20 lvs vs)
  (hy:y.flat 19=true) (hK:K (.d y) [] 0):zT (zcW P T) M n f vs K:=⟨zey.data hf ha hy hK⟩
theorem zT.res {M:Nat→Option Ob} {n f:Nat} {vs lvs:List V} {lv:V} {obs':List (Option Ob)} {K:V→Upd→Nat→Prop} (hf:Fn P T f lvs [] lv obs') (ha:VPasses M [] (zI M vs) 20 lvs vs)
  (hK:K (zjg [] n 20 lv) (zfh [] (zI M vs) n obs' false) obs'.length):zT (zcW P T) M n f vs K :=
 ⟨⟨_,_,_,⟨[],zI M vs,false,lvs,[],lv,obs',hf,ha,rfl,rfl,by simp [zdw],by simp [zdG],by simp [zdG],by simp,nofun,rfl,rfl,rfl⟩,hK⟩⟩
theorem zd (hm:P.follows .mixedOrders=true) {f:Nat} {c:CFn} (hc:zm P f=some c) {vs:List V} {y:D} (hlen:vs.length≤c.ntmps)
  (h:zfd (zcW P T) (ziJ P T) c.body noY false (ziV c y) (zaX 0 vs) [] 0):Fn P T f vs [] (.d y) [] :=
 zx8 hm hc hlen (by rw [← zca];exact h)
theorem zan (hm:P.follows .mixedOrders=true) {f:Nat} {c:CFn} (hc:zm P f=some c) {vs:List V} {obs:List Ob} {v:V} {obs':List (Option Ob)} (hlen:vs.length≤c.ntmps)
  (Q:zaa) (hQ : ∀ e env mem n,Q e env mem n→zrw c obs v obs' e env mem n) (h:zfd (zcW P T) (ziJ P T) c.body noY false Q (zaX 0 vs++zcw zf 0 obs) (zhC 0 obs) obs.length):Fn P T f vs obs v obs' :=
 zmz hm hc hlen Q hQ (by rw [← zca];exact h)
theorem zT.dataN {M:Nat→Option Ob} {n f:Nat} {vs lvs:List V} {y:D} {K:V→Upd→Nat→Prop} (hf:Fn P T f lvs [] (.d y) []) (ha:VPasses M [] (zI M vs) 20 lvs vs)
  (hK:K (.d y) (zfh [] (zI M vs) n [] false) 0):zT (zcW P T) M n f vs K :=
 ⟨⟨.d y,_,0,⟨[],zI M vs,false,lvs,[],.d y,[],hf,ha,rfl,rfl,by simp [zdw],by simp [zdG],by simp [zdG],by simp,nofun,rfl,rfl,rfl⟩,hK⟩⟩
theorem zar {α:Type} {B:zaa→Env→Mem→Nat→Prop} {Q:zaa} {env:Env} {mem:Mem} {n:Nat} (E:α→Env) (I:α→Prop) (μ:α→Nat) (a:α) (hI:I a) (hE:zg2 [] [] env (E a))
  (h : ∀ a,I a→B (fun e env mem n=>match e with
   | .normal => ∃ a' r nl,I a'∧μ a' < μ a∧Le env mem n (E a') [] 0 r nl
   | e=>Q e env mem n) (E a) [] 0):zqC B Q env mem n :=
 ⟨⟨α,E,fun _=>[],0,I,μ,a,[],[],hI,⟨rfl,rfl,rfl,hE,trivial⟩,h⟩⟩
theorem zA {α:Type} {B:zaa→Env→Mem→Nat→Prop} {Q:zaa} {env:Env} {mem:Mem} {n:Nat} (E:α→Env) (M:α→Mem) (N:Nat) (I:α→Prop) (μ:α→Nat) (a:α) (r:List (Nat×Nat)) (nl:List Nat) (hI:I a) (hE:Le env mem n (E a) (M a) N r nl)
  (h : ∀ a,I a→B (fun e env mem n=>match e with
   | .normal => ∃ a' r nl,I a'∧μ a' < μ a∧Le env mem n (E a') (M a') N r nl
   | e=>Q e env mem n) (E a) (M a) N):zqC B Q env mem n :=
 ⟨⟨α,E,M,N,I,μ,a,r,nl,hI,hE,h⟩⟩
end
section
variable {p q:Prop}
theorem vT (k:p):ziG True p q := .fit trivial k
theorem vO {n:Int} (h : -9223372036854775808≤n∧n≤9223372036854775807) (k:p):ziG (inR .i64 n) p q := .fit h k
theorem vS {α:Type} {f:α→D} {xs:List α} {i:Int} {K:D→Prop} (h:0≤i∧i < xs.length) (k : ∀ x,xs[i.toNat]? = some x→K (f x)):zdk (xs.map f) i K := .int h.1 h.2 k
end
abbrev vA := @zl8.direct
abbrev vB := @zwf.mk
abbrev vC := @zxG.mk
abbrev vD := @zap.ne
abbrev vE := @zap.not
abbrev vF := @zap.dec
abbrev vG := @zap.tt
abbrev vH := @zap.ff
abbrev vI := @zap.mk
abbrev vJ := @zhI.map
abbrev vK := @zhI.mk
abbrev vN := @zdk.isNat
abbrev vP := @ziL.mk
abbrev vQ := @zdk.nat
abbrev vR := @zdk.is
abbrev vU := @zwi.mk
abbrev vW := @ziG.fit
abbrev vX := @End.int
abbrev vY := @End.u64
abbrev vZ := @End.bool
abbrev yD := @zT.data
abbrev yN := @zT.dataN
theorem vL:(∀ {α β:Type} {f:α→β} {l:List α},(l.map f).length=l.length)∧(∀ {n:Nat},(List.range n).length=n)∧(∀ {α:Type} {n:Nat} {x:α},(List.replicate n x).length=n)∧(∀ {a b:Int},(¬a < b)=(b≤a))∧(∀ {a b:Int},(¬a≤b)=(b < a))∧(∀ {p:Prop},(¬¬p)=p) :=
 ⟨List.length_map _,List.length_range,List.length_replicate,propext Int.not_lt,propext Int.not_le,propext Classical.not_not⟩
theorem vM:ze7=34359738368∧(∀ {α β:Type} {f:α→β} {l:List α},(l.map f).length=l.length)∧(∀ {n:Nat},(List.range n).length=n)∧(∀ {α:Type} {n:Nat} {x:α},(List.replicate n x).length=n)∧(∀ {α:Type} {x:α} {l:List α},(x::l).length=l.length+1) ∧
  (∀ {α:Type},([]:List α).length=0)∧(∀ {α:Type} {l m:List α},(l++m).length=l.length+m.length)∧(∀ {α:Type} {l:List α} {i:Nat} {x:α},(l.set i x).length=l.length) :=
 ⟨rfl,List.length_map _,List.length_range,List.length_replicate,rfl,rfl,List.length_append,List.length_set⟩
abbrev dI (l:List Int):D := .arr 1 (l.map (.int .i64))
abbrev dU (l:List (BitVec 64)):D := .arr 1 (l.map .u64)
abbrev dII (l:List (List Int)):D := .arr 1 (l.map dI)
abbrev dUU (l:List (List (BitVec 64))):D := .arr 1 (l.map dU)
end Go.Ab
namespace Go.Ab
open Go Go.Proofs
section
variable {P : Program} {T : Nat → Obj → Prop}
theorem zhz {f : Nat} (hf : zct P f) {vs : List V} {obs : List Ob} {v : V} {obs' : List (Option Ob)}
    (h : ∀ (B : zq) (σ : Nat → Option Nat) (a : Act) (w : World) (args : Array Value), Has T B →
      Sim B (fun _ => .undef) (zo (obs.map some)) (fun i => obs.length ≤ i) σ a w → args.size = vs.length →
      (∀ i, i < vs.length → VSim σ (zo (obs.map some)) (fun i => obs.length ≤ i) (B.X σ (zo (obs.map some))) w (vs.getD i .undef) (args.getD i undef)) →
      Calls P f args w fun e w' => ∃ v' σ', e = .returned v' ∧ Sim B (fun _ => .undef) (zo obs') (fun i => obs'.length ≤ i) σ' a w' ∧ VSim σ' (zo obs') (fun i => obs'.length ≤ i) (B.X σ' (zo obs')) w' v v' ∧
        ∀ i ob, obs[i]? = some ob → zo obs' i = none ∨ (σ' i = σ i ∧ ∃ ob', zo obs' i = some ob' ∧ zbz ob ob')) : Fn P T f vs obs v obs' := by
  refine ⟨hf, fun B σ a w args hT htr hs hsz hargs cs => ?_⟩
  obtain ⟨e, w', fr, ⟨v', σ', rfl, h1, h2, h3⟩, hc, hfn, hl⟩ := h B σ a w args hT hs hsz hargs cs
  exact ⟨v', w', σ', ⟨fr, hc, hfn, hl⟩, h1, h2, h3⟩
theorem zte {f : Nat} (hf : zct P f) {ds : List D} {y : D}
    (h : ∀ (w : World) (args : Array Value), (∀ b o, T b o → w.heap[b]? = some o) → args.size = ds.length → (∀ i, i < ds.length → ∃ X, zh X w (ds.getD i .nil) (args.getD i undef)) →
      Calls P f args w fun e w' => ∃ v', e = .returned v' ∧ w' = w ∧ ∀ X, zh X w y v') : Fn P T f (ds.map .d) [] (.d y) [] := by
  refine zhz hf fun B σ a w args hT hs hsz hargs => ?_
  refine (h w args (fun b o ht => hs.pins b o (hT b o ht)) (by simpa using hsz) (fun i hi => ?_)).mono fun e w' he => ?_
  · have := hargs i (by simpa using hi)
    rw [show (ds.map V.d).getD i .undef = .d (ds.getD i .nil) by simp [List.getD, hi]] at this
    cases this with
    | d _ _ hd => exact ⟨_, hd⟩
  · obtain ⟨v', rfl, rfl, hy⟩ := he
    exact ⟨v', σ, rfl, hs, .d _ _ (hy _), fun i ob hi => by simp at hi⟩
theorem zzG {f g : Nat} (hf : zct P f) {tab : Obj} (hcalls : ∀ (x : Nat) (w : World), x < 18446744073709551616 → (x ≠ 0 → TabAt g Lib.deBruijn64tab w) →
      Calls P f #[.int .u64 x] w fun e w' => e = .returned (.int .i64 (Lib.ctz 64 x)) ∧ w' = w)
    (hT : ∀ w : World, (∀ b o, T b o → w.heap[b]? = some o) → TabAt g Lib.deBruijn64tab w) (x : BitVec 64) : Fn P T f [.d (.u64 x)] [] (.d (.int .i64 (Lib.ctz 64 x.toNat))) [] := by
  refine zte (ds := [.u64 x]) hf fun w args hw hsz hargs => ?_
  obtain ⟨X, hX⟩ := hargs 0 (by simp)
  have ha : args = #[.int .u64 x.toNat] := by
    have h0 : args.getD 0 undef = .int .u64 x.toNat := by
      generalize args.getD 0 undef = y at hX
      cases hX; rfl
    apply Array.ext'
    have : args.toList.length = 1 := by simpa using hsz
    obtain ⟨y, hy⟩ := List.length_eq_one_iff.1 this
    rw [hy]
    have e : args.getD 0 undef = y := by
      have : args = #[y] := by apply Array.ext'; simpa using hy
      rw [this]; rfl
    rw [← h0, e]
  rw [ha]
  refine (hcalls x.toNat w x.isLt (fun _ => hT w hw)).mono fun e w' he => ?_
  exact ⟨_, he.1, he.2, fun X => .int _ _ (by simp)⟩
end
end Go.Ab
namespace Go.Ab
open Go
def znP {α:Type} (n:Nat) (k:Nat→α):α:=match n with
 | 0=>k 0
 | m+1=>k (m+1)
theorem zpL {α:Type} (n:Nat) (k:Nat→α):znP n k=k n:=by cases n<;>rfl
def znO {α:Type} (n:Int) (k:Int→α):α:=match n with
 | .ofNat m=>znP m fun m=>k (.ofNat m)
 | .negSucc m=>znP m fun m=>k (.negSucc m)
theorem zvb {α:Type} (n:Int) (k:Int→α):znO n k=k n:=by cases n<;>(unfold znO;exact zpL _ _)
def znN {α:Type} (w:BitVec 64) (k:BitVec 64→α):α:=znP w.toNat fun m=>k (BitVec.ofNat 64 m)
theorem zva {α:Type} (w:BitVec 64) (k:BitVec 64→α):znN w k=k w:=by
 unfold znN;rw [zpL];simp
def zz2 {α:Type} (v:V) (k:V→α):α:=match v with
 | .d (.int i n)=>znO n fun n=>k (.d (.int i n))
 | .d (.u64 w)=>znN w fun w=>k (.d (.u64 w))
 | .d (.bool b)=>match b with
  | true=>k (.d (.bool true))
  | false=>k (.d (.bool false))
 | v=>k v
abbrev zn:=V×List (Option Ob)
noncomputable def zcv:Env→Nat→V:=fun l => @List.rec (Nat×V) (fun _=>Nat→V) (fun _ => .undef) (fun p _ ih i => @Prod.rec Nat V (fun _=>V) (fun a v => @Bool.rec (fun _=>V) (ih i) v (Nat.beq a i)) p) l
theorem zeq (l:Env):zcv l=l.get:=by
 funext i
 induction l with
 | nil=>rfl
 | cons p r ih =>
  obtain ⟨a,v⟩:=p
  show @Bool.rec (fun _=>V) (zcv r i) v (Nat.beq a i)=cond (Nat.beq a i) v (Env.get r i)
  rw [ih];cases Nat.beq a i<;>rfl
noncomputable def zfI:Mem→Nat→Option Ob:=fun l => @List.rec (Nat×Option Ob) (fun _=>Nat→Option Ob) (fun _=>none) (fun p _ ih i => @Prod.rec Nat (Option Ob) (fun _=>Option Ob) (fun a v => @Bool.rec (fun _=>Option Ob) (ih i) v (Nat.beq a i)) p) l
theorem zk5 (l:Mem):zfI l=l.get:=by
 funext i
 induction l with
 | nil=>rfl
 | cons p r ih =>
  obtain ⟨a,v⟩:=p
  show @Bool.rec (fun _=>Option Ob) (zfI r i) v (Nat.beq a i)=cond (Nat.beq a i) v (Mem.get r i)
  rw [ih];cases Nat.beq a i<;>rfl
noncomputable def zci (v:V):Bool := @V.rec (fun _=>Bool) (fun _=>Unit) (fun a=>true) (false) (false) (false) (fun a=>false) (fun a=>false) (fun a b=>false) (fun a b c=>false) (fun a b c=>false) (fun a=>false) (fun a=>false) (fun a b=>false) (fun a b c=>false) (fun a _=>false) (fun a _=>false) (fun a b _=>false) (fun a=>false) () (fun _ _ _ _=>()) v
theorem zi8 {v:V} (h:zci v=true) : ∃ x,v = .d x:=by cases v<;>first|exact ⟨_,rfl⟩|cases h
noncomputable def zne (l:List V):Bool := @List.rec V (fun _=>Bool) true (fun v _ ih => @Bool.rec (fun _=>Bool) false ih (zci v)) l
noncomputable def zzr (x:D):Option Bool := @D.rec (fun _=>Option Bool) (fun _=>Unit) (fun _=>Unit) (fun _=>Unit) (fun a=>some a) (fun a b=>none) (fun a=>none) (fun a=>none) (fun a _=>none) (fun a _=>none) (fun a b _=>none) (fun a _=>none) (fun a _=>none) (fun a b _=>none) (none) () (fun _ _ _ _=>()) () (fun _ _ _ _=>()) (fun _ _ _ _=>()) x
noncomputable def zlc (v:V):Option Bool := @V.rec (fun _=>Option Bool) (fun _=>Unit) (fun a=>zzr a) (some true) (some false) (none) (fun a=>none) (fun a=>none) (fun a b=>none) (fun a b c=>none) (fun a b c=>none) (fun a=>none) (fun a=>none) (fun a b=>none) (fun a b c=>none) (fun a _=>none) (fun a _=>none) (fun a b _=>none) (fun a=>none) () (fun _ _ _ _=>()) v
noncomputable def zh8 (v:V):Eff := @V.rec (fun _=>Eff) (fun _=>Unit) (fun a=>vd a) (val (.bt)) (val (.bf)) (.bad) (fun a=>val (.nils a)) (fun a=>val (.own a)) (fun a b=>val (.ptr a b)) (fun a b c=>val (.eptr a b c)) (fun a b c=>val (.dptr a b c)) (fun a=>val (.map a)) (fun a=>val (.iter a)) (fun a b=>val (.bown a b)) (fun a b c=>val (.view a b c)) (fun a _=>val (.agg a)) (fun a _=>val (.tup a)) (fun a b _=>val (.fn a b)) (fun a=>val (.yld a)) () (fun _ _ _ _=>()) v
theorem zkk (v:V):zh8 v=zcg v:=by cases v<;>rfl
noncomputable def zzD (x:D):(V→Option zn)→Option zn := @D.rec (fun _=>(V→Option zn)→Option zn) (fun _=>Unit) (fun _=>Unit) (fun _=>Unit) (fun a K=>cond a (K (.d (.bool true))) (K (.d (.bool false)))) (fun a b K=>znO b fun n=>K (.d (.int a n))) (fun a K=>znN a fun w=>K (.d (.u64 w))) (fun a K=>K (.d (.str a))) (fun a _ K=>K (.d (.agg a))) (fun a _ K=>K (.d (.tup a))) (fun a b _ K=>K (.d (.arr a b))) (fun a _ K=>K (.d (.box a))) (fun a _ K=>K (.d (.map a))) (fun a b _ K=>K (.d (.fn a b))) (fun K=>K (.d (.nil))) () (fun _ _ _ _=>()) () (fun _ _ _ _=>()) (fun _ _ _ _=>()) x
noncomputable def zxI (v:V):(V→Option zn)→Option zn := @V.rec (fun _=>(V→Option zn)→Option zn) (fun _=>Unit) (fun a K=>zzD a K) (fun K=>K (.bt)) (fun K=>K (.bf)) (fun K=>K (.undef)) (fun a K=>K (.nils a)) (fun a K=>K (.own a)) (fun a b K=>K (.ptr a b)) (fun a b c K=>K (.eptr a b c)) (fun a b c K=>K (.dptr a b c)) (fun a K=>K (.map a)) (fun a K=>K (.iter a)) (fun a b K=>K (.bown a b)) (fun a b c K=>K (.view a b c)) (fun a _ K=>K (.agg a)) (fun a _ K=>K (.tup a)) (fun a b _ K=>K (.fn a b)) (fun a K=>K (.yld a)) () (fun _ _ _ _=>()) v
theorem zwC (v:V) (K:V→Option zn):zxI v K=K v:=by
 cases v
 case d x =>
  cases x
  case bool b=>cases b<;>rfl
  case int k n=>exact zvb n fun n=>K (.d (.int k n))
  case u64 w=>exact zva w fun w=>K (.d (.u64 w))
  all_goals rfl
 all_goals rfl
noncomputable def zxH (op:BinOp):BitVec 64→BitVec 64→Eff := @BinOp.rec (fun _=>BitVec 64→BitVec 64→Eff) (fun a b=>vd (.u64 (a+b))) (fun a b=>vd (.u64 (a - b))) (fun a b=>vd (.u64 (a * b))) (fun a b => .need (b≠0#64) (vd (.u64 (a / b)))) (fun a b => .need (b≠0#64) (vd (.u64 (a % b)))) (fun a b=>vd (.u64 (a&&&b))) (fun a b=>vd (.u64 (a|||b))) (fun a b=>vd (.u64 (a ^^^ b))) (fun a b=>vd (.u64 (a <<< b.toNat))) (fun a b=>vd (.u64 (a >>> b.toNat))) (fun a b=>vd (.u64 (a &&& ~~~b))) (fun a b=>vb (decide (a=b))) (fun a b=>vb (decide (a≠b))) (fun a b=>vb (decide (a.toNat < b.toNat))) (fun a b=>vb (decide (a.toNat≤b.toNat))) (fun a b=>vb (decide (b.toNat < a.toNat))) (fun a b=>vb (decide (b.toNat≤a.toNat))) op
noncomputable def ztK (op:BinOp):IntKind→Int→Int→Eff := @BinOp.rec (fun _=>IntKind→Int→Int→Eff) (fun k a b=>vi k (a+b)) (fun k a b=>vi k (a - b)) (fun k a b=>vi k (a * b)) (fun k a b => .need (b≠0) (vi k (a.tdiv b))) (fun k a b => .need (b≠0) (vd (.int k (a.tmod b)))) (fun k a b=>vd (.int k (zaz k (fun p q=>p&&&q) a b))) (fun k a b=>vd (.int k (zaz k (fun p q=>p|||q) a b))) (fun k a b=>vd (.int k (zaz k (fun p q=>p ^^^ q) a b))) (fun k a b => .need (0≤b) (vi k (a * 2 ^ (min b.toNat k.bits)))) (fun k a b => .need (0≤b) (vd (.int k (a.fdiv (2 ^ (min b.toNat k.bits)))))) (fun k a b=>vd (.int k (zaz k (fun p q=>p &&& ~~~q) a b))) (fun k a b=>vb (decide (a=b))) (fun k a b=>vb (decide (a≠b))) (fun k a b=>vb (decide (a < b))) (fun k a b=>vb (decide (a≤b))) (fun k a b=>vb (decide (b < a))) (fun k a b=>vb (decide (b≤a))) op
noncomputable def zzC (op:BinOp):BitVec 64→Int→Eff := @BinOp.rec (fun _=>BitVec 64→Int→Eff) (fun a b => .bad) (fun a b => .bad) (fun a b => .bad) (fun a b => .bad) (fun a b => .bad) (fun a b => .bad) (fun a b => .bad) (fun a b => .bad) (fun a b => .need (0≤b) (vd (.u64 (a <<< b.toNat)))) (fun a b => .need (0≤b) (vd (.u64 (a >>> b.toNat)))) (fun a b => .bad) (fun a b => .bad) (fun a b => .bad) (fun a b => .bad) (fun a b => .bad) (fun a b => .bad) (fun a b => .bad) op
noncomputable def zzB (y:D):BitVec 64→BinOp→Eff := @D.rec (fun _=>BitVec 64→BinOp→Eff) (fun _=>Unit) (fun _=>Unit) (fun _=>Unit) (fun a w op => .bad) (fun a b w op=>zzC op w b) (fun a w op=>zxH op w a) (fun a w op => .bad) (fun a _ w op => .bad) (fun a _ w op => .bad) (fun a b _ w op => .bad) (fun a _ w op => .bad) (fun a _ w op => .bad) (fun a b _ w op => .bad) (fun w op => .bad) () (fun _ _ _ _=>()) () (fun _ _ _ _=>()) (fun _ _ _ _=>()) y
noncomputable def zzz (y:D):IntKind→Int→BinOp→Eff := @D.rec (fun _=>IntKind→Int→BinOp→Eff) (fun _=>Unit) (fun _=>Unit) (fun _=>Unit) (fun a k n op => .bad) (fun a b k n op=>cond (decide (k=a)) (ztK op k n b) .bad) (fun a k n op => .bad) (fun a k n op => .bad) (fun a _ k n op => .bad) (fun a _ k n op => .bad) (fun a b _ k n op => .bad) (fun a _ k n op => .bad) (fun a _ k n op => .bad) (fun a b _ k n op => .bad) (fun k n op => .bad) () (fun _ _ _ _=>()) () (fun _ _ _ _=>()) (fun _ _ _ _=>()) y
noncomputable def zzy (y:V):BitVec 64→BinOp→Eff := @V.rec (fun _=>BitVec 64→BinOp→Eff) (fun _=>Unit) (fun a w op=>zzB a w op) (fun w op => .bad) (fun w op => .bad) (fun w op => .bad) (fun a w op => .bad) (fun a w op => .bad) (fun a b w op => .bad) (fun a b c w op => .bad) (fun a b c w op => .bad) (fun a w op => .bad) (fun a w op => .bad) (fun a b w op => .bad) (fun a b c w op => .bad) (fun a _ w op => .bad) (fun a _ w op => .bad) (fun a b _ w op => .bad) (fun a w op => .bad) () (fun _ _ _ _=>()) y
noncomputable def zzw (y:V):IntKind→Int→BinOp→Eff := @V.rec (fun _=>IntKind→Int→BinOp→Eff) (fun _=>Unit) (fun a k n op=>zzz a k n op) (fun k n op => .bad) (fun k n op => .bad) (fun k n op => .bad) (fun a k n op => .bad) (fun a k n op => .bad) (fun a b k n op => .bad) (fun a b c k n op => .bad) (fun a b c k n op => .bad) (fun a k n op => .bad) (fun a k n op => .bad) (fun a b k n op => .bad) (fun a b c k n op => .bad) (fun a _ k n op => .bad) (fun a _ k n op => .bad) (fun a b _ k n op => .bad) (fun a k n op => .bad) () (fun _ _ _ _=>()) y
noncomputable def zuH (op:BinOp) (a b:List UInt8):Eff := @BinOp.rec (fun _=>Eff) (.need ((a.length:Int)+b.length≤9223372036854775807) (vd (.str (a++b)))) .bad .bad .bad .bad .bad .bad .bad .bad .bad .bad .bad .bad .bad .bad .bad .bad op
noncomputable def zzA (y:D):List UInt8→BinOp→Eff := @D.rec (fun _=>List UInt8→BinOp→Eff) (fun _=>Unit) (fun _=>Unit) (fun _=>Unit) (fun a w op => .bad) (fun a b w op => .bad) (fun a w op => .bad) (fun a w op=>zuH op w a) (fun a _ w op => .bad) (fun a _ w op => .bad) (fun a b _ w op => .bad) (fun a _ w op => .bad) (fun a _ w op => .bad) (fun a b _ w op => .bad) (fun w op => .bad) () (fun _ _ _ _=>()) () (fun _ _ _ _=>()) (fun _ _ _ _=>()) y
noncomputable def zzx (y:V):List UInt8→BinOp→Eff := @V.rec (fun _=>List UInt8→BinOp→Eff) (fun _=>Unit) (fun a w op=>zzA a w op) (fun w op => .bad) (fun w op => .bad) (fun w op => .bad) (fun a w op => .bad) (fun a w op => .bad) (fun a b w op => .bad) (fun a b c w op => .bad) (fun a b c w op => .bad) (fun a w op => .bad) (fun a w op => .bad) (fun a b w op => .bad) (fun a b c w op => .bad) (fun a _ w op => .bad) (fun a _ w op => .bad) (fun a b _ w op => .bad) (fun a w op => .bad) () (fun _ _ _ _=>()) y
noncomputable def zzS (x:D):V→BinOp→Eff := @D.rec (fun _=>V→BinOp→Eff) (fun _=>Unit) (fun _=>Unit) (fun _=>Unit) (fun a y op => .bad) (fun a b y op=>zzw y a b op) (fun a y op=>zzy y a op) (fun a y op=>zzx y a op) (fun a _ y op => .bad) (fun a _ y op => .bad) (fun a b _ y op => .bad) (fun a _ y op => .bad) (fun a _ y op => .bad) (fun a b _ y op => .bad) (fun y op => .bad) () (fun _ _ _ _=>()) () (fun _ _ _ _=>()) (fun _ _ _ _=>()) x
noncomputable def zyN (x:V):V→BinOp→Eff := @V.rec (fun _=>V→BinOp→Eff) (fun _=>Unit) (fun a y op=>zzS a y op) (fun y op => .bad) (fun y op => .bad) (fun y op => .bad) (fun a y op => .bad) (fun a y op => .bad) (fun a b y op => .bad) (fun a b c y op => .bad) (fun a b c y op => .bad) (fun a y op => .bad) (fun a y op => .bad) (fun a b y op => .bad) (fun a b c y op => .bad) (fun a _ y op => .bad) (fun a _ y op => .bad) (fun a b _ y op => .bad) (fun a y op => .bad) () (fun _ _ _ _=>()) x
theorem zwt (op:BinOp) (a b:BitVec 64):zxH op a b=zqZ op a b:=by cases op<;>rfl
theorem zws (op:BinOp) (k:IntKind) (a b:Int):ztK op k a b=zox op k a b:=by cases op<;>rfl
theorem zuI (op:BinOp) (a b:List UInt8):zuH op a b=ztL op a b:=by cases op<;>rfl
theorem zxX (op:BinOp) (x y:V):zyN x y op=zq0 op x y:=by
 cases x
 case d a =>
  cases a
  case u64 w =>
   cases y
   case d b =>
    cases b
    case u64 v=>exact zwt op w v
    case int k n=>cases op<;>rfl
    all_goals rfl
   all_goals rfl
  case int k n =>
   cases y
   case d b =>
    cases b
    case int k' m =>
     show cond (decide (k=k')) (ztK op k n m) .bad=cond (decide (k=k')) (zox op k n m) .bad
     rw [zws]
    all_goals rfl
   all_goals rfl
  case str s =>
   cases y
   case d b =>
    cases b
    case str t=>exact zuI op s t
    all_goals rfl
   all_goals rfl
  all_goals (cases y<;>rfl)
 all_goals (cases y<;>rfl)
def zxL (agg:Option Nat) (o:Nat):Option Ob→Eff
 | some (.box cs)=>zaF cs o agg
 | _ => .bad
noncomputable def zxK (a:V):(Nat→Option Ob)→Option Nat→Eff := @V.rec (fun _=>(Nat→Option Ob)→Option Nat→Eff) (fun _=>Unit) (fun a M g=>zav M g (.d a)) (fun M g=>zav M g (.bt)) (fun M g=>zav M g (.bf)) (fun M g=>zav M g (.undef)) (fun a M g=>zav M g (.nils a)) (fun a M g=>zav M g (.own a)) (fun a b M g=>zxL g b (M a)) (fun a b c M g=>zav M g (.eptr a b c)) (fun a b c M g=>zav M g (.dptr a b c)) (fun a M g=>zav M g (.map a)) (fun a M g=>zav M g (.iter a)) (fun a b M g=>zav M g (.bown a b)) (fun a b c M g=>zav M g (.view a b c)) (fun a _ M g=>zav M g (.agg a)) (fun a _ M g=>zav M g (.tup a)) (fun a b _ M g=>zav M g (.fn a b)) (fun a M g=>zav M g (.yld a)) () (fun _ _ _ _=>()) a
theorem zwW (a:V) (M:Nat→Option Ob) (g:Option Nat):zxK a M g=zav M g a:=by
 cases a
 case ptr id o =>
  show zxL g o (M id)=match M id with
   | some (.box cs)=>zaF cs o g
   | _ => .bad
  generalize M id=x
  cases x with
  | none=>rfl
  | some x=>cases x<;>rfl
 all_goals rfl
noncomputable def Eff.ev (call:Nat→List V→(V→Upd→Nat→Option zn)→Option zn) (sec:Bool) (K:V→Upd→Nat→Option zn) (e:Eff):Option zn :=
 @Eff.rec (fun _=>Bool→Option zn) (fun _=>none) (fun v u k _=>zxI v fun v=>K v u k) (fun _ d _ ih c => @Bool.rec (fun _=>Option zn) none (ih c) (@decide _ d)) (fun _ _ ih=>ih)
  (fun _ d _ _ a b c => @Bool.rec (fun _=>Option zn) (@Bool.rec (fun _=>Option zn) (b false) (a false) (@decide _ d)) (b false) c) (fun xs i _ ih c=>cond (decide (0≤i)) (match xs[i.toNat]? with
   | some x=>ih x c
   | none=>none) none)
  (fun es k _ ih c=>match zz es k with
   | some r=>ih r c
   | none=>none) (fun f vs _=>call f vs K) e sec
structure Rn where
 sec:Bool
 call:(M:Nat→Option Ob)→(n:Nat)→Nat→List V→(V→Upd→Nat→Option zn)→Option zn
 iter:(M:Nat→Option Ob)→(n:Nat)→Nat→List V→Option (List (List D)×Upd)
 n0:Nat
mutual
def D.eqq:Nat→D→D→Bool
 | 0,_,_=>false
 | k+1,x,y=>match x,y with
  | .bool a,.bool b=>a==b
  | .int i a,.int j b=>decide (i=j)&&decide (a=b)
  | .u64 a,.u64 b=>decide (a=b)
  | .str a,.str b=>decide (a=b)
  | .agg a,.agg b=>eqqs k a b
  | .tup a,.tup b=>eqqs k a b
  | .arr s a,.arr t b=>Nat.beq s t&&eqqs k a b
  | .box a,.box b=>eqqs k a b
  | .map a,.map b=>eqqm k a b
  | .fn f a,.fn g b=>Nat.beq f g&&eqqs k a b
  | .nil,.nil=>true
  | _,_=>false
def eqqs:Nat→List D→List D→Bool
 | 0,_,_=>false
 | _+1,[],[]=>true
 | k+1,x::r,y::s=>D.eqq k x y&&eqqs k r s
 | _,_,_=>false
def eqqm:Nat→List (D×D)→List (D×D)→Bool
 | 0,_,_=>false
 | _+1,[],[]=>true
 | k+1,x::r,y::s=>D.eqq k x.1 y.1&&D.eqq k x.2 y.2&&eqqm k r s
 | _,_,_=>false
end
mutual
def V.eqq:Nat→V→V→Bool
 | 0,_,_=>false
 | k+1,x,y=>match x,y with
  | .d a,.d b=>D.eqq k a b
  | .bt,.bt=>true
  | .bf,.bf=>true
  | .undef,.undef=>true
  | .nils a,.nils b=>Nat.beq a b
  | .own a,.own b=>Nat.beq a b
  | .ptr a o,.ptr b p=>Nat.beq a b&&Nat.beq o p
  | .eptr a i o,.eptr b j p=>Nat.beq a b&&Nat.beq i j&&Nat.beq o p
  | .dptr s a o,.dptr t b p=>Nat.beq s t&&D.eqq k a b&&Nat.beq o p
  | .map a,.map b=>Nat.beq a b
  | .iter a,.iter b=>Nat.beq a b
  | .bown a o,.bown b p=>Nat.beq a b&&Nat.beq o p
  | .view a i o,.view b j p=>Nat.beq a b&&Nat.beq i j&&Nat.beq o p
  | .agg a,.agg b=>V.eqqs k a b
  | .tup a,.tup b=>V.eqqs k a b
  | .fn f a,.fn g b=>Nat.beq f g&&V.eqqs k a b
  | .yld a,.yld b=>Nat.beq a b
  | _,_=>false
def V.eqqs:Nat→List V→List V→Bool
 | 0,_,_=>false
 | _+1,[],[]=>true
 | k+1,x::r,y::s=>V.eqq k x y&&V.eqqs k r s
 | _,_,_=>false
end
def zft:Env→Env→Bool
 | [],[]=>true
 | (a,x)::r,(b,y)::s=>Nat.beq a b&&V.eqq 1000 x y&&zft r s
 | _,_=>false
def zug:Option Ob→Option Ob→Bool
 | none,none=>true
 | some (.row a xs),some (.row b ys)=>Nat.beq a b&&eqqs 100000 xs ys
 | some (.box a),some (.box b)=>V.eqqs 1000 a b
 | some (.map a),some (.map b)=>eqqm 100000 a b
 | _,_=>false
def zin:List (Option Ob)→List (Option Ob)→Bool
 | [],[]=>true
 | x::r,y::s=>zug x y&&zin r s
 | _,_=>false
def zqN (a b:zn):Bool:=V.eqq 1000 a.1 b.1&&zin a.2 b.2
def ztN (a b:Option zn):Option zn:=match a,b with
 | some x,some y=>cond (zqN x y) (some x) none
 | _,_=>none
def zmt (f:Nat→D→D→Option zn):Nat→List (D×D)→Option zn
 | _,[]=>none
 | i,p::l=>match l with
  | []=>f i p.1 p.2
  | _::_=>ztN (f i p.1 p.2) (zmt f (i+1) l)
abbrev zqR:=(Nat→V)→(Nat→Option Ob)→Mem→Nat→Option ((V→Mem→Nat→Option zn)→Option zn)
def zhP (it:Arg):zqR:=fun ρ M mem n=>match it.ev ρ with
 | .iter id=>some fun K=>match M id with
  | some (.iter left _)=>match left with
   | []=>K (.d (.tup [.bool false])) mem n
   | p::l=>zmt (fun i k v=>K (.d (.tup [.bool true,k,v])) ((id,some (.iter (left.eraseIdx i) (some (k,v))))::mem) n) 0 left
  | _=>none
 | _=>none
def zuf (neg:Bool) (xs:List D) (mem:Mem) (n:Nat):Option ((V→Mem→Nat→Option zn)→Option zn):=some fun K=>match xs with
 | []=>ztN (K (.d (.bool (true != neg))) mem n) (K (.d (.bool (false != neg))) mem n)
 | _::_=>K (.d (.bool (false != neg))) mem n
def zj1 (neg:Bool) (x y:Arg):zqR:=fun ρ M mem n=>match x.ev ρ,y.ev ρ with
 | .d (.arr _ xs),.nils _=>zuf neg xs mem n
 | .own id,.nils _=>match M id with
  | some (.row _ xs)=>zuf neg xs mem n
  | _=>none
 | _,_=>none
def zhO (g:Arg):zqR:=fun ρ _ _ _=>match g.ev ρ with
 | .yld _=>some fun _=>none
 | _=>none
noncomputable def zk2 (o:CO):zqR :=
 @CO.rec (fun _=>zqR) (fun _ _ _ _ _=>none) (fun _ _ _ _ _ _ _=>none) (fun _ _ _ _ _ _ _=>none) (fun _ _ _ _ _ _ _=>none) zj1 (fun _ _ _ _ _ _ _ _=>none) (fun _ _ _ _ _ _=>none) (fun _ _ _ _ _ _=>none) (fun _ _ _ _ _=>none) (fun _ _ _ _ _ _=>none) (fun _ _ _ _ _ _=>none) (fun _ _ _ _ _ _ _ _=>none) (fun _ _ _ _ _ _=>none) (fun _ _ _ _ _ _ _=>none) (fun _ _ _ _ _=>none) (fun _ _ _ _ _ _=>none) (fun _ _ _ _=>none) (fun _ _ _ _ _ _ _ _ _=>none) (fun _ _ _ _ _ _ _ _=>none) (fun _ _ _ _ _ _=>none) (fun _ _ _ _ _ _ _=>none) (fun _ _ _ _ _ _ _=>none) (fun _ _ _ _ _ _ _ _=>none) (fun _ _ _ _ _ _ _ _ _=>none) (fun _ _ _ _ _ _ _ _ _=>none) (fun _ _ _ _ _ _ _ _=>none) (fun _ _ _ _ _=>none) zhP (fun _ _ _ _ _=>none) (fun _ _ _ _ _ _=>none) (fun _ _ _ _ _=>none) (fun _ _ _ _ _=>none) (fun _ _ _ _ _=>none) (fun _ _ _ _ _ _ _=>none) (fun _ _ _ _ _ _ _ _=>none) (fun _ _ _ _ _ _ _=>none) (fun _ _ _ _ _ _=>none) (fun g _=>zhO g) o
noncomputable def zj2 (o:CO):(Nat→V)→(Nat→Option Ob)→Nat→Eff :=
 @CO.rec (fun _=>(Nat→V)→(Nat→Option Ob)→Nat→Eff)
  (fun x ρ M n=>zh8 (x.ev ρ))
  (fun c a b ρ M n=>match c.ev ρ with
   | .bt=>zcg (a.ev ρ)
   | .bf=>zcg (b.ev ρ)
   | .d (.bool c)=>match toB (a.ev ρ),toB (b.ev ρ) with
    | some a,some b=>vb (cond c a b)
    | _,_ => .bad
   | _ => .bad)
  (fun op x y ρ M n=>zyN (x.ev ρ) (y.ev ρ) op)
  (fun neg x y ρ M n=>match toB (x.ev ρ),toB (y.ev ρ) with
   | some a,some b=>vb (cond neg (a != b) (a==b))
   | _,_ => .bad)
  (fun neg x y ρ M n=>ztX neg (x.ev ρ) (y.ev ρ))
  (fun neg l x y ρ M n=>ztY neg l (x.ev ρ) (y.ev ρ))
  (fun op x ρ M n=>match op,x.ev ρ with
   | .neg,.d (.int k a)=>vi k (-a)
   | .neg,.d (.u64 w)=>vd (.u64 (-w))
   | .xor,.d (.u64 w)=>vd (.u64 (~~~w))
   | .not,.d (.bool b)=>vb (!b)
   | .not,.bt=>val .bf
   | .not,.bf=>val .bt
   | _,_ => .bad)
  (fun k x ρ M n=>zqI k (x.ev ρ))
  (fun z ρ M n=>cond (z.all V.isCell) (.ok (.ptr n 0) [(n,some (.box z))] 1) .bad)
  (fun m x ρ M n=>cond (Nat.beq (x.ev ρ).cells.length m&&(x.ev ρ).cells.all V.isCell) (.ok (.ptr n 0) [(n,some (.box (x.ev ρ).cells))] 1) .bad)
  (fun z ps ρ M n=>cond (z.all V.isCell) (match zfm z (zbV ρ ps) with
   | some cs=>val (zk8 cs)
   | none => .bad) .bad)
  (fun sz len z ps ρ M n=>zk0 M n sz len z (zD ρ ps))
  (fun agg a ρ M n=>zxK (a.ev ρ) M agg)
  (fun m a x ρ M n=>zeQ M m (a.ev ρ) (x.ev ρ))
  (fun x ρ M n=>match x.ev ρ with
   | .ptr i o=>val (.ptr i o)
   | .fn f cs=>val (.fn f cs)
   | .yld l=>val (.yld l)
   | .d (.fn f cs)=>vd (.fn f cs)
   | .d (.box cs)=>vd (.box cs)
   | _ => .bad)
  (fun f cs ρ M n=>val (.fn f (evs ρ cs)))
  (fun  ρ M n => .ok (.map n) [(n,some (.map []))] 1)
  (fun sz _ z l c ρ M n=>match l.ev ρ,c.ev ρ,zcq M z with
   | .d (.int _ a),.d (.int _ b),some x=>cond (x.fits sz) (.need (0≤a∧a≤b∧b≤1073741824) (.ok (.own n) [(n,some (.row sz (List.replicate a.toNat x)))] 1)) .bad
   | _,_,_ => .bad)
  (fun sz x lo hi ρ M n=>zd8 M n sz (x.ev ρ) (oev ρ lo) (oev ρ hi))
  (fun o x ρ M n=>match x.ev ρ with
   | .ptr i p=>val (.ptr i (p+o))
   | .eptr i j p=>val (.eptr i j (p+o))
   | .dptr s x p=>val (.dptr s x (p+o))
   | .d (.box cs)=>cond (Nat.beq cs.length 1) .bad (val (.dptr cs.length (.agg cs) o))
   | _ => .bad)
  (fun o agg x ρ M n=>match zgw (x.ev ρ) with
   | some cs=>zaF cs o agg
   | none => .bad)
  (fun sz x i ρ M n=>zrM sz M (x.ev ρ) (i.ev ρ))
  (fun m sz x i ρ M n=>match x.ev ρ,i.ev ρ with
   | .ptr id p,.d (.int _ a) => .need (0≤a∧a < m) (val (.ptr id (p+a.toNat * sz)))
   | _,_ => .bad)
  (fun m sz agg x i ρ M n=>match i.ev ρ with
   | .d (.int _ a)=>match zgw (x.ev ρ) with
    | some cs => .need (0≤a∧a < m) (zaF cs (a.toNat * sz) agg)
    | none => .bad
   | _ => .bad)
  (fun kk z x k ok ρ M n=>zhl M kk z (x.ev ρ) (k.ev ρ) ok)
  (fun kk m k x ρ M n=>zk9 M kk (m.ev ρ) (k.ev ρ) (x.ev ρ))
  (fun x ρ M n=>ziv M n (x.ev ρ))
  (fun _ _ _ _ => .bad)
  (fun x ρ M n=>zhS M (x.ev ρ))
  (fun x k ρ M n=>match x.ev ρ with
   | .d (.tup cs)=>match cs[k]? with
    | some y=>vd y
    | none => .bad
   | .tup cs=>zcg (cs.getD k .undef)
   | _ => .bad)
  (fun x ρ M n=>zpc M (x.ev ρ))
  (fun x ρ M n=>match x.ev ρ with
   | .d (.str s)=>vd (.int .i64 s.length)
   | _ => .bad)
  (fun x ρ M n=>zk7 M (x.ev ρ))
  (fun sz z x ρ M n=>zhN M sz z (x.ev ρ))
  (fun sz _ x y ρ M n=>zmc M n sz (x.ev ρ) (y.ev ρ))
  (fun mx x y ρ M n=>mmV mx (x.ev ρ) (y.ev ρ))
  (fun f xs ρ M n => .call f (evs ρ xs))
  (fun g xs ρ M n=>match g.ev ρ with
   | .fn f cs => .call f (evs ρ xs++cs)
   | .d (.fn f cs) => .call f (evs ρ xs++cs.map .d)
   | _ => .bad) o
theorem zoS (o:CO):zj2 o=zk o:=by
 cases o
 case mv x=>funext ρ M n;exact zkk _
 case bin op x y=>funext ρ M n;exact zxX op _ _
 case load g a=>funext ρ M n;exact zwW _ M g
 all_goals rfl
noncomputable def zvi (o:CO):Bool := @CO.rec (fun _=>Bool) (fun _=>false) (fun _ _ _=>true) (fun _ _ _=>false) (fun _ _ _=>false) (fun _ _ _=>false) (fun _ _ _ _=>false) (fun _ _=>false) (fun _ _=>false) (fun _=>false) (fun _ _=>false) (fun _ _=>false) (fun _ _ _ _=>false) (fun _ _=>false) (fun _ _ _=>false) (fun _=>false) (fun _ _=>false) false (fun _ _ _ _ _=>false) (fun _ _ _ _=>false) (fun _ _=>false) (fun _ _ _=>false) (fun _ _ _=>false) (fun _ _ _ _=>false) (fun _ _ _ _ _=>false) (fun _ _ _ _ _=>false) (fun _ _ _ _=>false) (fun _=>false) (fun _=>false) (fun _=>false) (fun _ _=>false) (fun _=>false) (fun _=>false) (fun _=>false) (fun _ _ _=>false) (fun _ _ _ _=>false) (fun _ _ _=>false) (fun _ _=>false) (fun _ _=>false) o
noncomputable def zyd (o:CO):Bool := @CO.rec (fun _=>Bool) (fun _=>false) (fun _ _ _=>false) (fun _ _ _=>false) (fun _ _ _=>false) (fun _ _ _=>false) (fun _ _ _ _=>false) (fun _ _=>false) (fun _ _=>false) (fun _=>false) (fun _ _=>false) (fun _ _=>false) (fun _ _ _ _=>true) (fun _ _=>false) (fun _ _ _=>false) (fun _=>false) (fun _ _=>false) false (fun _ _ _ _ _=>false) (fun _ _ _ _=>false) (fun _ _=>false) (fun _ _ _=>false) (fun _ _ _=>false) (fun _ _ _ _=>false) (fun _ _ _ _ _=>false) (fun _ _ _ _ _=>false) (fun _ _ _ _=>false) (fun _=>false) (fun _=>false) (fun _=>false) (fun _ _=>false) (fun _=>false) (fun _=>false) (fun _=>false) (fun _ _ _=>false) (fun _ _ _ _=>false) (fun _ _ _=>false) (fun _ _=>false) (fun _ _=>false) o
noncomputable def znS (o:CO):Bool := @CO.rec (fun _=>Bool) (fun _=>false) (fun _ _ _=>false) (fun _ _ _=>false) (fun _ _ _=>false) (fun _ _ _=>false) (fun _ _ _ _=>false) (fun _ _=>false) (fun _ _=>false) (fun _=>false) (fun _ _=>false) (fun _ _=>false) (fun _ _ _ _=>false) (fun _ _=>false) (fun _ _ _=>false) (fun _=>false) (fun _ _=>false) false (fun _ _ _ _ _=>false) (fun _ _ _ _=>false) (fun _ _=>false) (fun _ _ _=>false) (fun _ _ _=>false) (fun _ _ _ _=>false) (fun _ _ _ _ _=>false) (fun _ _ _ _ _=>false) (fun _ _ _ _=>false) (fun _=>false) (fun _=>false) (fun _=>false) (fun _ _=>false) (fun _=>false) (fun _=>false) (fun _=>false) (fun _ _ _=>false) (fun _ _ _ _=>true) (fun _ _ _=>false) (fun _ _=>false) (fun _ _=>false) o
noncomputable def zzN (δ:Dec) (c a b:Arg):(Nat→V)→(Nat→Option Ob)→Nat→Eff:=fun ρ M n=>match c with
 | .t c=>(match δ.get c with
  | some true=>zh8 (a.ev ρ)
  | some false=>zh8 (b.ev ρ)
  | none=>zj2 (.pick (.t c) a b) ρ M n)
 | .c v=>zj2 (.pick (.c v) a b) ρ M n
noncomputable def zqJ (δ:Dec) (o:CO):(Nat→V)→(Nat→Option Ob)→Nat→Eff :=
 @Bool.rec (fun _=>(Nat→V)→(Nat→Option Ob)→Nat→Eff) (zj2 o) (match o with
  | .pick c a b=>zzN δ c a b
  | o=>zj2 o) (zvi o)
noncomputable def zxQ (S:Rn) (o:CO):Bool := @Bool.rec (fun _=>Bool) false S.sec (zyd o)
noncomputable def zzd (v:V):Bool := @V.rec (fun _=>Bool) (fun _=>Unit) (fun a=>false) (false) (false) (false) (fun a=>false) (fun a=>false) (fun a b=>false) (fun a b c=>false) (fun a b c=>false) (fun a=>false) (fun a=>false) (fun a b=>false) (fun a b c=>false) (fun a _=>false) (fun a _=>a.isEmpty) (fun a b _=>false) (fun a=>false) () (fun _ _ _ _=>()) v
noncomputable def zgg (δ:Dec) (ρ:Nat→V) (g:Nat×Bool) (yes no:Dec→Option zn):Option zn :=
 match δ.get g.1 with
 | some b=>cond (b==g.2) (yes δ) (no δ)
 | none=>match zlc (ρ g.1) with
  | some b=>cond (b==g.2) (yes (cond (zci (ρ g.1)) ((g.1,b)::δ) δ)) (no (cond (zci (ρ g.1)) ((g.1,b)::δ) δ))
  | none=>cond (zzd (ρ g.1)) (no δ) none
noncomputable def zgC (d:Option Nat) (δ:Dec):Dec := @List.rec (Nat×Bool) (fun _=>Dec) [] (fun p r ih=>Dec.del d (p::r)) δ
theorem zk1 (d:Option Nat) (δ:Dec):zgC d δ=δ.del d:=by cases δ<;>rfl
noncomputable def zdZ (d:Option Nat) (v:V) (env:Env):Env := @Option.rec Nat (fun _=>Env) env (fun d=>(d,v)::env) d
theorem zgm (d:Option Nat) (v:V) (env:Env):zdZ d v env=zS d v env:=by cases d<;>rfl
noncomputable def zir (S:Rn) (o:COp) (δ:Dec) (env:Env) (mem:Mem) (n:Nat) (l:List za3) (next:Dec→Env→Mem→Nat→List za3→Option zn):Option zn :=
 (zqJ δ o.op (zcv env) (zfI mem) n).ev (S.call (zfI mem) n) (zxQ S o.op) fun v u k =>
  @List.rec (Nat×Option Ob) (fun _=>Option zn) (next (zgC o.dst δ) (zdZ o.dst v env) mem (n+k) (l++[⟨zau o.op (zcv env) (zfI mem),[],za6 o.op (zcv env) v,[]⟩]))
   (fun _ _ _=>next (zgC o.dst δ) (zdZ o.dst v env) (zP u mem) (n+k) (l++[⟨zau o.op (zcv env) (zfI mem),u.map Prod.fst,za6 o.op (zcv env) v,u⟩])) u
noncomputable def znE (S:Rn) (K:Env→Mem→Nat→List za3→Option zn) (ops:List COp):Dec→Env→Mem→Nat→List za3→Option zn :=
 @List.rec COp (fun _=>Dec→Env→Mem→Nat→List za3→Option zn) (fun _ env mem n l=>K env mem n l)
  (fun o _ next δ env mem n l=>match o.guard with
   | none=>zir S o δ env mem n l next
   | some g=>zgg δ (zcv env) g (fun δ=>zir S o δ env mem n l next)
     (fun δ=>next (zgC o.dst δ) (zdZ o.dst (.tup []) env) mem n (l++[⟨[],[],none,[]⟩]))) ops
def ztH (u:Upd) (mem:Mem) (env:Env) (k:Env→Option zn):Option zn:=match u with
  | (id,none)::_=>match mem.get id with
   | some (.row _ xs)=>(match (zP u mem).get id with
    | none=>k (zfc id xs.length env)
    | some _=>k env)
   | _=>k env
  | _=>k env
noncomputable def zgn (S:Rn) (o:COp) (δ:Dec) (env:Env) (mem:Mem) (n:Nat) (next:Dec→Env→Mem→Nat→Option zn):Option zn :=
 match zk2 o.op (zcv env) (zfI mem) mem n with
 | some f=>f fun v mem n=>next (zgC o.dst δ) (zdZ o.dst v env) mem n
 | none=>(zqJ δ o.op (zcv env) (zfI mem) n).ev (S.call (zfI mem) n) (zxQ S o.op) fun v u k =>
   @Bool.rec (fun _=>Option zn) (@List.rec (Nat×Option Ob) (fun _=>Option zn) (next (zgC o.dst δ) (zdZ o.dst v env) mem (n+k)) (fun _ _ _=>next (zgC o.dst δ) (zdZ o.dst v env) (zP u mem) (n+k)) u) (ztH u mem env fun env=>next (zgC o.dst δ) (zdZ o.dst v env) (zP u mem) (n+k)) (znS o.op)
noncomputable def znG (S:Rn) (K:Env→Mem→Nat→Option zn) (ops:List COp):Dec→Env→Mem→Nat→Option zn :=
 @List.rec COp (fun _=>Dec→Env→Mem→Nat→Option zn) (fun _ env mem n=>K env mem n)
  (fun o _ next δ env mem n=>match o.guard with
   | none=>zgn S o δ env mem n next
   | some g=>zgg δ (zcv env) g (fun δ=>zgn S o δ env mem n next)
     (fun δ=>next (zgC o.dst δ) (zdZ o.dst (.tup []) env) mem n)) ops
def zhJ (n0:Nat) (mem:Mem):List Nat→List Nat→List Nat
 | [],acc=>acc
 | i::r,acc=>cond (Nat.blt i n0||acc.contains i) (zhJ n0 mem r acc) (match mem.get i with
  | some _=>zhJ n0 mem r (acc++[i])
  | none=>zhJ n0 mem r acc)
noncomputable def zuR (l:Env):List Nat := @List.rec (Nat×V) (fun _=>List Nat) [] (fun p _ ih => @Bool.rec (fun _=>List Nat) (V.deepIds 20 p.2++ih) ih (zci p.2)) l
def zq2 (mem:Mem):List Nat→List Nat
 | []=>[]
 | i::r=>(match mem.get i with
  | some (.box cs)=>deepIdss 20 cs
  | _=>[])++zq2 mem r
def grow (n0:Nat) (mem:Mem):Nat→Nat→List Nat→List Nat
 | 0,_,acc=>acc
 | k+1,j,acc=>match acc[j]? with
  | none=>acc
  | some i=>grow n0 mem k (j+1) (zhJ n0 mem (zq2 mem [i]) acc)
def zmy (mem:Mem):Nat→List Nat
 | 0=>[]
 | k+1=>zmy mem k++(match mem.get k with
  | some _=>[k]
  | none=>[])
def zik (n0:Nat) (mem:Mem) (roots:List Nat):List Nat :=
 grow n0 mem 1000 0 (zhJ n0 mem roots (zhJ n0 mem (zq2 mem (zmy mem n0)) []))
def zoi (n0:Nat) (mem:Mem) (ids:List Nat):List (Nat×Nat):=(zmy mem n0).map (fun i=>(i,i))++go n0 ids
where
 go:Nat→List Nat→List (Nat×Nat)
  | _,[]=>[]
  | k,i::r=>(k,i)::go (k+1) r
def zxJ:List (Nat×Nat)→Nat→Option Nat
 | [],_=>none
 | (a,b)::r,i=>cond (Nat.beq b i) (some a) (zxJ r i)
def zfn (r:List (Nat×Nat)) (i:Nat):Option Nat:=match zxJ r i with
 | some j=>(match zbo r j with
  | some i'=>cond (Nat.beq i' i) (some j) none
  | none=>none)
 | none=>none
mutual
def rnV (r:List (Nat×Nat)):Nat→V→Option V
 | 0,_=>none
 | k+1,v=>match v with
  | .own i=>(match zfn r i with|some j=>some (.own j)|none=>some .undef)
  | .ptr i o=>(match zfn r i with|some j=>some (.ptr j o)|none=>some .undef)
  | .eptr i a o=>(match zfn r i with|some j=>some (.eptr j a o)|none=>some .undef)
  | .map i=>(match zfn r i with|some j=>some (.map j)|none=>some .undef)
  | .iter i=>(match zfn r i with|some j=>some (.iter j)|none=>some .undef)
  | .bown i l=>(match zfn r i with|some j=>some (.bown j l)|none=>some .undef)
  | .view i o l=>(match zfn r i with|some j=>some (.view j o l)|none=>some .undef)
  | .agg cs=>(match rnVs r k cs with|some l=>some (.agg l)|none=>none)
  | .tup cs=>(match rnVs r k cs with|some l=>some (.tup l)|none=>none)
  | .fn f cs=>(match rnVs r k cs with|some l=>some (.fn f l)|none=>none)
  | .d x=>some (.d x)
  | .bt=>some .bt
  | .bf=>some .bf
  | .undef=>some .undef
  | .nils s=>some (.nils s)
  | .dptr s x o=>some (.dptr s x o)
  | .yld l=>some (.yld l)
def rnVs (r:List (Nat×Nat)):Nat→List V→Option (List V)
 | 0,_=>none
 | _+1,[]=>some []
 | k+1,v::l=>match rnV r k v,rnVs r k l with
  | some x,some y=>some (x::y)
  | _,_=>none
end
def zeC (t:Nat):Nat:=Nat.add (Nat.mul 3 (Nat.mod t zf)) (Nat.div t zf)
noncomputable def zjj (r:List (Nat×Nat)) (l:Env):Nat→Env := @List.rec (Nat×V) (fun _=>Nat→Env) (fun _=>[])
 (fun p _ ih s => @Prod.rec Nat V (fun _=>Env) (fun t v => @Bool.rec (fun _=>Env)
  (@Bool.rec (fun _=>Env) (match rnV r 30 v with
   | some x=>(t,x)::ih (Nat.lor s (Nat.shiftLeft 1 (zeC t)))
   | none=>ih (Nat.lor s (Nat.shiftLeft 1 (zeC t)))) ((t,v)::ih (Nat.lor s (Nat.shiftLeft 1 (zeC t)))) (zci v))
  (ih s) (Nat.beq (Nat.land 1 (Nat.shiftRight s (zeC t))) 1)) p) l
def zxj (r:List (Nat×Nat)):Ob→Option Ob
 | .box cs=>(match rnVs r 30 cs with
  | some l=>some (.box l)
  | none=>none)
 | ob=>some ob
def zr0 (r:List (Nat×Nat)) (mem:Mem) (i:Nat):Option Ob:=match zbo r i with
 | some j=>(match mem.get j with
  | some ob=>zxj r ob
  | none=>none)
 | none=>none
def zok (r:List (Nat×Nat)) (mem:Mem):List (Nat×Nat)→Mem
 | []=>[]
 | (i,_)::l=>match zr0 r mem i with
  | some ob=>(i,some ob)::zok r mem l
  | none=>zok r mem l
def rOk (r:List (Nat×Nat)) (N:Nat):Bool:=nodup (r.map Prod.snd)&&r.all fun p=>Nat.blt p.1 N
noncomputable def zxR (r:List (Nat×Nat)) (N:Nat) (env:Env) (mem:Mem) (K:Env→Mem→Option zn):Option zn :=
 cond (rOk r N) (K (zjj r env 0) (zok r mem r)) none
noncomputable def zfN (n0 N:Nat) (env:Env) (mem:Mem) (K:Env→Mem→Option zn):Option zn :=
 zxR (zoi n0 mem (zik n0 mem (zuR env))) N env mem K
def zds:Nat:=1000
noncomputable def zj7 (n0:Nat) (B:(Ex→Env→Mem→Nat→Option zn)→Env→Mem→Nat→Option zn) (K:Ex→Env→Mem→Nat→Option zn) (k:Nat):Env→Mem→Option zn :=
 @Nat.rec (fun _=>Env→Mem→Option zn) (fun _ _=>none) (fun _ next env mem=>B (fun e env mem n=>match e with
  | .normal=>zfN n0 zds env mem next
  | e=>K e env mem n) env mem zds) k
noncomputable def zgD (n0:Nat) (B:(Ex→Env→Mem→Nat→Option zn)→Env→Mem→Nat→Option zn) (ps:List Nat) (K:Ex→Env→Mem→Nat→Option zn) (E:Env) (xs:List (List D)):Mem→Option zn :=
 @List.rec (List D) (fun _=>Mem→Option zn) (fun mem=>K .normal E mem zds)
 (fun x _ next mem=>cond (Nat.beq x.length ps.length) (B (fun e env mem n=>match e with
  | .normal=>zfN n0 zds (zbp env) mem fun env mem=>cond (zft env E) (next mem) none
  | e=>K e (zbp env) mem n) (zc6 ps x (zdd E)++zbZ E) mem zds) none) xs
abbrev zyL:=Bool→(Ex→Env→Mem→Nat→Option zn)→Env→Mem→Nat→Option zn
def zgR (f:Env→Mem→Nat→Option zn) (K:Ex→Env→Mem→Nat→Option zn):Ex→Env→Mem→Nat→Option zn:=fun e env mem n=>match e with
 | .normal=>f env mem n
 | e=>K e env mem n
def zr1 (id:Nat) (K:Ex→Env→Mem→Nat→Option zn):Ex→Env→Mem→Nat→Option zn:=fun e env mem n=>match e with
 | .exit j=>cond (Nat.beq j id) (K .normal env mem n) (K (.exit j) env mem n)
 | e=>K e env mem n
noncomputable def evC (S:Rn) (fuel:Nat) (c:CC):zyL :=
 @CC.rec (fun _=>zyL) (fun _ K env mem n=>K .normal env mem n)
  (fun _ _ a b t K env mem n=>a t (zgR (fun env mem n=>b t K env mem n) K) env mem n)
  (fun ops _ K env mem n=>znG S (fun env mem n=>K .normal env mem n) ops [] env mem n)
  (fun ops bef _ K env mem n=>znE S (fun env mem n l=>cond (zdP ops bef l) (K .normal env mem n) none) ops [] env mem n [])
  (fun x _ _ a b t K env mem n=>match zlc (x.ev (zcv env)) with
   | some z => @Bool.rec (fun _=>Option zn) (b t K env mem n) (a t K env mem n) z
   | none=>none)
  (fun id _ a t K env mem n=>a t (zr1 id K) env mem n)
  (fun _ a t K env mem n=>zfN S.n0 zds env mem fun env mem=>zj7 S.n0 (a t) K fuel env mem)
  (fun id _ K env mem n=>K (.exit id) env mem n)
  (fun _ K env mem n=>K .ret env mem n)
  (fun f ps _ _ a b t K env mem n=>cond t none (match f.ev (zcv env) with
   | .fn g cs=>match S.iter (zfI mem) n g cs with
    | some (xs,u)=>zfN S.n0 zds env (zP u mem) fun E mem=>zgD S.n0 (fun K env mem n=>a true (zgR (fun env mem n=>b true K env mem n) K) env mem n) ps K E xs mem
    | none=>none
   | _=>none)) c
def zux:List Nat→List Nat→List Nat
 | [],acc=>acc
 | i::r,acc=>cond (acc.contains i) (zux r acc) (zux r (acc++[i]))
mutual
def zyF:Nat→V→List Nat
 | 0,_=>[]
 | k+1,v=>match v with
  | .view i _ _=>[i]
  | .agg cs | .tup cs | .fn _ cs=>viewIdss k cs
  | _=>[]
def viewIdss:Nat→List V→List Nat
 | 0,_=>[]
 | _+1,[]=>[]
 | k+1,v::r=>zyF k v++viewIdss k r
end
def zq3 (M:Nat→Option Ob):List Nat→List Nat
 | []=>[]
 | i::r=>(match M i with
  | some (.box cs)=>viewIdss 20 cs
  | _=>[])++zq3 M r
def zkr:List Nat→Nat→Nat→Option Nat
 | [],_,_=>none
 | a::r,k,i=>cond (Nat.beq a i) (some k) (zkr r (k+1) i)
def zxO (M:Nat→Option Ob) (x:V):Option D:=cond (V.reach M 20 x).isEmpty (x.freeze M true 20) none
mutual
def zul (M:Nat→Option Ob) (js fz:List Nat):Nat→V→Option V
 | 0,_=>none
 | k+1,x=>match x with
  | .d y=>some (.d y)
  | .bt=>some .bt
  | .bf=>some .bf
  | .nils s=>some (.nils s)
  | .own i=>(match zkr js 0 i with
   | some j=>some (.own j)
   | none=>match (V.own i).freeze M true 20 with
    | some y=>cond (fz.contains i) (some (.d y)) (some .undef)
    | none=>some .undef)
  | .view i o l=>(match (V.view i o l).freeze M true 20 with
    | some y=>cond (fz.contains i) (some (.d y)) (some .undef)
    | none=>some .undef)
  | .ptr i o=>(match zkr js 0 i with
   | some j=>some (.ptr j o)
   | none=>some .undef)
  | .bown i l=>(match zkr js 0 i with
   | some j=>some (.bown j l)
   | none=>some .undef)
  | .map i=>(match zkr js 0 i with
   | some j=>some (.map j)
   | none=>some .undef)
  | .agg cs=>(match zxO M (.agg cs) with
   | some y=>some (.d y)
   | none=>match passVs M js fz k cs with|some l=>some (.agg l)|none=>none)
  | .tup cs=>(match passVs M js fz k cs with|some l=>some (.tup l)|none=>none)
  | .fn f cs=>(match passVs M js fz k cs with|some l=>some (.fn f l)|none=>none)
  | _=>some .undef
def passVs (M:Nat→Option Ob) (js fz:List Nat):Nat→List V→Option (List V)
 | 0,_=>none
 | _+1,[]=>some []
 | k+1,v::r=>match zul M js fz k v,passVs M js fz k r with
  | some x,some l=>some (x::l)
  | _,_=>none
end
def zr5 (M:Nat→Option Ob) (js fz:List Nat):Option Ob→Option Ob
 | some (.row s xs)=>some (.row s xs)
 | some (.box cs)=>(match passVs M js fz 20 cs with
  | some l=>some (.box l)
  | none=>none)
 | some (.map es)=>some (.map es)
 | _=>none
def zit (M:Nat→Option Ob) (js fz:List Nat):List Nat→Option (List Ob)
 | []=>some []
 | j::r=>match zr5 M js fz (M j),zit M js fz r with
  | some o,some l=>some (o::l)
  | _,_=>none
def alive (M:Nat→Option Ob):List Nat→List Nat
 | []=>[]
 | i::r=>match M i with
  | some _=>i::alive M r
  | none=>alive M r
def zi4 (M:Nat→Option Ob) (vs:List V):List Nat×List Nat :=
 (fun ids=>(fun fz=>(ids.filter fun i => !fz.contains i,fz)) ((zux (viewIdss 20 vs++zq3 M ids) []).filter fun i=>ids.contains i)) (zux (alive M (zI M vs)) [])
def Ob.flatB:Option Ob→Bool
 | some (.row _ xs)=>xs.all fun x=>x.cells.all fun y=>y.flat 10
 | some (.box cs)=>vflats 20 cs
 | some (.map es)=>es.all fun p=>p.1.flat 10&&p.2.flat 10
 | _=>true
abbrev Fs:=Nat→List V→List Ob→Option (V×List (Option Ob))
def zh7:List (Option Ob)→Bool
 | []=>true
 | ob::r=>Ob.flatB ob&&zh7 r
def zr6 (M:Nat→Option Ob) (vs:List V) (js fz:List Nat):Bool:=nodup js&&(zdw fz js&&(zdG js (zI M vs)&&zdG fz (zI M vs)))
noncomputable def zj5 (F:Fs) (M:Nat→Option Ob) (n f:Nat) (vs:List V) (K:V→Upd→Nat→Option zn):Option zn :=
 cond (zne vs&&Nat.blt vs.length 18) (match F f vs [] with
  | some (lv,obs')=>cond (zci lv&&obs'.isEmpty) (K lv [] 0) (K (zjg [] n 20 lv) (zfh [] [] n obs' false) (obs'.length - 0))
  | none=>none)
 ((fun p=>match zit M p.1 p.2 p.1,passVs M p.1 p.2 20 vs with
  | some obs,some lvs=>match F f lvs obs with
   | some (lv,obs')=>(fun clean=>cond (Nat.ble p.1.length obs'.length&&zr6 M vs p.1 p.2) (K (zjg p.1 n 20 lv) (zfh p.1 p.2 n obs' clean) (obs'.length - p.1.length)) none)
     (cond p.2.isEmpty false (V.flat 20 lv&&zh7 obs'))
   | none=>none
  | _,_=>none) (zi4 M vs))
def zjc (r:List (Nat×Nat)) (mem:Mem):Nat→Nat→List (Option Ob)
 | _,0=>[]
 | i,k+1=>zr0 r mem i::zjc r mem (i+1) k
def znT (r:List (Nat×Nat)) (i:Nat) (v x:V):Bool:=match rnV r 30 x with
 | some v'=>V.eqq 5 v' v
 | none=>false
noncomputable def zko (r:List (Nat×Nat)) (env:Env):Nat→List Ob→List (Option Ob)→Bool
 | _,[],_=>true
 | i,ob::rest,obs'=>(match obs' with
   | []=>true
   | none::_=>true
   | some (.row s _)::_=>(match ob with | .row s' _=>Nat.beq s' s|_=>false)&&znT r i (.own i) (zcv env (zf+i))
   | some (.box _)::_=>(match ob with | .box _=>true|_=>false)&&znT r i (.ptr i 0) (zcv env (zf+i))
   | some (.map _)::_=>(match ob with | .map _=>true|_=>false)&&znT r i (.map i) (zcv env (zf+i))
   | _=>false)&&zko r env (i+1) rest obs'.tail
noncomputable def zuj (obs:List Ob) (env:Env) (mem:Mem) (v:V) (m:Nat) (r:List (Nat×Nat)):Option (V×List (Option Ob)) :=
 (fun obs'=>cond (rOk r m&&zko r env 0 obs obs') (some (v,obs')) none) (zjc r mem 0 m)
noncomputable def zqF (obs:List Ob) (env:Env) (mem:Mem) (x:V):Option (V×List (Option Ob)) :=
 (fun ids=>(fun r=>match rnV r 30 x with
  | some v=>zuj obs env mem v (obs.length+ids.length) r
  | none=>none) (zoi obs.length mem ids)) (zik obs.length mem (V.deepIds 20 x))
noncomputable def finish (own:Bool) (obs:List Ob) (res:List zgu) (env:Env) (mem:Mem):Option (V×List (Option Ob)) :=
 match zmZ res (zcv env) (zfI mem) with
 | none=>none
 | some x=>cond (obs.isEmpty&&zci x) (some (x,[])) (match cond own none (x.freeze mem.get true 20) with
  | some y=>(fun ids=>(fun r=>cond (zdw (V.reach mem.get 20 x) (r.map Prod.snd)) (zuj obs env mem (.d y) (obs.length+ids.length) r) (zqF obs env mem x)) (zoi obs.length mem ids)) (zik obs.length mem [])
  | none=>zqF obs env mem x)
structure Cfg where
 code:Nat→Option CFn
 known:Fs
 its:Nat→List V→List Ob→Option (List (List D))
 own:Nat→Bool
 sec:Nat→Bool
 rounds:Nat
noncomputable def zj6 (C:Cfg) (M:Nat→Option Ob) (n g:Nat) (cs:List V):Option (List (List D)×Upd) :=
 (fun p=>match zit M p.1 p.2 p.1,passVs M p.1 p.2 20 cs with
  | some obs,some lvs=>match C.its g lvs obs with
   | some xs=>cond (nodup p.1&&zdw p.2 p.1) (some (xs,zfj p.1++zfj p.2)) none
   | none=>none
  | _,_=>none) (zi4 M cs)
noncomputable def evF (C:Cfg) (k:Nat):Fs :=
 @Nat.rec (fun _=>Fs) (fun _ _ _=>none) (fun _ F f vs obs=>match C.known f vs obs with
  | some r=>some r
  | none=>match C.code f with
   | some c=>cond (Nat.ble vs.length c.ntmps) (evC ⟨C.sec f,fun M n f vs K=>zj5 F M n f vs K,zj6 C,obs.length⟩ C.rounds c.body false
     (fun e env mem n=>match e with
      | .exit _=>none
      | _=>finish (C.own f) obs c.res env mem) (zaX 0 vs++zcw zf 0 obs) (zhC 0 obs) obs.length) none
   | none=>none) k
end Go.Ab
namespace Go.Ab
open Go
section
variable {r : zn}
theorem zw0 {a b : Nat} : (Nat.beq a b = true) = (a = b) := propext ⟨Nat.eq_of_beq_eq_true, fun h => by subst h; exact Nat.beq_refl _⟩
mutual
theorem D.eqq_eq : ∀ (k : Nat) (x y : D), D.eqq k x y = true → x = y
  | 0, x, y, h => by simp [D.eqq] at h
  | k + 1, x, y, h => by
    cases x <;> cases y <;> simp only [D.eqq, Bool.and_eq_true, beq_iff_eq, decide_eq_true_eq, Bool.false_eq_true] at h
    case bool => rw [h]
    case int => rw [h.1, h.2]
    case u64 => rw [h]
    case str => rw [h]
    case agg => rw [eqqs_eq k _ _ h]
    case tup => rw [eqqs_eq k _ _ h]
    case arr => rw [Nat.eq_of_beq_eq_true h.1, eqqs_eq k _ _ h.2]
    case box => rw [eqqs_eq k _ _ h]
    case map => rw [eqqm_eq k _ _ h]
    case fn => rw [Nat.eq_of_beq_eq_true h.1, eqqs_eq k _ _ h.2]
    case nil => rfl
theorem eqqs_eq : ∀ (k : Nat) (x y : List D), eqqs k x y = true → x = y
  | 0, x, y, h => by simp [eqqs] at h
  | k + 1, [], [], h => rfl
  | k + 1, [], _ :: _, h => by simp [eqqs] at h
  | k + 1, _ :: _, [], h => by simp [eqqs] at h
  | k + 1, x :: r, y :: s, h => by
    simp only [eqqs, Bool.and_eq_true] at h
    rw [D.eqq_eq k x y h.1, eqqs_eq k r s h.2]
theorem eqqm_eq : ∀ (k : Nat) (x y : List (D × D)), eqqm k x y = true → x = y
  | 0, x, y, h => by simp [eqqm] at h
  | k + 1, [], [], h => rfl
  | k + 1, [], _ :: _, h => by simp [eqqm] at h
  | k + 1, _ :: _, [], h => by simp [eqqm] at h
  | k + 1, (a, b) :: r, (c, d) :: s, h => by
    simp only [eqqm, Bool.and_eq_true] at h
    rw [D.eqq_eq k _ _ h.1.1, D.eqq_eq k _ _ h.1.2, eqqm_eq k r s h.2]
end
mutual
theorem V.eqq_eq : ∀ (k : Nat) (x y : V), V.eqq k x y = true → x = y
  | 0, x, y, h => by simp [V.eqq] at h
  | k + 1, x, y, h => by
    cases x <;> cases y <;> simp only [V.eqq, Bool.and_eq_true, zw0, Bool.false_eq_true] at h
    case d => rw [D.eqq_eq k _ _ h]
    case agg => rw [V.eqqs_eq k _ _ h]
    case tup => rw [V.eqqs_eq k _ _ h]
    case fn => rw [h.1, V.eqqs_eq k _ _ h.2]
    case dptr => rw [h.1.1, D.eqq_eq k _ _ h.1.2, h.2]
    all_goals first | rfl | (rw [h]) | (rw [h.1, h.2]) | (rw [h.1.1, h.1.2, h.2])
theorem V.eqqs_eq : ∀ (k : Nat) (x y : List V), V.eqqs k x y = true → x = y
  | 0, x, y, h => by simp [V.eqqs] at h
  | k + 1, [], [], h => rfl
  | k + 1, [], _ :: _, h => by simp [V.eqqs] at h
  | k + 1, _ :: _, [], h => by simp [V.eqqs] at h
  | k + 1, x :: r, y :: s, h => by
    simp only [V.eqqs, Bool.and_eq_true] at h
    rw [V.eqq_eq k x y h.1, V.eqqs_eq k r s h.2]
end
theorem zpw : ∀ (x y : Env), zft x y = true → x = y
  | [], [], h => rfl
  | [], _ :: _, h => by simp [zft] at h
  | _ :: _, [], h => by simp [zft] at h
  | (a, x) :: r, (b, y) :: s, h => by
    simp only [zft, Bool.and_eq_true, zw0] at h
    rw [h.1.1, V.eqq_eq _ _ _ h.1.2, zpw r s h.2]
theorem zw8 (x y : Option Ob) (h : zug x y = true) : x = y := by
  unfold zug at h
  split at h
  · rfl
  · simp only [Bool.and_eq_true, zw0] at h; rw [h.1, eqqs_eq _ _ _ h.2]
  · rw [V.eqqs_eq _ _ _ h]
  · rw [eqqm_eq _ _ _ h]
  · cases h
theorem zpZ : ∀ (x y : List (Option Ob)), zin x y = true → x = y
  | [], [], h => rfl
  | [], _ :: _, h => by simp [zin] at h
  | _ :: _, [], h => by simp [zin] at h
  | x :: r, y :: s, h => by
    simp only [zin, Bool.and_eq_true] at h
    rw [zw8 _ _ h.1, zpZ r s h.2]
theorem zxg (x y : V × List (Option Ob)) (h : zqN x y = true) : x = y := by
  unfold zqN at h
  rw [Bool.and_eq_true] at h
  exact Prod.ext (V.eqq_eq _ _ _ h.1) (zpZ _ _ h.2)
theorem Eff.ev_sound {C : ze} {M : Nat → Option Ob} {n : Nat} {call : Nat → List V → (V → Upd → Nat → Option zn) → Option zn} {K : V → Upd → Nat → Option zn} {K' : V → Upd → Nat → Prop}
    (hc : ∀ f vs, call f vs K = some r → zey C M n f vs K') (hk : ∀ v u k, K v u k = some r → K' v u k) : ∀ (e : Eff) {sec : Bool}, e.ev call sec K = some r → e.wp C M n K'
  | .bad, _, h => by cases h
  | .ok v u k, _, h => hk _ _ _ (by rw [← zwC v fun v => K v u k]; exact h)
  | @Eff.need p d e, sec, h => by
    have h1 : @Bool.rec (fun _ => Option zn) none (e.ev call sec K) (@decide p d) = some r := h
    cases hd : @decide p d with
    | true => rw [hd] at h1; exact ⟨of_decide_eq_true hd, ev_sound hc hk e h1⟩
    | false => rw [hd] at h1; cases h1
  | .given p e, _, h => fun _ => ev_sound hc hk e h
  | @Eff.alt p d e s, sec, h => by
    have h1 : @Bool.rec (fun _ => Option zn) (@Bool.rec (fun _ => Option zn) (s.ev call false K) (e.ev call false K) (@decide p d)) (s.ev call false K) sec = some r := h
    cases sec with
    | true => exact .inr (ev_sound hc hk s h1)
    | false =>
      cases hd : @decide p d with
      | true => rw [hd] at h1; exact .inl ⟨of_decide_eq_true hd, ev_sound hc hk e h1⟩
      | false => rw [hd] at h1; exact .inr (ev_sound hc hk s h1)
  | .elem xs i f, sec, h => by
    have h1 : cond (decide (0 ≤ i)) (match xs[i.toNat]? with
      | some x => (f x).ev call sec K
      | none => none) none = some r := h
    cases hd : decide (0 ≤ i) with
    | false => rw [hd] at h1; cases h1
    | true =>
      rw [hd, cond_true] at h1
      split at h1
      · rename_i x hx; exact ⟨x, ⟨of_decide_eq_true hd, hx⟩, ev_sound hc hk (f x) h1⟩
      · cases h1
  | .find es k f, sec, h => by
    have h1 : (match zz es k with
      | some r => (f r).ev call sec K
      | none => none) = some r := h
    split at h1
    · rename_i x hx; exact ⟨x, hx, ev_sound hc hk (f x) h1⟩
    · cases h1
  | .call f vs, _, h => hc f vs h
theorem znj {a b : Option zn} (h : ztN a b = some r) : a = some r ∧ b = some r := by
  unfold ztN at h
  split at h
  · rename_i x y
    cases hs : zqN x y with
    | false => rw [hs] at h; cases h
    | true =>
      rw [hs] at h
      have := zxg _ _ hs
      cases h; subst this; exact ⟨rfl, rfl⟩
  · cases h
theorem zhR {f : Nat → D → D → Option zn} : ∀ (l : List (D × D)) (i : Nat), zmt f i l = some r → ∀ j k v, l[j]? = some (k, v) → f (i + j) k v = some r
  | [], i, h => fun j k v hj => by simp at hj
  | [p], i, h => fun j k v hj => by
    cases j with
    | zero => simp only [List.getElem?_cons_zero, Option.some.injEq] at hj; subst hj; exact h
    | succ j => simp at hj
  | p :: q :: l, i, h => fun j k v hj => by
    obtain ⟨h1, h2⟩ := znj h
    cases j with
    | zero => simp only [List.getElem?_cons_zero, Option.some.injEq] at hj; subst hj; exact h1
    | succ j =>
      have := zhR (q :: l) (i + 1) h2 j k v (by simpa using hj)
      rw [show i + (j + 1) = i + 1 + j by omega]; exact this
theorem zrk {Y : zcr} {o : CO} {env : Env} {mem : Mem} {n : Nat} (h : zk2 o env.get mem.get mem n = none) : zb1 Y o env mem n = none := by
  cases o
  case callv g xs =>
    replace h : zhO g env.get mem.get mem n = none := h
    simp only [zhO] at h
    simp only [zb1]
    generalize g.ev env.get = v at h ⊢
    cases v <;> first | rfl | cases h
  case next it =>
    replace h : zhP it env.get mem.get mem n = none := h
    simp only [zhP] at h
    simp only [zb1]
    generalize it.ev env.get = v at h ⊢
    cases v <;> first | rfl | cases h
  case eqN neg x y =>
    replace h : zj1 neg x y env.get mem.get mem n = none := h
    simp only [zj1, zuf] at h
    simp only [zb1]
    generalize x.ev env.get = v at h ⊢
    generalize y.ev env.get = w at h ⊢
    cases v
    case d z => cases z <;> cases w <;> first | rfl | cases h
    case own id =>
      cases w
      case nils t =>
        dsimp only at h ⊢
        generalize mem.get id = ob at h ⊢
        cases ob with
        | none => rfl
        | some ob => cases ob <;> first | rfl | cases h
      all_goals rfl
    all_goals (cases w <;> rfl)
  all_goals rfl
theorem zn9 {neg : Bool} {xs : List D} {mem : Mem} {n : Nat} {f : (V → Mem → Nat → Option zn) → Option zn} (h : zuf neg xs mem n = some f) {K : V → Mem → Nat → Option zn} {K' : V → Mem → Nat → Prop}
    (hk : ∀ v mem n, K v mem n = some r → K' v mem n) (hf : f K = some r) : ∀ b : Bool, (b = true → xs = []) → K' (.d (.bool (b != neg))) mem n := by
  intro b hb
  cases h
  dsimp only at hf
  split at hf
  · obtain ⟨h1, h2⟩ := znj hf
    cases b
    · exact hk _ _ _ h2
    · exact hk _ _ _ h1
  · cases b
    · exact hk _ _ _ hf
    · cases hb rfl
theorem zrl {Y : zcr} {o : CO} {env : Env} {mem : Mem} {n : Nat} {f : (V → Mem → Nat → Option zn) → Option zn} (h : zk2 o env.get mem.get mem n = some f)
    {K : V → Mem → Nat → Option zn} {K' : V → Mem → Nat → Prop} (hk : ∀ v mem n, K v mem n = some r → K' v mem n) (hf : f K = some r) : ∃ g, zb1 Y o env mem n = some g ∧ g K' := by
  cases o
  case callv g xs =>
    replace h : zhO g env.get mem.get mem n = some f := h
    simp only [zhO] at h
    split at h
    · cases h; cases hf
    · cases h
  case next it =>
    replace h : zhP it env.get mem.get mem n = some f := h
    simp only [zhP] at h
    split at h
    · rename_i id hid
      cases h
      refine ⟨_, by simp only [zb1, hid]; rfl, ?_⟩
      dsimp only at hf ⊢
      split at hf
      · rename_i left cur hm
        rw [hm]
        dsimp only
        cases left with
        | nil => exact ⟨fun _ => hk _ _ _ hf, fun i k v hi => by simp at hi⟩
        | cons p l =>
          refine ⟨fun e => (by cases e), fun i k v hi => ?_⟩
          have := zhR _ _ hf i k v hi
          rw [Nat.zero_add] at this
          exact hk _ _ _ this
      · cases hf
    · cases h
  case eqN neg x y =>
    replace h : zj1 neg x y env.get mem.get mem n = some f := h
    simp only [zj1] at h
    split at h
    · rename_i s xs t hx hy
      exact ⟨_, by simp only [zb1, hx, hy]; rfl, zn9 h hk hf⟩
    · rename_i id t hx hy
      split at h
      · rename_i s xs hm
        exact ⟨_, by simp only [zb1, hx, hy, hm]; rfl, zn9 h hk hf⟩
      · cases h
    · cases h
  all_goals cases h
theorem zl6 {v : V} {b : Bool} (h : zlc v = some b) : (zci v = true ∧ v = .d (.bool b)) ∨ (zci v = false ∧ v = cond b .bt .bf) := by
  cases v
  case d x =>
    cases x
    case bool c => replace h : some c = some b := h; cases h; exact .inl ⟨rfl, rfl⟩
    all_goals cases h
  case bt => cases h; exact .inr ⟨rfl, rfl⟩
  case bf => cases h; exact .inr ⟨rfl, rfl⟩
  all_goals cases h
theorem zjr {δ : Dec} {env : Env} {g : Nat × Bool} {yes no : Dec → Option zn} {yes' no' : Dec → Prop} (hy : ∀ δ, yes δ = some r → yes' δ) (hn : ∀ δ, no δ = some r → no' δ)
    (h : zgg δ env.get g yes no = some r) : zd4 δ env g yes' no' := by
  unfold zgg at h
  unfold zd4
  have two : ∀ (b : Bool) (p q : Option zn) (p' q' : Prop), (p = some r → p') → (q = some r → q') → cond b p q = some r → cond b p' q' := by
    intro b p q p' q' h1 h2 h; cases b
    · exact h2 h
    · exact h1 h
  cases hd : δ.get g.1 with
  | some b => rw [hd] at h; exact two _ _ _ _ _ (hy _) (hn _) h
  | none =>
    rw [hd] at h
    dsimp only at h ⊢
    generalize env.get g.1 = v at h ⊢
    cases ht : zlc v with
    | some b =>
      rw [ht] at h
      dsimp only at h
      rcases zl6 ht with ⟨h1, rfl⟩ | ⟨h1, rfl⟩
      · rw [h1] at h
        cases b with
        | true =>
          refine ⟨fun _ => two g.2 _ _ _ _ (hy _) (hn _) ?_, nofun⟩
          revert h; cases g.2 <;> exact id
        | false =>
          refine ⟨nofun, fun _ => two g.2 _ _ _ _ (hn _) (hy _) ?_⟩
          revert h; cases g.2 <;> exact id
      · rw [h1] at h
        cases b with
        | true => refine two g.2 _ _ _ _ (hy _) (hn _) ?_; revert h; cases g.2 <;> exact id
        | false => refine two g.2 _ _ _ _ (hn _) (hy _) ?_; revert h; cases g.2 <;> exact id
    | none =>
      rw [ht] at h
      dsimp only at h
      cases v
      case tup cs =>
        cases cs with
        | nil => exact hn _ h
        | cons c cs => cases h
      all_goals cases h
structure zqU (S : Rn) (C : ze) (I : zb8) : Prop where
  call : ∀ r M n f vs K, S.call M n f vs K = some r → ∀ K' : V → Upd → Nat → Prop, (∀ v u k, K v u k = some r → K' v u k) → zey C M n f vs K'
  iter : ∀ M n g cs xs u, S.iter M n g cs = some (xs, u) → I M n g cs xs u true
variable {S : Rn} {C : ze} {I : zb8}
theorem zrh (δ : Dec) (o : CO) (ρ : Nat → V) (M : Nat → Option Ob) (n : Nat) : zqJ δ o ρ M n = zcL δ o ρ M n := by
  unfold zqJ
  cases hp : zvi o with
  | false =>
    show zj2 o ρ M n = _
    rw [zoS]
    cases o <;> first | rfl | cases hp
  | true =>
    cases o
    case pick c a b =>
      cases c with
      | c v => show zj2 (.pick (.c v) a b) ρ M n = _; rw [zoS]; rfl
      | t c =>
        show (match δ.get c with
          | some true => zh8 (a.ev ρ)
          | some false => zh8 (b.ev ρ)
          | none => zj2 (.pick (.t c) a b) ρ M n) = _
        rw [zoS, zkk, zkk]
        unfold zcL
        rfl
    all_goals cases hp
theorem zkD (hS : zqU S C I) {o : COp} {δ : Dec} {env : Env} {mem : Mem} {n : Nat} {l : List za3} {next : Dec → Env → Mem → Nat → List za3 → Option zn} {next' : Dec → Env → Mem → Nat → List za3 → Prop}
    (hn : ∀ δ env mem n l, next δ env mem n l = some r → next' δ env mem n l) (h : zir S o δ env mem n l next = some r) : (zcL δ o.op env.get mem.get n).wp C mem.get n fun v u k =>
          next' (δ.del o.dst) (zS o.dst v env) (zP u mem) (n + k) (l ++ [⟨zau o.op env.get mem.get, u.map Prod.fst, za6 o.op env.get v, u⟩]) := by
  unfold zir at h
  rw [zeq, zk5, zrh, zk1] at h
  have key : ∀ v u k, (@List.rec (Nat × Option Ob) (fun _ => Option zn) (next (δ.del o.dst) (zdZ o.dst v env) mem (n + k) (l ++ [⟨zau o.op env.get mem.get, [], za6 o.op env.get v, []⟩]))
      (fun _ _ _ => next (δ.del o.dst) (zdZ o.dst v env) (zP u mem) (n + k) (l ++ [⟨zau o.op env.get mem.get, u.map Prod.fst, za6 o.op env.get v, u⟩])) u) = some r →
      next' (δ.del o.dst) (zS o.dst v env) (zP u mem) (n + k) (l ++ [⟨zau o.op env.get mem.get, u.map Prod.fst, za6 o.op env.get v, u⟩]) := by
    intro v u k h
    rw [zgm] at h
    cases u <;> exact hn _ _ _ _ _ h
  exact Eff.ev_sound (fun f vs hc => hS.call r _ _ _ _ _ hc _ key) key _ h
theorem zfk (hS : zqU S C I) {K : Env → Mem → Nat → List za3 → Option zn} {K' : Env → Mem → Nat → List za3 → Prop} (hk : ∀ env mem n l, K env mem n l = some r → K' env mem n l) :
    ∀ (ops : List COp) (δ : Dec) (env : Env) (mem : Mem) (n : Nat) (l : List za3), znE S K ops δ env mem n l = some r → zdS C K' ops δ env mem n l
  | [], δ, env, mem, n, l, h => hk _ _ _ _ h
  | o :: ops, δ, env, mem, n, l, h => by
    replace h : (match o.guard with
      | none => zir S o δ env mem n l (znE S K ops)
      | some g => zgg δ (zcv env) g (fun δ => zir S o δ env mem n l (znE S K ops))
          (fun δ => znE S K ops (zgC o.dst δ) (zdZ o.dst (.tup []) env) mem n (l ++ [⟨[], [], none, []⟩]))) = some r := h
    rw [zdS]
    cases hg : o.guard with
    | none => rw [hg] at h; exact zkD hS (zfk hS hk ops) h
    | some g =>
      rw [hg] at h
      dsimp only at h
      rw [zeq] at h
      refine zjr (fun δ hd => zkD hS (zfk hS hk ops) hd) (fun δ hd => zfk hS hk ops _ _ _ _ _ ?_) h
      rw [← zk1, ← zgm]; exact hd
theorem ztI {o : CO} (ho : znS o = true) {u : Upd} {mem : Mem} {env : Env} {k : Env → Option zn} {k' : Env → Prop} (hk : ∀ env, k env = some r → k' env) (h : ztH u mem env k = some r) : zeG o u mem env k' := by
  cases o
  case app sz by' x y =>
    simp only [ztH] at h
    simp only [zeG]
    cases u with
    | nil => exact hk _ h
    | cons p l =>
      obtain ⟨id, ob⟩ := p
      cases ob with
      | some ob => exact hk _ h
      | none =>
        dsimp only at h ⊢
        generalize mem.get id = w at h ⊢
        cases w with
        | none => exact hk _ h
        | some w =>
          cases w
          case row s xs =>
            dsimp only at h ⊢
            generalize Mem.get (zP ((id, none) :: l) mem) id = z at h ⊢
            cases z <;> exact hk _ h
          all_goals exact hk _ h
  all_goals cases ho
theorem zx4 {o : CO} (ho : znS o = false) {u : Upd} {mem : Mem} {env : Env} {k' : Env → Prop} (h : k' env) : zeG o u mem env k' := by
  cases o
  case app sz by' x y => cases ho
  all_goals exact h
theorem zjz (hS : zqU S C I) {Y : zcr} {o : COp} {δ : Dec} {env : Env} {mem : Mem} {n : Nat} {next : Dec → Env → Mem → Nat → Option zn} {next' : Dec → Env → Mem → Nat → Prop}
    (hn : ∀ δ env mem n, next δ env mem n = some r → next' δ env mem n) (h : zgn S o δ env mem n next = some r) : (match zb1 Y o.op env mem n with
          | some f => f fun v mem n => next' (δ.del o.dst) (zS o.dst v env) mem n
          | none => (zcL δ o.op env.get mem.get n).wp C mem.get n fun v u k =>
              zeG o.op u mem env fun env => next' (δ.del o.dst) (zS o.dst v env) (zP u mem) (n + k)) := by
  unfold zgn at h
  rw [zeq, zk5, zrh, zk1] at h
  cases hd : zk2 o.op env.get mem.get mem n with
  | some f =>
    rw [hd] at h
    obtain ⟨g, hg, hgk⟩ := zrl (Y := Y) hd (K' := fun v mem n => next' (δ.del o.dst) (zS o.dst v env) mem n) (fun v mem n hv => by rw [zgm] at hv; exact hn _ _ _ _ hv) h
    rw [hg]; exact hgk
  | none =>
    rw [hd] at h
    rw [zrk hd]
    have key : ∀ v u k, (@Bool.rec (fun _ => Option zn) (@List.rec (Nat × Option Ob) (fun _ => Option zn) (next (δ.del o.dst) (zdZ o.dst v env) mem (n + k)) (fun _ _ _ => next (δ.del o.dst) (zdZ o.dst v env) (zP u mem) (n + k)) u) (ztH u mem env fun env => next (δ.del o.dst) (zdZ o.dst v env) (zP u mem) (n + k)) (znS o.op)) = some r →
        zeG o.op u mem env fun env => next' (δ.del o.dst) (zS o.dst v env) (zP u mem) (n + k) := by
      intro v u k h
      cases ha : znS o.op with
      | true => rw [ha] at h; exact ztI ha (fun env he => by rw [zgm] at he; exact hn _ _ _ _ he) h
      | false =>
        rw [ha] at h
        dsimp only at h
        rw [zgm] at h
        exact zx4 ha (by cases u <;> exact hn _ _ _ _ h)
    exact Eff.ev_sound (fun f vs hc => hS.call r _ _ _ _ _ hc _ key) key _ h
theorem zfl (hS : zqU S C I) {Y : zcr} {K : Env → Mem → Nat → Option zn} {K' : Env → Mem → Nat → Prop} (hk : ∀ env mem n, K env mem n = some r → K' env mem n) :
    ∀ (ops : List COp) (δ : Dec) (env : Env) (mem : Mem) (n : Nat), znG S K ops δ env mem n = some r → zcE C Y K' ops δ env mem n
  | [], δ, env, mem, n, h => hk _ _ _ h
  | o :: ops, δ, env, mem, n, h => by
    replace h : (match o.guard with
      | none => zgn S o δ env mem n (znG S K ops)
      | some g => zgg δ (zcv env) g (fun δ => zgn S o δ env mem n (znG S K ops))
          (fun δ => znG S K ops (zgC o.dst δ) (zdZ o.dst (.tup []) env) mem n)) = some r := h
    rw [zcE]
    cases hg : o.guard with
    | none => rw [hg] at h; exact zjz hS (zfl hS hk ops) h
    | some g =>
      rw [hg] at h
      dsimp only at h
      rw [zeq] at h
      refine zjr (fun δ hd => zjz hS (zfl hS hk ops) hd) (fun δ hd => zfl hS hk ops _ _ _ _ ?_) h
      rw [← zk1, ← zgm]; exact hd
theorem zw6 {r : List (Nat × Nat)} {i j : Nat} (h : zfn r i = some j) : zbo r j = some i := by
  unfold zfn at h
  split at h
  · split at h
    · rename_i i' hi
      cases hb : Nat.beq i' i with
      | true => rw [hb] at h; cases h; rw [hi, Nat.eq_of_beq_eq_true hb]
      | false => rw [hb] at h; cases h
    · cases h
  · cases h
theorem zcy {r : List (Nat × Nat)} {i : Nat} {v w : V} (f : Nat → V) (h : (match zfn r i with | some j => some (f j) | none => some V.undef) = some v) :
    v = .undef ∨ ∃ j, zbo r j = some i ∧ v = f j := by
  split at h
  · rename_i j hj; cases h; exact .inr ⟨j, zw6 hj, rfl⟩
  · cases h; exact .inl rfl
mutual
theorem zkK {r : List (Nat × Nat)} {nl : List Nat} : ∀ (k : Nat) (v x : V), rnV r k v = some x → VLe r nl k x v
  | 0, v, x, h => by cases h
  | k + 1, v, x, h => by
    cases v <;> simp only [rnV] at h
    case own i =>
      rcases zcy (w := .undef) V.own h with rfl | ⟨j, hj, rfl⟩
      · trivial
      · simp only [VLe, hj]
    case ptr i o =>
      rcases zcy (w := .undef) (fun j => V.ptr j o) h with rfl | ⟨j, hj, rfl⟩
      · trivial
      · exact ⟨i, hj, rfl⟩
    case eptr i a o =>
      rcases zcy (w := .undef) (fun j => V.eptr j a o) h with rfl | ⟨j, hj, rfl⟩
      · trivial
      · exact ⟨i, hj, rfl⟩
    case map i =>
      rcases zcy (w := .undef) V.map h with rfl | ⟨j, hj, rfl⟩
      · trivial
      · exact ⟨i, hj, rfl⟩
    case iter i =>
      rcases zcy (w := .undef) V.iter h with rfl | ⟨j, hj, rfl⟩
      · trivial
      · exact ⟨i, hj, rfl⟩
    case bown i l =>
      rcases zcy (w := .undef) (fun j => V.bown j l) h with rfl | ⟨j, hj, rfl⟩
      · trivial
      · exact ⟨i, hj, rfl⟩
    case view i o l =>
      rcases zcy (w := .undef) (fun j => V.view j o l) h with rfl | ⟨j, hj, rfl⟩
      · trivial
      · exact ⟨i, hj, rfl⟩
    case agg cs =>
      split at h
      · rename_i l hl; cases h; exact ⟨cs, rfl, rnVs_le k cs l hl⟩
      · cases h
    case tup cs =>
      split at h
      · rename_i l hl; cases h; exact ⟨cs, rfl, rnVs_le k cs l hl⟩
      · cases h
    case fn f cs =>
      split at h
      · rename_i l hl; cases h; exact ⟨cs, rfl, rnVs_le k cs l hl⟩
      · cases h
    case d y =>
      cases h
      cases y <;> first | exact rfl | exact .inl rfl
    all_goals (cases h; first | exact rfl | trivial)
theorem rnVs_le {r : List (Nat × Nat)} {nl : List Nat} : ∀ (k : Nat) (v x : List V), rnVs r k v = some x → VLes r nl k x v
  | 0, v, x, h => by cases h
  | k + 1, [], x, h => by cases h; rfl
  | k + 1, v :: l, x, h => by
    simp only [rnVs] at h
    split at h
    · rename_i a b ha hb; cases h; exact ⟨zkK k v a ha, rnVs_le k l b hb⟩
    · cases h
end
theorem zyr {r : List (Nat × Nat)} {nl : List Nat} {a b : Ob} (h : zxj r a = some b) : zb7 r nl b a := by
  unfold zxj at h
  split at h
  · rename_i cs
    split at h
    · rename_i l hl; cases h; exact ⟨cs, rfl, rnVs_le _ _ _ hl⟩
    · cases h
  · rename_i hne
    cases h
    cases a with
    | box cs => exact absurd rfl (hne cs)
    | _ => exact rfl
theorem zto {r : List (Nat × Nat)} {nl : List Nat} {mem : Mem} {i : Nat} {ob : Ob} (h : zr0 r mem i = some ob) : ∃ j, zbo r i = some j ∧ ∃ ob', mem.get j = some ob' ∧ zb7 r nl ob ob' := by
  unfold zr0 at h
  split at h
  · rename_i j hj
    split at h
    · rename_i ob' ho; exact ⟨j, hj, ob', ho, zyr h⟩
    · cases h
  · cases h
theorem zwu (s t : Nat) : Nat.beq (Nat.land 1 (Nat.shiftRight s t)) 1 = s.testBit t := by
  show Nat.beq (1 &&& (s >>> t)) 1 = s.testBit t
  rw [Nat.testBit, Nat.one_and_eq_mod_two]
  have h2 : (s >>> t) % 2 < 2 := Nat.mod_lt _ (by decide)
  generalize (s >>> t) % 2 = x at h2
  match x, h2 with
  | 0, _ => rfl
  | 1, _ => rfl
theorem zxY (s t i : Nat) : (Nat.lor s (Nat.shiftLeft 1 t)).testBit i = (s.testBit i || decide (i = t)) := by
  show (s ||| (1 <<< t)).testBit i = _
  rw [Nat.testBit_or, Nat.testBit_shiftLeft]
  congr 1
  by_cases h : i = t
  · subst h; simp
  · by_cases h2 : t ≤ i
    · obtain ⟨m, hm⟩ : ∃ m, i - t = m + 1 := ⟨i - t - 1, by omega⟩
      rw [hm, Nat.testBit_succ]
      simp [h]
    · simp [h, h2]
theorem zm0 {q : List (Nat × Nat)} {nl : List Nat} {env : Env} : ∀ (e : Env) (s : Nat), (∀ t, s.testBit (zeC t) = false → env.get t = Env.get e t) → zg2 q nl env (zjj q e s)
  | [], s, h => trivial
  | (t, v) :: e, s, h => by
    show zg2 q nl env (@Bool.rec (fun _ => Env)
      (@Bool.rec (fun _ => Env) (match rnV q 30 v with
        | some x => (t, x) :: zjj q e (Nat.lor s (Nat.shiftLeft 1 (zeC t)))
        | none => zjj q e (Nat.lor s (Nat.shiftLeft 1 (zeC t)))) ((t, v) :: zjj q e (Nat.lor s (Nat.shiftLeft 1 (zeC t)))) (zci v))
      (zjj q e s) (Nat.beq (Nat.land 1 (Nat.shiftRight s (zeC t))) 1))
    rw [zwu]
    have other : ∀ t', t ≠ t' → Env.get ((t, v) :: e) t' = Env.get e t' := by
      intro t' hne
      simp only [Env.get]
      cases hb : Nat.beq t t' with
      | true => exact absurd (Nat.eq_of_beq_eq_true hb) hne
      | false => rfl
    cases hc : s.testBit (zeC t) with
    | true =>
      refine zm0 e s fun t' ht' => ?_
      have hne : t ≠ t' := fun he => by subst he; rw [hc] at ht'; cases ht'
      rw [h t' ht', other t' hne]
    | false =>
      have hself : env.get t = v := by
        rw [h t hc]
        simp [Env.get]
      have hrest : zg2 q nl env (zjj q e (Nat.lor s (Nat.shiftLeft 1 (zeC t)))) := zm0 e _ fun t' ht' => by
        rw [zxY, Bool.or_eq_false_iff] at ht'
        have hne : t ≠ t' := fun he => by subst he; simp at ht'
        rw [h t' ht'.1, other t' hne]
      show zg2 q nl env (@Bool.rec (fun _ => Env) _ _ (zci v))
      cases hv : zci v with
      | true =>
        obtain ⟨x, rfl⟩ := zi8 hv
        refine ⟨?_, hrest⟩
        rw [hself]
        exact zkK 30 (.d x) _ rfl
      | false =>
        dsimp only
        split
        · rename_i x hx
          exact ⟨by rw [hself]; exact zkK _ _ _ hx, hrest⟩
        · exact hrest
theorem zzi {r : List (Nat × Nat)} {N i j : Nat} (h : rOk r N = true) (hi : zbo r i = some j) : i < N := by
  unfold rOk at h
  rw [Bool.and_eq_true] at h
  have := List.all_eq_true.1 h.2 _ (ze3 hi)
  exact of_decide_eq_true (by simpa [Nat.blt_eq] using this)
theorem zm1 {r : List (Nat × Nat)} {nl : List Nat} {mem : Mem} {N : Nat} (hr : rOk r N = true) : ∀ l : List (Nat × Nat), ziK r nl mem N (zok r mem l)
  | [] => trivial
  | (i, _) :: l => by
    simp only [zok]
    split
    · rename_i ob ho
      obtain ⟨j, hj, ob', h1, h2⟩ := zto (nl := nl) ho
      refine ⟨zzi hr hj, ?_, zm1 hr l⟩
      rw [hj]; exact ⟨ob', h1, h2⟩
    · exact zm1 hr l
theorem zga {n0 N : Nat} {env : Env} {mem : Mem} {K : Env → Mem → Option zn} (h : zfN n0 N env mem K = some r) : ∃ env' mem' q, K env' mem' = some r ∧ ∀ n, Le env mem n env' mem' N q [] := by
  unfold zfN zxR at h
  generalize zoi n0 mem (zik n0 mem (zuR env)) = q at h
  cases hr : rOk q N with
  | false => rw [hr] at h; cases h
  | true =>
    rw [hr] at h
    have h1 := hr
    unfold rOk at h1
    rw [Bool.and_eq_true] at h1
    exact ⟨_, _, q, h, fun n => ⟨h1.1, h1.2, rfl, zm0 env 0 fun t _ => rfl, zm1 hr q⟩⟩
def zwk (B : (Ex → Env → Mem → Nat → Option zn) → Env → Mem → Nat → Option zn) (W : zaa → Env → Mem → Nat → Prop) : Prop :=
  ∀ r K Q, (∀ e env mem n, K e env mem n = some r → Q e env mem n) → ∀ env mem n, B K env mem n = some r → W Q env mem n
theorem zrn {n0 : Nat} {B : (Ex → Env → Mem → Nat → Option zn) → Env → Mem → Nat → Option zn} {W : zaa → Env → Mem → Nat → Prop} (hB : zwk B W) {K : Ex → Env → Mem → Nat → Option zn} {Q : zaa} (hk : ∀ e env mem n, K e env mem n = some r → Q e env mem n)
    {fuel : Nat} {env : Env} {mem : Mem} {n : Nat} (h : zfN n0 zds env mem (fun env mem => zj7 n0 B K fuel env mem) = some r) : zud W Q env mem n := by
  obtain ⟨env1, mem1, q, h1, h2⟩ := zga h
  refine ⟨Nat × Env × Mem, fun a => a.2.1, fun a => a.2.2, zds, fun a => zj7 n0 B K a.1 a.2.1 a.2.2 = some r, fun a => a.1, (fuel, env1, mem1), q, [], h1, h2 n, fun a ha => ?_⟩
  obtain ⟨k, env2, mem2⟩ := a
  cases k with
  | zero => cases ha
  | succ k =>
    replace ha : B (fun e env mem n => match e with
      | .normal => zfN n0 zds env mem (zj7 n0 B K k)
      | e => K e env mem n) env2 mem2 zds = some r := ha
    refine hB r _ _ (fun e env3 mem3 n3 he => ?_) _ _ _ ha
    cases e with
    | normal =>
      obtain ⟨env4, mem4, q', h3, h4⟩ := zga he
      exact ⟨(k, env4, mem4), q', [], h3, Nat.lt_succ_self k, h4 n3⟩
    | exit id => exact hk _ _ _ _ he
    | ret => exact hk _ _ _ _ he
theorem zoT {n0 : Nat} {B : (Ex → Env → Mem → Nat → Option zn) → Env → Mem → Nat → Option zn} {W : zaa → Env → Mem → Nat → Prop} (hB : zwk B W) {K : Ex → Env → Mem → Nat → Option zn} {Q : zaa} (hk : ∀ e env mem n, K e env mem n = some r → Q e env mem n)
    {ps : List Nat} {xs : List (List D)} {u : Upd} {env : Env} {mem : Mem} {n g : Nat} {cs : List V} (hI : I mem.get n g cs xs u true)
    (h : zfN n0 zds env (zP u mem) (fun E mem => zgD n0 B ps K E xs mem) = some r) : zuq I W ps Q env mem n g cs := by
  obtain ⟨E, mem1, q, h1, h2⟩ := zga h
  refine ⟨xs, u, true, hI, Mem, E, fun m => m, zds, fun i m => zgD n0 B ps K E (xs.drop i) m = some r, mem1, q, [], h1, h2 n, fun i x a hx ha => ?_, fun a ha => ?_⟩
  · have hlt := (List.getElem?_eq_some_iff.1 hx).1
    have hd : xs.drop i = x :: xs.drop (i + 1) := by
      rw [List.drop_eq_getElem_cons hlt, (List.getElem?_eq_some_iff.1 hx).2]
    dsimp only at ha
    rw [hd] at ha
    replace ha : cond (Nat.beq x.length ps.length) (B (fun e env mem n => match e with
      | .normal => zfN n0 zds (zbp env) mem fun env mem => cond (zft env E) (zgD n0 B ps K E (xs.drop (i + 1)) mem) none
      | e => K e (zbp env) mem n) (zc6 ps x (zdd E) ++ zbZ E) a zds) none = some r := ha
    cases hl : Nat.beq x.length ps.length with
    | false => rw [hl] at ha; cases ha
    | true =>
      rw [hl, cond_true] at ha
      refine ⟨Nat.eq_of_beq_eq_true hl, hB r _ _ (fun e env3 mem3 n3 he => ?_) _ _ _ ha⟩
      cases e with
      | normal =>
        obtain ⟨env4, mem4, q', h3, h4⟩ := zga he
        cases hq : zft env4 E with
        | false => rw [hq] at h3; cases h3
        | true =>
          rw [hq] at h3
          have := zpw _ _ hq
          subst this
          exact ⟨mem4, q', [], h3, h4 n3⟩
      | exit id => exact hk _ _ _ _ he
      | ret => exact hk _ _ _ _ he
  · dsimp only at ha; rw [List.drop_length] at ha; exact hk _ _ _ _ ha
theorem ziq {f : Env → Mem → Nat → Option zn} {K : Ex → Env → Mem → Nat → Option zn} {f' : Env → Mem → Nat → Prop} {Q : zaa} (hf : ∀ env mem n, f env mem n = some r → f' env mem n) (hk : ∀ e env mem n, K e env mem n = some r → Q e env mem n) :
    ∀ e env mem n, zgR f K e env mem n = some r → (match e with
        | .normal => f' env mem n
        | e => Q e env mem n) := by
  intro e env mem n h
  cases e with
  | normal => exact hf _ _ _ h
  | exit id => exact hk _ _ _ _ h
  | ret => exact hk _ _ _ _ h
theorem zcd (hS : zqU S C I) {fuel : Nat} : ∀ (c : CC) {Y : zcr} (b : Bool), zwk (evC S fuel c b) (fun Q env mem n => wpc C I Y b c Q env mem n)
  | .skip, Y, b => fun r K Q hk env mem n h => hk _ _ _ _ h
  | .seq x y, Y, b => fun r K Q hk env mem n h => by
    replace h : evC S fuel x b (zgR (fun env mem n => evC S fuel y b K env mem n) K) env mem n = some r := h
    have key := zcd hS x (Y := Y) b r _ _ (ziq (fun env mem n he => zcd hS y (Y := Y) b r K Q hk _ _ _ he) hk) _ _ _ h
    show wpc C I Y b (.seq x y) Q env mem n
    rw [wpc]
    split
    · exact key
    · exact .inl key
  | .reg ops, Y, b => fun r K Q hk env mem n h => zfl hS (fun env mem n he => hk _ _ _ _ he) ops _ _ _ _ h
  | .regd ops bef, Y, b => fun r K Q hk env mem n h => by
    refine zfk (r := r) hS (K' := fun env mem n l => zdP ops bef l = true ∧ Q .normal env mem n) (fun env mem n l he => ?_) ops _ _ _ _ _ h
    cases ho : zdP ops bef l with
    | false => rw [ho] at he; cases he
    | true => rw [ho] at he; exact ⟨rfl, hk _ _ _ _ he⟩
  | .cond x c d, Y, b => fun r K Q hk env mem n h => by
    replace h : (match zlc (x.ev (zcv env)) with
      | some z => @Bool.rec (fun _ => Option zn) (evC S fuel d b K env mem n) (evC S fuel c b K env mem n) z
      | none => none) = some r := h
    show wpc C I Y b (.cond x c d) Q env mem n
    rw [wpc]
    rw [zeq] at h
    unfold znB
    have hc := zcd hS (fuel := fuel) c (Y := Y) b r K Q hk env mem n
    have hd := zcd hS (fuel := fuel) d (Y := Y) b r K Q hk env mem n
    cases ht : zlc (x.ev env.get) with
    | none => rw [ht] at h; cases h
    | some z =>
      rw [ht] at h
      rcases zl6 ht with ⟨-, e⟩ | ⟨-, e⟩
      · rw [e]
        cases z with
        | true => exact ⟨fun _ => hc h, nofun⟩
        | false => exact ⟨nofun, fun _ => hd h⟩
      · rw [e]
        cases z with
        | true => exact hc h
        | false => exact hd h
  | .block id c, Y, b => fun r K Q hk env mem n h => by
    replace h : evC S fuel c b (zr1 id K) env mem n = some r := h
    show wpc C I Y b (.block id c) Q env mem n
    rw [wpc]
    refine zcd hS c (Y := Y) b r _ _ (fun e env mem n he => ?_) _ _ _ h
    cases e with
    | normal => exact hk _ _ _ _ he
    | ret => exact hk _ _ _ _ he
    | exit j =>
      simp only [zr1] at he
      dsimp only
      cases hb : Nat.beq j id with
      | true => rw [hb] at he; exact hk _ _ _ _ he
      | false => rw [hb] at he; exact hk _ _ _ _ he
  | .loop c, Y, b => fun r K Q hk env mem n h => by
    replace h : zfN S.n0 zds env mem (fun env mem => zj7 S.n0 (evC S fuel c b) K fuel env mem) = some r := h
    show wpc C I Y b (.loop c) Q env mem n
    rw [wpc]
    exact zrn (zcd hS c b) hk h
  | .exit id, Y, b => fun r K Q hk env mem n h => hk _ _ _ _ h
  | .ret, Y, b => fun r K Q hk env mem n h => hk _ _ _ _ h
  | .rng f ps x y, Y, true => fun r K Q hk env mem n h => by
    replace h : (none : Option zn) = some r := h
    cases h
  | .rng f ps x y, Y, false => fun r K Q hk env mem n h => by
    replace h : (match f.ev (zcv env) with
      | .fn g cs => match S.iter (zfI mem) n g cs with
        | some (xs, u) => zfN S.n0 zds env (zP u mem) fun E mem => zgD S.n0 (fun K env mem n => evC S fuel x true (zgR (fun env mem n => evC S fuel y true K env mem n) K) env mem n) ps K E xs mem
        | none => none
      | _ => none) = some r := h
    show wpc C I Y false (.rng f ps x y) Q env mem n
    rw [wpc]
    rw [zeq, zk5] at h
    generalize f.ev env.get = v at h ⊢
    cases v
    case fn g cs =>
      dsimp only at h ⊢
      split at h
      · rename_i xs u hit
        refine zoT (W := fun Q env mem n => wpc C I noY true x (fun e env mem n => match e with
          | .normal => wpc C I noY true y Q env mem n
          | e => Q e env mem n) env mem n) (fun r K Q hk env mem n h => ?_) hk (hS.iter _ _ _ _ _ _ hit) h
        exact zcd hS x (Y := noY) true r _ _ (ziq (fun env mem n he => zcd hS y (Y := noY) true r K Q hk _ _ _ he) hk) _ _ _ h
      · cases h
    all_goals cases h
end
theorem zmF : ∀ {l : List Nat} {k i j : Nat}, zkr l k i = some j → k ≤ j ∧ l[j - k]? = some i
  | [], k, i, j, h => by cases h
  | a :: r, k, i, j, h => by
    simp only [zkr] at h
    cases hb : Nat.beq a i with
    | true =>
      rw [hb, cond_true] at h; cases h
      exact ⟨Nat.le_refl _, by simp [Nat.eq_of_beq_eq_true hb]⟩
    | false =>
      rw [hb, cond_false] at h
      obtain ⟨h1, h2⟩ := zmF h
      refine ⟨by omega, ?_⟩
      rw [show j - k = j - (k + 1) + 1 by omega, List.getElem?_cons_succ]
      exact h2
theorem zi9 {js : List Nat} {i : Nat} {v : V} (f : Nat → V) (h : (match zkr js 0 i with | some j => some (f j) | none => some V.undef) = some v) : v = .undef ∨ ∃ j, js[j]? = some i ∧ v = f j := by
  split at h
  · rename_i j hj; cases h; exact .inr ⟨j, by simpa using (zmF hj).2, rfl⟩
  · cases h; exact .inl rfl
theorem zkl {M : Nat → Option Ob} {fz : List Nat} {x v : V} {i : Nat} (hr : V.reach M 20 x = [i]) (h : (match x.freeze M true 20 with
      | some y => cond (fz.contains i) (some (V.d y)) (some .undef)
      | none => some .undef) = some v) : v = .undef ∨ ∃ y, v = .d y ∧ x.freeze M true 20 = some y ∧ zdG (V.reach M 20 x) fz = true := by
  split at h
  · rename_i y hy
    cases hc : fz.contains i with
    | true => rw [hc] at h; cases h; exact .inr ⟨y, rfl, hy, by rw [hr]; simpa [zdG] using hc⟩
    | false => rw [hc] at h; cases h; exact .inl rfl
  · cases h; exact .inl rfl
mutual
theorem zxb {M : Nat → Option Ob} {js fz : List Nat} : ∀ (k : Nat) (x l : V), zul M js fz k x = some l → zbA M js fz k l x
  | 0, x, l, h => by cases h
  | k + 1, x, l, h => by
    cases x <;> simp only [zul] at h
    case d y => cases h; exact ⟨rfl, rfl⟩
    case own i =>
      split at h
      · rename_i j hj; cases h; exact ⟨i, by simpa using (zmF hj).2, rfl⟩
      · rcases zkl rfl h with rfl | ⟨y, rfl, h1, h2⟩
        · trivial
        · exact ⟨h1, h2⟩
    case view i o n =>
      rcases zkl rfl h with rfl | ⟨y, rfl, h1, h2⟩
      · trivial
      · exact ⟨h1, h2⟩
    case ptr i o =>
      rcases zi9 (fun j => V.ptr j o) h with rfl | ⟨j, hj, rfl⟩
      · trivial
      · exact ⟨i, hj, rfl⟩
    case bown i o =>
      rcases zi9 (fun j => V.bown j o) h with rfl | ⟨j, hj, rfl⟩
      · trivial
      · exact ⟨i, hj, rfl⟩
    case map i =>
      rcases zi9 (fun j => V.map j) h with rfl | ⟨j, hj, rfl⟩
      · trivial
      · exact ⟨i, hj, rfl⟩
    case agg cs =>
      split at h
      · rename_i y hy
        cases h
        unfold zxO at hy
        cases hr : (V.reach M 20 (.agg cs)).isEmpty with
        | false => rw [hr] at hy; cases hy
        | true =>
          rw [hr] at hy
          exact ⟨hy, by rw [List.isEmpty_iff.1 hr]; rfl⟩
      · split at h
        · rename_i l hl; cases h; exact ⟨cs, rfl, passVs_ok k cs l hl⟩
        · cases h
    case tup cs =>
      split at h
      · rename_i l hl; cases h; exact ⟨cs, rfl, passVs_ok k cs l hl⟩
      · cases h
    case fn f cs =>
      split at h
      · rename_i l hl; cases h; exact ⟨cs, rfl, passVs_ok k cs l hl⟩
      · cases h
    all_goals (cases h; first | exact rfl | trivial)
theorem passVs_ok {M : Nat → Option Ob} {js fz : List Nat} : ∀ (k : Nat) (x l : List V), passVs M js fz k x = some l → VPasses M js fz k l x
  | 0, x, l, h => by cases h
  | k + 1, [], l, h => by cases h; rfl
  | k + 1, v :: r, l, h => by
    simp only [passVs] at h
    split at h
    · rename_i a b ha hb; cases h; exact ⟨zxb k v a ha, passVs_ok k r b hb⟩
    · cases h
end
theorem zvw {M : Nat → Option Ob} {js fz : List Nat} {x : Option Ob} {o : Ob} (h : zr5 M js fz x = some o) : zbl M js fz o x := by
  unfold zr5 at h
  split at h
  · cases h; rfl
  · rename_i cs
    split at h
    · rename_i l hl; cases h; exact ⟨l, rfl, passVs_ok _ _ _ hl⟩
    · cases h
  · cases h; rfl
  · cases h
theorem zje {M : Nat → Option Ob} {js fz : List Nat} : ∀ {l : List Nat} {obs : List Ob}, zit M js fz l = some obs → zaD M js fz obs l
  | [], obs, h => by cases h; rfl
  | j :: r, obs, h => by
    simp only [zit] at h
    split at h
    · rename_i o l ho hl; cases h; exact ⟨zvw ho, zje hl⟩
    · cases h
theorem znL : ∀ {obs : List (Option Ob)}, zh7 obs = true → Obs.Flat obs
  | [], h => trivial
  | ob :: r, h => by
    simp only [zh7, Bool.and_eq_true] at h
    refine ⟨?_, znL h.2⟩
    have h1 := h.1
    unfold Ob.flatB at h1
    unfold Ob.Flat
    split at h1
    · exact fun x hx y hy => List.all_eq_true.1 (List.all_eq_true.1 h1 x hx) y hy
    · exact h1
    · exact fun p hp => by simpa using List.all_eq_true.1 h1 p hp
    · split <;> first | trivial | (rename_i h2 h3 h4 _ _; exfalso; simp_all)
section
variable {r : zn} {P : Program} {T : Nat → Obj → Prop}
def ztC (P : Program) (T : Nat → Obj → Prop) (F : Fs) : Prop := ∀ f vs obs v obs', F f vs obs = some (v, obs') → Fn P T f vs obs v obs'
theorem zpq : ∀ {vs : List V}, zne vs = true → ∃ ds : List D, vs = ds.map .d
  | [], h => ⟨[], rfl⟩
  | v :: r, h => by
    replace h : @Bool.rec (fun _ => Bool) false (zne r) (zci v) = true := h
    cases hv : zci v with
    | false => rw [hv] at h; cases h
    | true =>
      rw [hv] at h
      obtain ⟨x, rfl⟩ := zi8 hv
      obtain ⟨ds, rfl⟩ := zpq h
      exact ⟨x :: ds, rfl⟩
theorem zoc {M : Nat → Option Ob} : ∀ (ds : List D) (k : Nat), ds.length + 1 < k → VPasses M [] [] k (ds.map .d) (ds.map .d)
  | [], k + 1, h => rfl
  | x :: r, k + 1, h => by
    simp only [List.length_cons] at h
    refine ⟨?_, zoc r k (by omega)⟩
    match k, h with
    | k + 1, h => exact ⟨rfl, rfl⟩
theorem zrj {F : Fs} (hF : ztC P T F) {M : Nat → Option Ob} {n f : Nat} {vs : List V} {K : V → Upd → Nat → Option zn} (h : zj5 F M n f vs K = some r) {K' : V → Upd → Nat → Prop} (hk : ∀ v u k, K v u k = some r → K' v u k) : zey (zcW P T) M n f vs K' := by
  unfold zj5 at h
  cases hd : zne vs && Nat.blt vs.length 18 with
  | true =>
    rw [hd, cond_true] at h
    rw [Bool.and_eq_true] at hd
    obtain ⟨ds, rfl⟩ := zpq hd.1
    have hlt : (ds.map V.d).length < 18 := of_decide_eq_true (by simpa [Nat.blt_eq] using hd.2)
    split at h
    · rename_i lv obs' hf
      have key : ∀ v u k, v = zjg [] n 20 lv → u = zfh [] [] n obs' false → k = obs'.length - 0 → K v u k = some r → zey (zcW P T) M n f (ds.map .d) K' := by
        intro v u k hv hu hkk h
        exact ⟨v, u, k, ⟨[], [], false, ds.map .d, [], lv, obs', hF _ _ _ _ _ hf, zoc ds 20 (by simp at hlt; omega), rfl, rfl, rfl, rfl, rfl, Nat.zero_le _, nofun, hv, hu, hkk⟩, hk _ _ _ h⟩
      cases hc : (zci lv && obs'.isEmpty) with
      | true =>
        rw [hc] at h
        rw [Bool.and_eq_true] at hc
        obtain ⟨x, rfl⟩ := zi8 hc.1
        cases obs' with
        | cons _ _ => cases hc.2
        | nil => exact key _ _ _ rfl rfl rfl h
      | false => rw [hc] at h; exact key _ _ _ rfl rfl rfl h
    · cases h
  | false =>
  rw [hd, cond_false] at h
  generalize zi4 M vs = p at h
  obtain ⟨js, fz⟩ := p
  dsimp only at h
  split at h
  · rename_i obs lvs ho hl
    split at h
    · rename_i lv obs' hf
      generalize hcl : cond fz.isEmpty false (V.flat 20 lv && zh7 obs') = clean at h
      cases hc : (Nat.ble js.length obs'.length && zr6 M vs js fz) with
      | false => rw [hc] at h; cases h
      | true =>
        rw [hc] at h
        simp only [zr6, Bool.and_eq_true] at hc
        refine ⟨_, _, _, ⟨js, fz, clean, lvs, obs, lv, obs', hF _ _ _ _ _ hf, passVs_ok _ _ _ hl, zje ho, hc.2.1, hc.2.2.1, hc.2.2.2.1, hc.2.2.2.2, Nat.le_of_ble_eq_true hc.1, fun he => ?_, rfl, rfl, rfl⟩, hk _ _ _ h⟩
        rw [he] at hcl
        cases hz : fz.isEmpty with
        | true => rw [hz] at hcl; cases hcl
        | false =>
          rw [hz, cond_false, Bool.and_eq_true] at hcl
          exact ⟨hcl.1, znL hcl.2⟩
    · cases h
  · cases h
theorem zmE {q : List (Nat × Nat)} {i : Nat} {v x : V} (h : znT q i v x = true) : VLe q [] 30 v x := by
  unfold znT at h
  split at h
  · rename_i v' hv
    rw [← V.eqq_eq _ _ _ h]; exact zkK _ _ _ hv
  · cases h
theorem zpM {q : List (Nat × Nat)} {env : Env} {all : List (Option Ob)} : ∀ (obs : List Ob) (i : Nat) (obs' : List (Option Ob)), all.drop i = obs' → zko q env i obs obs' = true → zkX q [] env all i obs
  | [], i, obs', _, h => trivial
  | ob :: rest, i, obs', he, h => by
    simp only [zko, Bool.and_eq_true, zeq] at h
    have hget : all.getD i none = obs'.getD 0 none := by rw [← he]; simp [List.getD]
    refine ⟨?_, zpM rest (i + 1) obs'.tail (by rw [← he, ← List.drop_drop, List.drop_one]) h.2⟩
    have h1 := h.1
    rw [hget]
    cases obs' with
    | nil => trivial
    | cons o l =>
      cases o with
      | none => trivial
      | some o =>
        cases o with
        | row s xs =>
          simp only [Bool.and_eq_true] at h1
          refine ⟨?_, zmE h1.2⟩
          cases ob with
          | row s' ys => exact Nat.eq_of_beq_eq_true h1.1
          | _ => cases h1.1
        | box cs =>
          simp only [Bool.and_eq_true] at h1
          refine ⟨?_, zmE h1.2⟩
          cases ob with
          | box ys => trivial
          | _ => cases h1.1
        | map es =>
          simp only [Bool.and_eq_true] at h1
          refine ⟨?_, zmE h1.2⟩
          cases ob with
          | map ys => trivial
          | _ => cases h1.1
        | iter _ _ => cases h1
        | todo _ => cases h1
theorem zmT {q : List (Nat × Nat)} {mem : Mem} {N : Nat} (hr : rOk q N = true) : ∀ (k i : Nat), i + k ≤ N → ziK q [] mem N (zgQ i (zjc q mem i k))
  | 0, i, _ => trivial
  | k + 1, i, hi => by
    simp only [zjc, zgQ]
    cases ho : zr0 q mem i with
    | none => exact ⟨by omega, zmT hr k (i + 1) (by omega)⟩
    | some ob =>
      obtain ⟨j, hj, ob', h1, h2⟩ := zto (nl := []) ho
      refine ⟨by omega, ?_, zmT hr k (i + 1) (by omega)⟩
      rw [hj]; exact ⟨ob', h1, h2⟩
theorem zp0 {q : List (Nat × Nat)} {mem : Mem} : ∀ (k i : Nat), (zjc q mem i k).length = k
  | 0, i => rfl
  | k + 1, i => by simp [zjc, zp0 k (i + 1)]
theorem ztp {obs : List Ob} {env : Env} {mem : Mem} {n : Nat} {x v v' : V} {m : Nat} {q : List (Nat × Nat)} {obs' : List (Option Ob)} (h : zuj obs env mem v m q = some (v', obs')) (hv : VLe q [] 30 v x ∨ zna mem q v x) :
    ∃ r nl, zm9 obs env mem n x v' obs' r nl := by
  unfold zuj at h
  dsimp only at h
  cases hc : (rOk q m && zko q env 0 obs (zjc q mem 0 m)) with
  | false => rw [hc] at h; cases h
  | true =>
    rw [hc] at h
    cases h
    rw [Bool.and_eq_true] at hc
    have h1 := hc.1
    unfold rOk at h1
    rw [Bool.and_eq_true] at h1
    refine ⟨q, [], hv.elim .inl (fun h => .inr (.inl h)), ?_, zpM obs 0 _ rfl hc.2⟩
    rw [zp0]
    exact ⟨h1.1, h1.2, rfl, trivial, zmT hc.1 m 0 (by omega)⟩
theorem zpG {own : Bool} {obs : List Ob} {res : List zgu} {env : Env} {mem : Mem} {n : Nat} {v : V} {obs' : List (Option Ob)} (h : finish own obs res env mem = some (v, obs')) :
    ∃ x r nl, zmZ res env.get mem.get = some x ∧ zm9 obs env mem n x v obs' r nl := by
  have href : ∀ x, zqF obs env mem x = some (v, obs') → ∃ r nl, zm9 obs env mem n x v obs' r nl := by
    intro x h
    unfold zqF at h
    dsimp only at h
    split at h
    · rename_i v1 hv1; exact ztp h (.inl (zkK _ _ _ hv1))
    · cases h
  unfold finish at h
  rw [zeq, zk5] at h
  split at h
  · cases h
  · rename_i x hx
    refine ⟨x, ?_⟩
    cases hq : obs.isEmpty && zci x with
    | true =>
      rw [hq, cond_true] at h
      cases h
      rw [Bool.and_eq_true] at hq
      obtain ⟨y, rfl⟩ := zi8 hq.2
      cases obs with
      | cons _ _ => cases hq.1
      | nil => exact ⟨[], [], hx, .inr (.inl ⟨y, rfl, rfl, rfl⟩), ⟨rfl, rfl, rfl, trivial, trivial⟩, trivial⟩
    | false =>
    rw [hq, cond_false] at h
    split at h
    · rename_i y hy
      have hfz : x.freeze mem.get true 20 = some y := by
        cases own
        · exact hy
        · cases hy
      dsimp only at h
      generalize zik obs.length mem [] = ids at h
      cases hd : zdw (V.reach mem.get 20 x) ((zoi obs.length mem ids).map Prod.snd) with
      | true =>
        rw [hd] at h
        obtain ⟨r, nl, h1⟩ := ztp (n := n) h (.inr ⟨y, rfl, hfz, hd⟩)
        exact ⟨r, nl, hx, h1⟩
      | false =>
        rw [hd] at h
        obtain ⟨r, nl, h1⟩ := href x h
        exact ⟨r, nl, hx, h1⟩
    · obtain ⟨r, nl, h1⟩ := href x h
      exact ⟨r, nl, hx, h1⟩
structure ztB (P : Program) (T : Nat → Obj → Prop) (C : Cfg) : Prop where
  code : ∀ f c, C.code f = some c → zm P f = some c
  known : ztC P T C.known
  its : ∀ g vs obs xs, C.its g vs obs = some xs → It P T g vs obs xs
theorem zrm {C : Cfg} (hC : ztB P T C) {M : Nat → Option Ob} {n g : Nat} {cs : List V} {xs : List (List D)} {u : Upd} (h : zj6 C M n g cs = some (xs, u)) : ziJ P T M n g cs xs u true := by
  unfold zj6 at h
  generalize zi4 M cs = p at h
  obtain ⟨js, fz⟩ := p
  dsimp only at h
  split at h
  · rename_i obs lvs ho hl
    split at h
    · rename_i xs' hx
      cases hc : (nodup js && zdw fz js) with
      | false => rw [hc] at h; cases h
      | true =>
        rw [hc] at h
        cases h
        rw [Bool.and_eq_true] at hc
        exact ⟨js, fz, lvs, obs, hC.its _ _ _ _ hx, passVs_ok _ _ _ hl, zje ho, hc.1, hc.2, rfl⟩
    · cases h
  · cases h
theorem zpy (hm : P.follows .mixedOrders = true) {C : Cfg} (hC : ztB P T C) : ∀ k, ztC P T (evF C k)
  | 0, f, vs, obs, v, obs', h => by
    replace h : (none : Option zn) = some (v, obs') := h
    cases h
  | k + 1, f, vs, obs, v, obs', h => by
    replace h : (match C.known f vs obs with
      | some r => some r
      | none => match C.code f with
        | some c => cond (Nat.ble vs.length c.ntmps) (evC ⟨C.sec f, fun M n f vs K => zj5 (evF C k) M n f vs K, zj6 C, obs.length⟩ C.rounds c.body false
            (fun e env mem n => match e with
              | .exit _ => none
              | _ => finish (C.own f) obs c.res env mem) (zaX 0 vs ++ zcw zf 0 obs) (zhC 0 obs) obs.length) none
        | none => none) = some (v, obs') := h
    split at h
    · rename_i r hr; cases h; exact hC.known _ _ _ _ _ hr
    · split at h
      · rename_i c hc
        cases hl : Nat.ble vs.length c.ntmps with
        | false => rw [hl] at h; cases h
        | true =>
          rw [hl, cond_true] at h
          have ih := zpy hm hC k
          refine zmz hm (hC.code f c hc) (Nat.le_of_ble_eq_true hl) (zrw c obs v obs') (fun _ _ _ _ h => h) ?_
          refine zcd (S := ⟨C.sec f, fun M n f vs K => zj5 (evF C k) M n f vs K, zj6 C, obs.length⟩) (I := ziJ P T) (C := zcW P T) ⟨fun r M n f vs K h K' hk => zrj ih h hk, fun M n g cs xs u h => zrm hC h⟩ c.body (Y := noY) false (v, obs') _ _ (fun e env mem n he => ?_) _ _ _ h
          cases e with
          | exit id => cases he
          | normal => exact ⟨trivial, zpG he⟩
          | ret => exact ⟨trivial, zpG he⟩
      · cases h
end
end Go.Ab
