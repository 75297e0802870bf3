/- A part of the proofs of this seat: functions and their contracts. -/
import Derived.Test.YtmaiaomgcpbccaaGreatMB
import Derived.RangeFuncLeaves
import Derived.RangeFuncRecord
import Derived.Shelf.Spec.TrailingZeros
set_option linter.unusedVariables false
set_option linter.unusedSimpArgs false
set_option linter.unusedSectionVars false
namespace Go.Ab
open Go
set_option linter.unusedVariables false
def locId (js:List Nat) (n m':Nat) (id:Nat):Option Nat :=
 if id∈js then some (js.idxOf id) else if n≤id∧id < n+(m' - js.length) then some (js.length+(id - n)) else none
theorem idxOf_get {js:List Nat} {id:Nat} (h:id∈js):js[js.idxOf id]? = some id:=by
 have hlt:=List.idxOf_lt_length_of_mem h
 rw [List.getElem?_eq_getElem hlt]
 exact congrArg some (List.getElem_idxOf hlt)
theorem loc_some {js:List Nat} {n m' id i:Nat} (hle:js.length≤m') (h:locId js n m' id=some i):i < m'∧renId js n i=id:=by
 unfold locId at h
 split at h
 ·rename_i hm
  cases h
  have hlt:=List.idxOf_lt_length_of_mem hm
  exact ⟨by omega,by simp only [renId,idxOf_get hm]⟩
 ·split at h
  ·cases h
   refine ⟨by omega,?_⟩
   simp only [renId]
   rw [List.getElem?_eq_none (by omega)]
   simp only;omega
  ·cases h
theorem loc_ren {js:List Nat} {n m' i:Nat} (hnd:nodup js=true) (hn : ∀ j∈js,¬ (n≤j∧j < n+(m' - js.length))) (hi:i < m'):locId js n m' (renId js n i)=some i:=by
 unfold locId renId
 cases hj:js[i]? with
 | some j =>
  simp only
  have hm:=List.mem_of_getElem? hj
  rw [if_pos hm]
  exact congrArg some (nodup_idx hnd (idxOf_get hm) hj)
 | none =>
  have hge:js.length≤i:=by
   rcases Nat.lt_or_ge i js.length with h|h
   ·rw [List.getElem?_eq_getElem h] at hj;cases hj
   ·exact h
  simp only
  have hin:n≤n+(i - js.length)∧n+(i - js.length) < n+(m' - js.length):=by omega
  rw [if_neg (fun hm=>hn _ hm hin),if_pos hin]
  congr 1;omega
theorem flat_get : ∀ {obs:List (Option Ob)},Obs.Flat obs → ∀ i,Ob.Flat (memG obs i)
 | [],_,i=>by simp [memG,Ob.Flat]
 | ob::r,h,0=>h.1
 | ob::r,h,i+1=>by have:=flat_get h.2 i;simpa [memG] using this
section
variable {P:Program}
theorem reach_given {B:Base} {ρ:Nat→V} {M:Nat→Option Ob} {F:Nat→Prop} {σ:Nat→Option Nat} {a:Act} {w:World} (h:Sim B ρ M F σ a w) : ∀ (k:Nat),
  (∀ (x:V) (u:Value),VSim σ M F (B.X σ M) w x u → ∀ id∈V.reach M k x,¬ F id) ∧
  (∀ (cs:List V) (f:Nat→Value),(∀ i,i < cs.length→VSim σ M F (B.X σ M) w (cs.getD i .undef) (f i)) → ∀ id∈reachs M k cs,¬ F id):=by
 have live : ∀ {id:Nat} {ob:Ob},M id=some ob → ¬ F id:=fun hm hf=>by rw [h.free _ hf] at hm;cases hm
 intro k
 induction k with
 | zero=>exact ⟨fun x u _ id hid=>by simp [V.reach] at hid,fun cs f _ id hid=>by simp [reachs] at hid⟩
 | succ k ih =>
  constructor
  ·intro x u hx id hid
   cases hx with
   | ownDead i ad l c h1 h2=>simp [V.reach] at hid;subst hid;exact h2
   | own i s xs b cap c e h1=>simp [V.reach] at hid;subst hid;exact live h1
   | ownNil i s h1=>simp [V.reach] at hid;subst hid;exact live h1
   | ptrDead i o ad h1 h2=>simp [V.reach,h1] at hid;subst hid;exact h2
   | ptr i o cs b h1 h2 =>
    simp only [V.reach,h1,List.mem_cons] at hid
    rcases hid with rfl|hid
    ·exact live h1
    ·obtain ⟨c,e,h3,h4,h5,h6⟩:=box_inv h h1 h2
     exact ih.2 cs (fun i=>c.getD i undef) h6 id hid
   | eptrDead i j o ad h1 h2=>simp [V.reach] at hid;subst hid;exact h2
   | eptr i j o s xs b h1=>simp [V.reach] at hid;subst hid;exact live h1
   | mapDead i r h1 h2=>simp [V.reach] at hid;subst hid;exact h2
   | map i es b h1=>simp [V.reach] at hid;subst hid;exact live h1
   | iterDead i ad h1 h2=>simp [V.reach] at hid;subst hid;exact h2
   | iter i l c b h1=>simp [V.reach] at hid;subst hid;exact live h1
   | viewDead i lo l ad cap h1 h2=>simp [V.reach] at hid;subst hid;exact h2
   | view i lo l s xs b cap h1=>simp [V.reach] at hid;subst hid;exact live h1
   | view0 i lo ad cap h1 =>
    simp [V.reach] at hid;subst hid
    rcases h1 with h1|h1
    ·obtain ⟨ob,hob⟩:=Option.ne_none_iff_exists'.1 h1;exact live hob
    ·exact h1
   | bownDead i l ad cap h1 h2=>simp [V.reach,h1] at hid;subst hid;exact h2
   | bown i l cs b cap c e h1 h2 h3' h4' =>
    simp only [V.reach,h1,List.mem_cons] at hid
    rcases hid with rfl|hid
    ·exact live h1
    ·obtain ⟨c,e,h3,h4,h5,h6⟩:=box_inv h h1 h2
     exact ih.2 cs (fun i=>c.getD i undef) h6 id hid
   | agg cs us h1 h2 h3=>exact ih.2 cs (fun i=>us.getD i undef) h3 id (by simpa [V.reach] using hid)
   | tup cs us h1 h3=>exact ih.2 cs (fun i=>us.getD i undef) h3 id (by simpa [V.reach] using hid)
   | fn f cs us h1 h3=>exact ih.2 cs (fun i=>us.getD i undef) h3 id (by simpa [V.reach] using hid)
   | _=>simp [V.reach] at hid
  ·intro cs f hf id hid
   cases cs with
   | nil=>simp [reachs] at hid
   | cons c r =>
    simp only [reachs,List.mem_append] at hid
    rcases hid with hid|hid
    ·exact ih.1 c (f 0) (hf 0 (by simp)) id hid
    ·exact ih.2 r (fun i=>f (i+1)) (fun i hi=>by have:=hf (i+1) (by simpa using hi);simpa using this) id hid
theorem valReach_given {B:Base} {ρ:Nat→V} {M:Nat→Option Ob} {F:Nat→Prop} {σ:Nat→Option Nat} {a:Act} {w:World} (h:Sim B ρ M F σ a w) : ∀ (cs:List V) (f:Nat→Value),
  (∀ i,i < cs.length→VSim σ M F (B.X σ M) w (cs.getD i .undef) (f i)) → ∀ id∈valReach M cs,¬ F id
 | [],f,_,id,hid=>by simp [valReach] at hid
 | c::r,f,hf,id,hid=>by
  simp only [valReach,List.mem_append] at hid
  rcases hid with hid|hid
  ·exact (reach_given h 20).1 c (f 0) (hf 0 (by simp)) id hid
  ·exact valReach_given h r (fun i=>f (i+1)) (fun i hi=>by have:=hf (i+1) (by simpa using hi);simpa using this) id hid
set_option maxHeartbeats 1000000 in
theorem callC_sound {T:Nat→Obj→Prop} (B:Base) (hT:Has T B):CallSound P B (CallC P T):=by
 rintro ρ M F σ a w n f vs v u k args h ⟨js,fz,clean,lvs,obs,lv,obs',hc⟩ hFn hsz hargs
 obtain ⟨hcallable,hfn⟩:=hc.fn
 refine ⟨hcallable,fun cs=>?_⟩
 have hdj : ∀ i∈fz,i ∉ js:=disj_spec hc.dj
 obtain ⟨hlen,hobs⟩:=obPasses_get hc.objs
 obtain ⟨hal,hav⟩:=passes_get hc.args
 have hk:=hc.k
 have hle:=hc.le
 obtain ⟨v',w',σL,hcalls,hsimL,hvL,hold⟩   := hfn (calleeB h js fz) (calleeσ js σ) a w args hT (fun _ _ _ _=>trivial) (callee_sim h hc.objs hdj hc.nd) (by omega) (fun i hi=>by
  obtain ⟨k',-,hp⟩:=hav i hi
  exact pass_val h hc.objs hdj k' _ _ _ hp (hargs i (by omega))) cs
 have hjM : ∀ {j:Nat},j∈js→M j≠none:=by
  intro j hj
  obtain ⟨i,hi,he⟩:=List.getElem_of_mem hj
  obtain ⟨j',h1,h2⟩:=hobs i obs[i] (List.getElem?_eq_getElem (by omega))
  rw [List.getElem?_eq_getElem hi,he] at h1;cases h1
  exact obPass_alive h2
 have hFM : ∀ {j:Nat},F j→M j=none:=fun hj=>h.free _ hj
 have hnew : ∀ {j:Nat},n≤j→j < n+(obs'.length - js.length)→F j:=fun h1 h2=>hFn _ h1 (by omega)
 have hjn : ∀ j∈js,¬ (n≤j∧j < n+(obs'.length - js.length)):=fun j hj hx=>hjM hj (hFM (hnew hx.1 hx.2))
 have hlr : ∀ {i:Nat},i < obs'.length→locId js n obs'.length (renId js n i)=some i:=fun hi=>loc_ren hc.nd hjn hi
 let L:=locId js n obs'.length
 have hL : ∀ {id i:Nat},L id=some i→i < obs'.length∧renId js n i=id:=fun hi=>loc_some hle hi
 have hLn : ∀ {id:Nat},L id=none→id ∉ js ∧ ¬ (n≤id∧id < n+(obs'.length - js.length)):=by
  intro id hi
  simp only [L,locId] at hi
  split at hi
  ·cases hi
  ·rename_i h1
   split at hi
   ·cases hi
   ·rename_i h2;exact ⟨h1,h2⟩
 have hfzF : ∀ id∈fz,¬ F id:=fun id hid=>valReach_given h vs (fun i=>args.getD i undef) hargs id (subl_spec hc.sf id hid)
 have hfzL : ∀ {id:Nat},id∈fz→M id≠none→L id=none:=by
  intro id hf hm
  cases hi:L id with
  | none=>rfl
  | some i =>
   exfalso
   simp only [L,locId] at hi
   split at hi
   ·rename_i h1;exact hdj id hf h1
   ·split at hi
    ·rename_i h2;exact hm (hFM (hnew h2.1 h2.2))
    ·cases hi
 have hM' : ∀ id,updF u M id=match L id with
   | some i=>renOb js n (memG obs' i)
   | none=>if clean=false∧id∈fz then none else M id:=by
  intro id
  rw [hc.u]
  have inU : ∀ x,(id,x)∈callU js fz n obs' clean↔(∃ t,js[t]? = some id∧x=renOb js n (memG obs' t))∨(clean=false∧id∈fz∧x=none) ∨ ∃ t,t < obs'.length - js.length∧id=n+t∧x=renOb js n (memG obs' (js.length+t)):=by
   intro x
   simp only [callU,List.mem_append]
   rw [backU_mem,newU_mem]
   have e1:(id,x)∈(cond clean [] (dropU fz))↔clean=false∧id∈fz∧x=none:=by
    cases clean
    ·simp only [cond_false,true_and];rw [dropU_mem]
    ·simp
   rw [e1]
   simp only [Nat.zero_add,List.length_drop,memG,List.getD,List.getElem?_drop]
  cases hi:L id with
  | some i =>
   obtain ⟨h1,h2⟩:=hL hi
   simp only
   refine updF_mem _ _ _ _ ((inU _).2 ?_) fun y hy=>?_
   ·simp only [L,locId] at hi
    split at hi
    ·rename_i hm
     cases hi
     exact .inl ⟨_,idxOf_get hm,rfl⟩
    ·split at hi
     ·rename_i h3
      cases hi
      exact .inr (.inr ⟨id - n,by omega,by omega,rfl⟩)
     ·cases hi
   ·rcases (inU y).1 hy with ⟨t,h3,rfl⟩|⟨h3,h4,rfl⟩|⟨t,h3,h4,rfl⟩
    ·have:renId js n t=id:=by simp only [renId,h3]
     have ht:t < obs'.length:=by have:=(List.getElem?_eq_some_iff.1 h3).1;omega
     have:=hlr ht
     rw [show renId js n t=id by simp only [renId,h3]] at this
     rw [show locId js n obs'.length id=L id from rfl,hi] at this
     cases this;rfl
    ·
     cases hm:M id with
     | some ob=>have:=hfzL h4 (by rw [hm];simp);rw [hi] at this;cases this
     | none =>
      exfalso
      simp only [L,locId] at hi
      split at hi
      ·rename_i h5;exact hjM h5 hm
      ·split at hi
       ·rename_i h5
        exact hfzF id h4 (hnew h5.1 h5.2)
       ·cases hi
    ·have ht:js.length+t < obs'.length:=by omega
     have:=hlr ht
     have e:renId js n (js.length+t)=id:=by simp only [renId];rw [List.getElem?_eq_none (by omega)];simp only;omega
     rw [e,show locId js n obs'.length id=L id from rfl,hi] at this
     cases this;rfl
  | none =>
   obtain ⟨h1,h2⟩:=hLn hi
   simp only
   split
   ·rename_i h3
    refine updF_mem _ _ _ _ ((inU _).2 (.inr (.inl ⟨h3.1,h3.2,rfl⟩))) fun y hy=>?_
    rcases (inU y).1 hy with ⟨t,h4,rfl⟩|⟨_,_,rfl⟩|⟨t,h4,h5,rfl⟩
    ·exact absurd (List.mem_of_getElem? h4) h1
    ·rfl
    ·exact absurd ⟨by omega,by omega⟩ h2
   ·rename_i h3
    refine updF_at _ _ _ fun hm=>?_
    obtain ⟨⟨id',x⟩,hx,e⟩:=List.mem_map.1 hm
    simp only at e;subst e
    rcases (inU x).1 hx with ⟨t,h4,-⟩|⟨h4,h5,-⟩|⟨t,h4,h5,-⟩
    ·exact h1 (List.mem_of_getElem? h4)
    ·exact h3 ⟨h4,h5⟩
    ·exact h2 ⟨by omega,by omega⟩
 have hM'1 : ∀ {id i:Nat},L id=some i→updF u M id=renOb js n (memG obs' i):=fun {id i} hi=>by rw [hM' id,hi]
 have hM'0 : ∀ {id:Nat},L id=none→updF u M id≠none→updF u M id=M id:=fun {id} hi hne=>by
  rw [hM' id,hi] at hne ⊢
  simp only at hne ⊢
  split
  ·rename_i hx;rw [if_pos hx] at hne;exact absurd rfl hne
  ·rfl
 let σ':Nat→Option Nat:=fun id=>match L id with
  | some i=>σL i
  | none=>σ id
 have hσ1 : ∀ {id i:Nat},L id=some i→σ' id=σL i:=fun {id i} hi=>by simp only [σ',hi]
 have hσ0 : ∀ {id:Nat},L id=none→σ' id=σ id:=fun {id} hi=>by simp only [σ',hi]
 have renSome : ∀ {x:Option Ob},renOb js n x≠none→x≠none:=by
  rintro x hx rfl;exact hx rfl
 have hXm : ∀ b,b < w.heap.size→B.X σ' (updF u M) b→B.X σ M b:=by
  rintro b hlt (hb|⟨id,h1,h2⟩)
  ·exact .inl hb
  ·cases hi:L id with
   | some i =>
    rw [hM'1 hi] at h1
    rw [hσ1 hi] at h2
    rcases (hsimL.mine i b (renSome h1) h2).2 with ⟨j,_,h4,h5⟩|h3
    ·exact .inr ⟨j,h4,h5⟩
    ·exact absurd hlt (Nat.not_lt.2 h3)
   | none =>
    rw [hM'0 hi h1] at h1
    rw [hσ0 hi] at h2
    exact .inr ⟨id,h1,h2⟩
 have hkeep : ∀ b,b < w.heap.size→(∀ j,j∈js→M j≠none→σ j=some b→False)→w'.heap[b]? = w.heap[b]? := fun b hlt hb=>hsimL.kept.block b hlt fun ⟨j,h1,h2,h3⟩=>hb j h1 h2 h3
 have hF' : ∀ {id:Nat},F id→L id=none → ¬ (n≤id∧id < n+k):=fun {id} _ hi hx=>(hLn hi).2 ⟨hx.1,by omega⟩
 have tn:Turn σ σ' M (updF u M) F (takeF F n k) (B.X σ M) (B.X σ' (updF u M)) w w':=by
  refine ⟨fun id ob hm=>?_,fun id hm hf=>?_,hsimL.kept.size,fun b hb hlt=>hkeep b hlt fun j _ h2 h3=>hb (.inr ⟨j,h2,h3⟩),hXm,fun id b c e h1 h2 hc=>?_⟩
  ·have hnF : ¬ takeF F n k id:=fun hf=>by rw [h.free _ hf.1] at hm;cases hm
   cases hi:L id with
   | some i =>
    have hmj:id∈js:=by
     simp only [L,locId] at hi
     split at hi
     ·rename_i h1;exact h1
     ·split at hi
      ·rename_i h2;rw [hFM (hnew h2.1 h2.2)] at hm;cases hm
      ·cases hi
    have hidx:js[i]? = some id:=by
     simp only [L,locId,if_pos hmj] at hi
     cases hi;exact idxOf_get hmj
    have hi':=(List.getElem?_eq_some_iff.1 hidx).1
    obtain ⟨j',h1,h2⟩:=hobs i obs[i] (List.getElem?_eq_getElem (by omega))
    rw [hidx] at h1;cases h1
    rw [hm] at h2
    rcases hold i obs[i] (List.getElem?_eq_getElem (by omega)) with h3|⟨h3,ob',h4,h5⟩
    ·left;exact ⟨by rw [hM'1 hi,h3];rfl,hnF⟩
    ·right
     refine ⟨by rw [hσ1 hi,h3];simp [calleeσ,hidx],?_⟩
     rw [hM'1 hi,h4]
     cases ob with
     | row s xs =>
      simp only [ObPass] at h2
      rw [h2] at h5
      cases h5 with
      | row _ _ ys hl=>exact ⟨_,rfl,.row s xs ys hl⟩
     | box xs =>
      simp only [ObPass] at h2
      obtain ⟨cs,h2,-⟩:=h2
      rw [h2] at h5
      cases h5 with
      | box _ ds=>exact ⟨_,rfl,.box _ _⟩
     | map es =>
      simp only [ObPass] at h2
      rw [h2] at h5
      cases h5 with
      | map _ fs=>exact ⟨_,rfl,.map es fs⟩
     | iter=>exact h2.elim
     | todo=>exact h2.elim
   | none =>
    rw [hM' id,hi]
    simp only
    split
    ·exact .inl ⟨rfl,hnF⟩
    ·exact .inr ⟨hσ0 hi,ob,hm,shape_refl h hm⟩
  ·cases hi:L id with
   | some i =>
    exfalso
    simp only [L,locId] at hi
    split at hi
    ·rename_i h1;exact hjM h1 hm
    ·split at hi
     ·rename_i h2;exact hf (hnew h2.1 h2.2)
     ·cases hi
   | none =>
    refine ⟨?_,fun h3=>hf h3.1⟩
    rw [hM' id,hi]
    simp only
    split
    ·rfl
    ·exact hm
  ·exact hsimL.kept.cells b c e hc
 have r1 : ∀ i,¬ (obs'.length≤i)→σ' (renId js n i)=σL i:=fun i hi=>hσ1 (hlr (by omega))
 have r2 : ∀ i,¬ (obs'.length≤i)→updF u M (renId js n i)=renOb js n (memG obs' i):=fun i hi=>hM'1 (hlr (by omega))
 have r3 : ∀ i,¬ (obs'.length≤i) → ¬ takeF F n k (renId js n i):=fun i hi hf=>by
  have hl:=hlr (show i < obs'.length by omega)
  have:L (renId js n i)=some i:=hl
  simp only [L,locId] at this
  split at this
  ·rename_i h1;exact hjM h1 (hFM hf.1)
  ·split at this
   ·rename_i h2;exact hf.2 ⟨h2.1,by omega⟩
   ·cases this
 have r4 : ∀ i,obs'.length≤i→memG obs' i=none:=fun i hi=>by simp [memG,List.getD,hi]
 have rX:clean=true ∨ ∀ b,b < w'.heap.size→B.X σ' (updF u M) b→(calleeB h js fz).X σL (memG obs') b:=by
  cases hcl:clean with
  | true=>exact .inl rfl
  | false =>
   right
   rintro b hlt (hb|⟨id,h1,h2⟩)
   ·exact .inl ⟨h.olt b hb,.inl hb⟩
   ·cases hi:L id with
    | some i =>
     rw [hM'1 hi] at h1
     rw [hσ1 hi] at h2
     exact .inr ⟨i,renSome h1,h2⟩
    | none =>
     have h3:=h1
     rw [hM' id,hi] at h3
     simp only at h3
     split at h3
     ·exact absurd rfl h3
     ·rename_i h4
      rw [hσ0 hi] at h2
      obtain ⟨o,hc⟩:=live_block h h3 h2
      exact .inl ⟨lt_of_block hc,.inr ⟨id,h3,h2,(hLn hi).1,fun hf=>h4 ⟨hcl,hf⟩⟩⟩
 refine ⟨v',w',σ',hcalls,?_,?_⟩
 ·refine h.step tn (fun id ob hm=>?_) (fun i j b h1 h2 h3 h4=>?_) (fun id b h1 h2=>?_) (fun id hf=>?_) ?_ (fun b hb=>hkeep b (h.olt b hb) fun j _ h2 h3=>(h.mine j b h2 h3).1 hb) (fun id l hm=>?_)
  rotate_left 5
  ·cases hi:L id with
   | some i =>
    have h1:=hM'1 hi
    rw [hm] at h1
    cases hob:memG obs' i with
    | none=>rw [hob] at h1;cases h1
    | some ob0=>rw [hob] at h1;cases ob0<;>cases h1
   | none =>
    have h1:=hM'0 hi (by rw [hm];simp)
    rw [hm] at h1
    exact h1.symm
  ·cases hi:L id with
   | some i =>
    right
    obtain ⟨hlt,hre⟩:=hL hi
    have h1:=hM'1 hi
    rw [hm] at h1
    cases hob:memG obs' i with
    | none=>rw [hob] at h1;cases h1
    | some ob0 =>
     rw [hob] at h1
     have:=ren_ob r1 r2 r3 r4 (X:=(calleeB h js fz).X σL (memG obs')) (X':=B.X σ' (updF u M)) (w:=w') (i:=i) (ob:=ob0) (ob':=ob) (by
      rcases rX with hcl|hX
      ·have:=flat_get (hc.fl hcl).2 i;rw [hob] at this;exact .inl this
      ·exact .inr hX) (by omega) h1.symm (hsimL.mem i ob0 hob)
     rwa [hre] at this
   | none =>
    left
    have h1:=hM'0 hi (by rw [hm];simp)
    rw [hm] at h1
    refine ⟨h1.symm,hσ0 hi,fun b hb=>?_⟩
    obtain ⟨o,hcb⟩:=live_block h (show M id≠none by rw [← h1];simp) hb
    exact hkeep b (lt_of_block hcb) fun j h3 h4 h5=>(hLn hi).1 (by have:=h.inj j id b h4 (by rw [← h1];simp) h5 hb;subst this;exact h3)
  ·
   have cross : ∀ {i j p b:Nat},L i=some p→L j=none→updF u M i≠none→updF u M j≠none→σ' i=some b→σ' j=some b→False:=by
    intro i j p b hi hj h1 h2 h3 h4
    rw [hM'1 hi] at h1
    rw [hσ1 hi] at h3
    have h5:=h2
    rw [hM'0 hj h2] at h5
    rw [hσ0 hj] at h4
    rcases (hsimL.mine p b (renSome h1) h3).2 with ⟨q,g1,g2,g3⟩|g1
    ·have:=h.inj q j b g2 h5 g3 h4
     subst this;exact (hLn hj).1 g1
    ·obtain ⟨o,hcb⟩:=live_block h h5 h4
     have:=lt_of_block hcb
     exact absurd this (Nat.not_lt.2 g1)
   cases hi:L i with
   | some p =>
    cases hj:L j with
    | some q =>
     rw [hM'1 hi] at h1;rw [hM'1 hj] at h2
     rw [hσ1 hi] at h3;rw [hσ1 hj] at h4
     have:=hsimL.inj p q b (renSome h1) (renSome h2) h3 h4
     subst this
     rw [← (hL hi).2,(hL hj).2]
    | none=>exact (cross hi hj h1 h2 h3 h4).elim
   | none =>
    cases hj:L j with
    | some q=>exact (cross hj hi h2 h1 h4 h3).elim
    | none =>
     have g1:=h1;have g2:=h2
     rw [hM'0 hi h1] at g1;rw [hM'0 hj h2] at g2
     rw [hσ0 hi] at h3;rw [hσ0 hj] at h4
     exact h.inj i j b g1 g2 h3 h4
  ·cases hi:L id with
   | some i =>
    rw [hM'1 hi] at h1
    rw [hσ1 hi] at h2
    obtain ⟨h3,h4⟩:=hsimL.mine i b (renSome h1) h2
    have hnO : ¬ B.O b:=fun hb=>h3 ⟨h.olt b hb,.inl hb⟩
    refine ⟨hnO,?_⟩
    rcases h4 with ⟨q,g1,g2,g3⟩|h4
    ·exact (h.mine q b g2 g3).2
    ·exact .inr (Nat.le_trans h.kept.size h4)
   | none =>
    have g1:=h1
    rw [hM'0 hi h1] at g1
    rw [hσ0 hi] at h2
    exact h.mine id b g1 h2
  ·cases hi:L id with
   | some i =>
    exfalso
    simp only [L,locId] at hi
    split at hi
    ·rename_i h1;exact hjM h1 (hFM hf.1)
    ·split at hi
     ·rename_i h2;exact hf.2 ⟨h2.1,by omega⟩
     ·cases hi
   | none =>
    rw [hM' id,hi]
    simp only
    split
    ·rfl
    ·exact hFM hf.1
  ·have kp:=hsimL.kept
   refine ⟨kp.os.trans h.kept.os,kp.tape.trans h.kept.tape,kp.output.trans h.kept.output,Nat.le_trans h.kept.size kp.size,fun b hlt hnr=>?_,fun b c e hcb=>?_⟩
   ·rw [hkeep b (Nat.lt_of_lt_of_le hlt h.kept.size) fun j h1 h2 h3=>by
     rcases (h.mine j b h2 h3).2 with h4|h4
     ·exact hnr h4
     ·omega]
    exact h.kept.block b hlt hnr
   ·obtain ⟨c1,h1,h2⟩:=h.kept.cells b c e hcb
    obtain ⟨c2,h3,h4⟩:=kp.cells b c1 e h1
    exact ⟨c2,h3,by omega⟩
 ·rw [hc.v]
  refine ren_val r1 r2 r3 r4 20 _ _ ?_ hvL
  rcases rX with hcl|hX
  ·exact .inl ⟨20,(hc.fl hcl).1⟩
  ·exact .inr hX
end
end Go.Ab
namespace Go.Ab
open Go
set_option linter.unusedVariables false
def bindEnv:Nat→List V→Env
 | _,[]=>[]
 | i,v::r=>(i,v)::bindEnv (i+1) r
def memO:Nat→List (Option Ob)→Mem
 | _,[]=>[]
 | i,ob::r=>(i,ob)::memO (i+1) r
def memS:Nat→List Ob→Mem
 | _,[]=>[]
 | i,ob::r=>(i,some ob)::memS (i+1) r
def refOf (i:Nat):Ob→V
 | .row _ _ => .own i
 | .box _ => .ptr i 0
 | .map _ => .map i
 | _ => .undef
def ghostEnv (g:Nat):Nat→List Ob→Env
 | _,[]=>[]
 | i,ob::r=>(g+i,refOf i ob)::ghostEnv g (i+1) r
def resOf (ρ:Nat→V) (M:Nat→Option Ob):CRes→Option V
 | .tmp t=>some (ρ t)
 | .cell a g=>match ρ a with
  | .ptr id o=>match M id with
   | some (.box cs)=>match getCells cs o g with
    | .ok v _ _=>some v
    | _=>none
   | _=>none
  | _=>none
def resOfs (ρ:Nat→V) (M:Nat→Option Ob):List CRes→Option (List V)
 | []=>some []
 | r::rs=>match resOf ρ M r,resOfs ρ M rs with
  | some v,some l=>some (v::l)
  | _,_=>none
def resV (res:List CRes) (ρ:Nat→V) (M:Nat→Option Ob):Option V :=
 match resOfs ρ M res with
 | some [v]=>some v
 | some l=>some (.tup l)
 | none=>none
def GhostLe (r:List (Nat×Nat)) (nl:List Nat) (env:Env) (obs':List (Option Ob)):Nat→List Ob→Prop
 | _,[]=>True
 | i,ob::rest=>(match obs'.getD i none with
   | none=>True
   | some (.row s _)=>(match ob with | .row s' _=>s'=s|_=>False)∧VLe r nl 30 (.own i) (env.get (ghostAt+i))
   | some (.box _)=>(match ob with | .box _=>True|_=>False)∧VLe r nl 30 (.ptr i 0) (env.get (ghostAt+i))
   | some (.map _)=>(match ob with | .map _=>True|_=>False)∧VLe r nl 30 (.map i) (env.get (ghostAt+i))
   | some _=>False)∧GhostLe r nl env obs' (i+1) rest
def Frozen (mem:Mem) (r:List (Nat×Nat)) (v x:V):Prop := ∃ y,v = .d y∧x.freeze mem.get true 20=some y∧disj (V.reach mem.get 20 x) (r.map Prod.snd)=true
structure FinAs (obs:List Ob) (env:Env) (mem:Mem) (n:Nat) (x v:V) (obs':List (Option Ob)) (r:List (Nat×Nat)) (nl:List Nat):Prop where
 v:VLe r nl 30 v x∨Frozen mem r v x ∨ ∃ vs xs,v = .tup vs∧x = .tup xs∧vs.length=xs.length ∧ ∀ i,i < vs.length→VLe r nl 30 (vs.getD i .undef) (xs.getD i .undef)∨Frozen mem r (vs.getD i .undef) (xs.getD i .undef)
 le:Le [] mem n [] (memO 0 obs') obs'.length r nl
 gh:GhostLe r nl env obs' 0 obs
def fnPost (c:CFn) (obs:List Ob) (v:V) (obs':List (Option Ob)):Post:=fun e env mem n =>
 (match e with | .exit _=>False|_=>True) ∧ ∃ x r nl,resV c.res env.get mem.get=some x∧FinAs obs env mem n x v obs' r nl
theorem bindEnv_get : ∀ (vs:List V) (i t:Nat),(bindEnv i vs).get t=if i≤t∧t < i+vs.length then vs.getD (t - i) .undef else .undef
 | [],i,t=>by simp only [bindEnv,Env.get];split<;>simp
 | v::r,i,t=>by
  simp only [bindEnv,Env.get]
  cases hb:Nat.beq i t with
  | true =>
   have:=Nat.eq_of_beq_eq_true hb
   subst this
   simp
  | false =>
   have hne:i≠t:=fun e=>by subst e;simp at hb
   simp only [cond_false]
   rw [bindEnv_get r (i+1) t]
   by_cases h1:i≤t∧t < i+(v::r).length
   ·rw [if_pos h1,if_pos (by simp at h1;omega),show t - i=t - (i+1)+1 by omega]
    simp
   ·rw [if_neg h1,if_neg (by simp at h1;omega)]
theorem ghostEnv_get (g:Nat) : ∀ (obs:List Ob) (i t:Nat),(ghostEnv g i obs).get t=if g+i≤t∧t < g+i+obs.length then (match obs[t - g - i]? with|some ob=>refOf (t - g) ob|none => .undef) else .undef
 | [],i,t=>by simp only [ghostEnv,Env.get];split<;>simp
 | ob::r,i,t=>by
  simp only [ghostEnv,Env.get]
  cases hb:Nat.beq (g+i) t with
  | true =>
   have:=Nat.eq_of_beq_eq_true hb
   subst this
   simp
  | false =>
   have hne:g+i≠t:=fun e=>by subst e;simp at hb
   simp only [cond_false]
   rw [ghostEnv_get g r (i+1) t]
   by_cases h1:g+i≤t∧t < g+i+(ob::r).length
   ·rw [if_pos h1,if_pos (by simp at h1;omega),show t - g - i=t - g - (i+1)+1 by omega]
    simp
   ·rw [if_neg h1,if_neg (by simp at h1;omega)]
theorem memO_get : ∀ (obs:List (Option Ob)) (i t:Nat),(memO i obs).get t=if i≤t then obs.getD (t - i) none else none
 | [],i,t=>by simp only [memO,Mem.get];split<;>simp
 | ob::r,i,t=>by
  simp only [memO,Mem.get]
  cases hb:Nat.beq i t with
  | true =>
   have:=Nat.eq_of_beq_eq_true hb
   subst this
   simp
  | false =>
   have hne:i≠t:=fun e=>by subst e;simp at hb
   simp only [cond_false]
   rw [memO_get r (i+1) t]
   by_cases h1:i≤t
   ·rw [if_pos h1,if_pos (by omega),show t - i=t - (i+1)+1 by omega]
    simp
   ·rw [if_neg h1,if_neg (by omega)]
theorem memO_memG (obs:List (Option Ob)):(memO 0 obs).get=memG obs:=by
 funext t;rw [memO_get];simp [memG]
theorem memS_memO : ∀ (obs:List Ob) (i:Nat),memS i obs=memO i (obs.map some)
 | [],i=>rfl
 | ob::r,i=>by simp only [memS,memO,List.map_cons,memS_memO r (i+1)]
theorem env_append : ∀ (l m:Env) (t:Nat),Env.get (l++m) t=if (∃ p∈l,p.1=t) then Env.get l t else Env.get m t
 | [],m,t=>by simp
 | (k,v)::r,m,t=>by
  show cond (Nat.beq k t) v (Env.get (r++m) t)=_
  cases hb:Nat.beq k t with
  | true =>
   have:=Nat.eq_of_beq_eq_true hb
   subst this
   rw [if_pos ⟨(k,v),by simp,rfl⟩]
   simp [Env.get]
  | false =>
   have hne:k≠t:=fun e=>by subst e;simp at hb
   rw [cond_false,env_append r m t]
   simp only [Env.get,hb,cond_false]
   by_cases h : ∃ p∈r,p.1=t
   ·obtain ⟨p,h1,h2⟩:=h
    rw [if_pos ⟨p,h1,h2⟩,if_pos ⟨p,by simp [h1],h2⟩]
   ·rw [if_neg h,if_neg]
    rintro ⟨p,h1,h2⟩
    rcases List.mem_cons.1 h1 with rfl|h1
    ·exact hne h2
    ·exact h ⟨p,h1,h2⟩
def resGet (tmps:Array Value):ResultVar→Sem Value
 | .tmp t=>pure (tmps.getD t undef)
 | .cell a t=>do loadVar t (← asAddr (tmps.getD a undef))
theorem results_eq (fn:Func) (tmps:Array Value):results fn tmps=(do
  let vs ← fn.results.mapM (resGet tmps)
  pure (if h:vs.size=1 then vs[0] else .tuple vs)):=by
 unfold results
 congr 1
section
variable {P:Program} {B:Base} {ρ:Nat→V} {M:Nat→Option Ob} {F:Nat→Prop} {σ:Nat→Option Nat} {a:Act} {w:World}
theorem resOf_sim (h:Sim B ρ M F σ a w) {r:ResultVar} {c:CRes} {v:V} (hc:compRes P r=some c) (hv:resOf ρ M c=some v) :
  ∃ v',(resGet a.tmps r).run P w = .ok v' w∧VSim σ M F (B.X σ M) w v v':=by
 cases r with
 | tmp t =>
  simp only [compRes] at hc
  cases hb:Nat.blt t ghostAt with
  | false=>rw [hb] at hc;cases hc
  | true =>
   rw [hb] at hc;cases hc
   simp only [resOf,Option.some.injEq] at hv
   subst hv
   have hlt:t < ghostAt:=of_decide_eq_true (by simpa [Nat.blt_eq] using hb)
   have:=h.env t
   simp only [Base.look,if_pos hlt] at this
   exact ⟨_,rfl,this⟩
 | cell x t =>
  simp only [compRes] at hc
  cases hb:Nat.blt x ghostAt with
  | false=>rw [hb] at hc;cases hc
  | true =>
   rw [hb] at hc
   simp only [cond_true,Option.map_eq_some_iff] at hc
   obtain ⟨g,hg,rfl⟩:=hc
   have hlt:x < ghostAt:=of_decide_eq_true (by simpa [Nat.blt_eq] using hb)
   have hx:=h.env x
   simp only [Base.look,if_pos hlt] at hx
   simp only [resOf] at hv
   split at hv
   ·rename_i id o he
    split at hv
    ·rename_i cs hm
     split at hv
     ·rename_i v0 u0 k0 hge
      cases hv
      rw [he] at hx
      simp only [resGet]
      generalize a.tmps.getD x undef=ax at hx ⊢
      cases hx with
      | ptrDead _ _ ad h1 h2=>rw [hm] at h1;cases h1
      | ptr _ _ cs' b h1 h2 =>
       rw [hm] at h1;cases h1
       obtain ⟨c,e,h3,h4,h5,h6⟩:=box_inv h hm h2
       obtain ⟨-,-,v',hr,hv⟩:=load_box (P:=P) (C:=fun _ _ _ _ _ _ _=>False) (M:=M) (n:=0) (v:=v) (u:=u0) (k:=k0) hg h3 h4 h5 h6 (by rw [hge];exact ⟨rfl,rfl,rfl⟩)
       exact ⟨v',by simp only [asAddr,Sem.run_bind,Sem.run_pure,Result.andThen_ok,hr],hv⟩
     ·cases hv
    ·cases hv
   ·cases hv
theorem resOfs_sim (h:Sim B ρ M F σ a w) : ∀ (rs:List ResultVar) (cs:List CRes) (vs:List V),rs.length=cs.length→(∀ i (h1:i < rs.length) (h2:i < cs.length),compRes P rs[i]=some cs[i])→resOfs ρ M cs=some vs →
  ∃ us:List Value,(rs.mapM (m:=Sem) (resGet a.tmps)).run P w = .ok us w ∧
   us.length=vs.length ∧ ∀ i,i < vs.length→VSim σ M F (B.X σ M) w (vs.getD i .undef) (us.getD i undef)
 | [],[],vs,_,_,hv=>by cases hv;exact ⟨[],rfl,rfl,fun i hi=>by simp at hi⟩
 | [],c::cs,vs,hl,_,_=>by simp at hl
 | r::rs,[],vs,hl,_,_=>by simp at hl
 | r::rs,c::cs,vs,hl,hc,hv=>by
  simp only [resOfs] at hv
  split at hv
  ·rename_i v l h1 h2
   cases hv
   obtain ⟨v',g1,g2⟩:=resOf_sim h (hc 0 (by simp) (by simp)) h1
   obtain ⟨us,g3,g4,g5⟩:=resOfs_sim h rs cs l (by simpa using hl) (fun i h3 h4=>hc (i+1) (by simp;omega) (by simp;omega)) h2
   refine ⟨v'::us,?_,by simp [g4],fun i hi=>?_⟩
   ·simp only [List.mapM_cons,Sem.run_bind]
    have g1':(resGet a.tmps r).run P w = .ok v' w:=g1
    rw [g1']
    simp only [Result.andThen_ok]
    rw [g3]
    rfl
   ·cases i with
    | zero=>simpa using g2
    | succ i=>simpa using g5 i (by simpa using hi)
  ·cases hv
end
end Go.Ab
namespace Go.Ab
open Go
set_option linter.unusedVariables false
theorem unwind_steps {P:Program} : ∀ (Ds:List Nat) (fr:Frame) (cs:List Frame) (w:World),fr.mode = .returning→fr.defers=Ds.map collects→Ds.Nodup→(∀ D∈Ds,w.heap[D]? = some (.deferred (some []))) →
  ∃ w',Steps P (lone fr cs w) (lone { fr with defers:=[] } cs w')∧SameS w w'∧w'.heap.size=w.heap.size ∧ ∀ b,b ∉ Ds→w'.heap[b]? = w.heap[b]?
 | [],fr,cs,w,hm,hd,_,_=>by
  refine ⟨w,?_,⟨rfl,rfl,rfl⟩,rfl,fun _ _=>rfl⟩
  have:fr = { fr with defers:=[] } := by cases fr;simp at hd;subst hd;rfl
  rw [← this]
  exact .refl _ _
 | D::Ds,fr,cs,w,hm,hd,hnd,hh=>by
  have hD:=hh D (by simp)
  have hstep:=step_collected (P:=P) (fr:=fr) (cs:=cs) (w:=w) (d:=collects D) (r:=D) (ds:=Ds.map collects) (calls:=[]) (by rw [hm];simp) (by simpa using hd) rfl (run_takeDeferred hD)
  rw [List.nodup_cons] at hnd
  obtain ⟨w',h1,h2,h3,h4⟩:=unwind_steps Ds { fr with defers:=[]++Ds.map collects } cs (w.putObj D (.deferred none)) hm rfl hnd.2 (fun D' hD'=>by
   rw [World.putObj_heap_other (show D'≠D from fun e=>hnd.1 (by rw [← e];exact hD'))];exact hh D' (by simp [hD']))
  refine ⟨w',.head hstep h1,⟨h2.os,h2.tape,h2.output⟩,by rw [h3];simp,fun b hb=>?_⟩
  simp only [List.mem_cons,not_or] at hb
  rw [h4 b hb.2,World.putObj_heap_other hb.1]
section
variable {B B':Base} {ρ:Nat→V} {M:Nat→Option Ob} {F:Nat→Prop} {σ:Nat→Option Nat} {a a':Act} {w w':World}
theorem Sim.less (ht:TrivInv B) (h:Sim B' ρ M F σ a w) (h0:B'.w0=B.w0) (hR:B'.R=B.R) (hnt:B'.nt=B.nt) (hg:B'.ghost=B.ghost) (hO : ∀ b,B.O b→B'.O b) (ha:a'.tmps=a.tmps) (hdf:a'.defers=B.dfr)
  (hs:SameS w w') (hsz:w'.heap.size=w.heap.size) (hh : ∀ b,¬ (B'.O b∧B.w0.heap.size≤b)→w'.heap[b]? = w.heap[b]?) (hp : ∀ b o,B.pin b o→w'.heap[b]? = some o):Sim B ρ M F σ a' w':=by
 have hmine:=h.mine
 have same : ∀ b,¬ B'.O b→w'.heap[b]? = w.heap[b]? := fun b hb=>hh b fun hx=>hb hx.1
 have t:Turn σ σ M M F F (B'.X σ M) (B.X σ M) w w':=by
  refine ⟨fun id ob hi => .inr ⟨rfl,ob,hi,shape_refl h hi⟩,fun id h1 h2=>⟨h1,h2⟩,by rw [hsz];exact Nat.le_refl _,fun b hb _=>same b fun hx=>hb (.inl hx),fun b _ hb=>?_,fun id b c e h1 h2 hc=>⟨c,by rw [same b (hmine id b h1 h2).1];exact hc,rfl⟩⟩
  rcases hb with hb|hb
  ·exact .inl (hO b hb)
  ·exact .inr hb
 have hlook : ∀ t,B.look a' t=B'.look a t:=fun t=>by simp only [Base.look,hg,ha]
 refine ⟨fun x=>by rw [hlook];exact (h.env x).turn t,fun id ob hi=>(h.mem id ob hi).turn t rfl fun b hb=>same b (hmine id b (by simp [hi]) hb).1,h.inj,fun id b h1 h2=>?_,h.free,?_,⟨by rw [ha,h.nt.1,hnt],hdf⟩,fun b hb=>?_,hp,fun id l hl=>ht _ _ _ _⟩
 ·obtain ⟨g1,g2⟩:=hmine id b h1 h2
  exact ⟨fun hb=>g1 (hO b hb),by rw [← h0,← hR];exact g2⟩
 ·have k:=h.kept
  rw [h0,hR] at k
  refine ⟨hs.os.trans k.os,hs.tape.trans k.tape,hs.output.trans k.output,by rw [hsz];exact k.size,fun b hb hr=>?_,fun b c e hc=>?_⟩
  ·rw [hh b (fun hx=>by omega)];exact k.block b hb hr
  ·obtain ⟨c',h1,h2⟩:=k.cells b c e hc
   exact ⟨c',by rw [hh b (fun hx=>by have:=lt_of_block hc;omega)];exact h1,h2⟩
 ·rw [hsz];exact h.olt b (hO b hb)
end
end Go.Ab
namespace Go.Ab
open Go
set_option linter.unusedVariables false
def memI (obs:List Ob) (xs:Option (List (List D))):Nat→Option Ob:=memG (obs.map some++[some (.todo xs)])
def It (P:Program) (T:Nat→Obj→Prop) (f:Nat) (vs:List V) (obs:List Ob) (xs:List (List D)):Prop :=
 callable P f ∧ ∀ (B:Base) (σ:Nat→Option Nat) (a:Act) (w:World) (args:Array Value) (l:Nat),Has T B→RoundOk P B.w0 B.R B.pin B.inv l →
  Sim B (fun _ => .undef) (memI obs (some xs)) (fun i=>obs.length+1≤i) σ a w→args.size=vs.length →
  (∀ i,i < vs.length→VSim σ (memI obs (some xs)) (fun i=>obs.length+1≤i) (B.X σ (memI obs (some xs))) w (vs.getD i .undef) (args.getD i undef)) →
  ∀ cs,∃ v' w',CallsAt P cs f (#[.func (.yield l) #[] #[]]++args) w v' w' ∧ ∃ O' Z' l',(l'=some []∨l'=none)∧B.inv O' Z' l' w'
structure IterAs (P:Program) (T:Nat→Obj→Prop) (M:Nat→Option Ob) (g:Nat) (cs:List V) (xs:List (List D)) (u:Upd) (js fz:List Nat) (lvs:List V) (obs:List Ob):Prop where
 it:It P T g lvs obs xs
 args:VPasses M js fz 20 lvs cs
 objs:ObPasses M js fz obs js
 nd:nodup js=true
 dj:disj fz js=true
 u:u=dropU js++dropU fz
def IterC (P:Program) (T:Nat→Obj→Prop):IterRel:=fun M n g cs xs u => ∃ js fz lvs obs,IterAs P T M g cs xs u js fz lvs obs
theorem RoundOk.more {P:Program} {w0:World} {R R':Nat→Prop} {pin:Nat→Obj→Prop} {J:Inv} {l:Nat} (h:RoundOk P w0 R pin J l) (hR : ∀ b,R b→R' b):RoundOk P w0 R' pin J l:=by
 intro O Z x rest w args h1 h2 h3 h4 h5 h6 cs
 obtain ⟨b,w',k1,k2,k3,k4,k5,k6⟩:=h O Z x rest w args h1 h2 h3 h4 h5 h6 cs
 exact ⟨b,w',k1,k2,k3,k4,fun k hk hn=>k5 k hk fun h=>hn (hR k h),k6⟩
theorem memI_get {obs:List Ob} {xs:Option (List (List D))} {i:Nat} : memI obs xs i=if i=obs.length then some (.todo xs) else memG (obs.map some) i:=by
 unfold memI memG
 by_cases h:i=obs.length
 ·subst h;simp [List.getD]
 ·rw [if_neg h]
  by_cases hlt:i < obs.length
  ·simp [List.getD,List.getElem?_append_left (show i < (obs.map some).length by simpa using hlt)]
  ·simp [List.getD,List.getElem?_eq_none (show (obs.map some++[some (Ob.todo xs)]).length≤i by simp;omega),List.getElem?_eq_none (show obs.length≤i by omega)]
set_option maxHeartbeats 1000000 in
theorem iterC_sound {P:Program} {T:Nat→Obj→Prop} (B:Base) (hT:Has T B):IterSound P B (IterC P T):=by
 rintro ρ M F σ a w n g cs xs u caps h ⟨js,fz,lvs,obs,hc⟩ hsz hcaps
 obtain ⟨hcallable,hit⟩:=hc.it
 have hdj : ∀ i∈fz,i ∉ js:=disj_spec hc.dj
 obtain ⟨hlen,hobs⟩:=obPasses_get hc.objs
 obtain ⟨hal,hav⟩:=passes_get hc.args
 have hu : ∀ p∈u,p.2=none:=by
  intro p hp
  rw [hc.u] at hp
  obtain ⟨j,x⟩:=p
  rcases List.mem_append.1 hp with hp|hp
  ·exact ((dropU_mem js j x).1 hp).2
  ·exact ((dropU_mem fz j x).1 hp).2
 have hin : ∀ id,id∈u.map Prod.fst↔id∈js∨id∈fz:=by
  intro id
  rw [hc.u]
  simp only [List.map_append,List.mem_append,List.mem_map]
  constructor
  ·rintro (⟨⟨j,x⟩,hp,rfl⟩|⟨⟨j,x⟩,hp,rfl⟩)
   ·exact .inl ((dropU_mem js j x).1 hp).1
   ·exact .inr ((dropU_mem fz j x).1 hp).1
  ·rintro (hj|hj)
   ·exact .inl ⟨(id,none),(dropU_mem js id none).2 ⟨hj,rfl⟩,rfl⟩
   ·exact .inr ⟨(id,none),(dropU_mem fz id none).2 ⟨hj,rfl⟩,rfl⟩
 have hM1 : ∀ {id},updF u M id≠none→updF u M id=M id∧id ∉ js∧id ∉ fz:=by
  intro id h1
  by_cases hm:id∈u.map Prod.fst
  ·exact absurd (updF_mem' u M id hu hm) h1
  ·refine ⟨updF_at u M id hm,fun hj=>hm ((hin id).2 (.inl hj)),fun hj=>hm ((hin id).2 (.inr hj))⟩
 have hblk : ∀ {id b:Nat},M id≠none→σ id=some b→b < w.heap.size:=fun h1 h2=>by obtain ⟨o,ho⟩:=live_block h h1 h2;exact lt_of_block ho
 have hjM : ∀ {i j:Nat},js[i]? = some j→M j≠none:=by
  intro i j hj
  have hi:=(List.getElem?_eq_some_iff.1 hj).1
  obtain ⟨j',h1,h2⟩:=hobs i obs[i] (List.getElem?_eq_getElem (by omega))
  rw [hj] at h1;cases h1
  exact obPass_alive h2
 refine ⟨hcallable,hu,(calleeB h js fz).O,fun b => ∃ id,id∈js∧M id≠none∧σ id=some b,fun b ⟨id,h1,h2,h3⟩=>⟨⟨id,h2,h3⟩,fun ⟨id',h4,h5⟩=>?_⟩,fun b hb=>?_,fun b hb=>⟨hb.1,fun ⟨id,h1,h2,h3⟩=>?_⟩,?_⟩
 ·obtain ⟨e,h6,-⟩:=hM1 h4
  rw [e] at h4
  have:=h.inj id id' b h2 h4 h3 h5
  subst this;exact h6 h1
 ·rcases hb with ⟨id,h1,h2⟩|hb
  ·obtain ⟨e,h3,h4⟩:=hM1 h1
   rw [e] at h1
   exact ⟨hblk h1 h2,.inr ⟨id,h1,h2,h3,h4⟩⟩
  ·exact ⟨h.olt b hb,.inl hb⟩
 ·rcases hb.2 with hb|⟨id',h4,h5,h6,h7⟩
  ·exact (h.mine id b h2 h3).1 hb
  ·have:=h.inj id id' b h2 h4 h3 h5
   subst this;exact h6 h1
 ·intro w1 l J hJ hss hsz1 hold hJ0 hround cs'
  have hcs:=callee_sim h hc.objs hdj hc.nd
  let Bi:Base :=
   {w0:=w1,O:=fun b=>(calleeB h js fz).O b∨(w.heap.size≤b∧b < w1.heap.size),R:=fun b=>((calleeB h js fz).O b∨(w.heap.size≤b∧b < w1.heap.size)) ∨ ∃ id,id∈js∧M id≠none∧σ id=some b,
    nt:=B.nt,pin:=B.pin,pinO:=fun b o hp => .inl ((calleeB h js fz).pinO b o hp),ghost:=fun _=>undef,small:=B.small,dfr:=B.dfr,inv:=J,stab:=hJ.stab,mono:=hJ.mono }
  have hX : ∀ b,b < w.heap.size→Bi.X (calleeσ js σ) (memI obs (some xs)) b→(calleeB h js fz).X (calleeσ js σ) (memG (obs.map some)) b:=by
   rintro b hlt ((hb|hb)|⟨id,h1,h2⟩)
   ·exact .inl hb
   ·omega
   ·refine .inr ⟨id,?_,h2⟩
    rw [memI_get] at h1
    split at h1
    ·rename_i e
     subst e
     simp [calleeσ,List.getElem?_eq_none (show js.length≤obs.length by omega)] at h2
    ·exact h1
  have hnl:calleeσ js σ obs.length=none:=by simp [calleeσ,List.getElem?_eq_none (show js.length≤obs.length by omega)]
  have tn:Turn (calleeσ js σ) (calleeσ js σ) (memG (obs.map some)) (memI obs (some xs)) (fun i=>obs.length≤i) (fun i=>obs.length+1≤i) ((calleeB h js fz).X (calleeσ js σ) (memG (obs.map some))) (Bi.X (calleeσ js σ) (memI obs (some xs))) w w1:=by
   refine ⟨fun id ob hi => .inr ⟨rfl,ob,?_,Shape.refl ob⟩,fun id h1 h2=>?_,hsz1,fun b _ hlt=>hold b hlt,hX,fun id b c e _ _ hcb=>⟨c,by rw [hold b (lt_of_block hcb)];exact hcb,rfl⟩⟩
   ·rw [memI_get,if_neg]
    ·exact hi
    ·intro e;subst e;simp [memG,List.getD] at hi
   ·simp only [Nat.not_le] at h2
    refine ⟨?_,by simp only [Nat.not_le];omega⟩
    rw [memI_get,if_neg (by omega)];exact h1
  have hownZ:own (calleeσ js σ) (memI obs (some xs))=fun b => ∃ id,id∈js∧M id≠none∧σ id=some b:=by
   funext b
   apply propext
   constructor
   ·rintro ⟨i,h1,h2⟩
    unfold calleeσ at h2
    obtain ⟨j,h3,h4⟩:=Option.bind_eq_some_iff.1 h2
    exact ⟨j,List.mem_of_getElem? h3,hjM h3,h4⟩
   ·rintro ⟨j,h1,h2,h3⟩
    obtain ⟨i,hi,he⟩:=List.getElem_of_mem h1
    refine ⟨i,?_,by simp [calleeσ,List.getElem?_eq_getElem hi,he,h3]⟩
    rw [memI_get,if_neg (by omega)]
    simp [memG,List.getD,show i < obs.length by omega]
  have hsim:Sim Bi (fun _ => .undef) (memI obs (some xs)) (fun i=>obs.length+1≤i) (calleeσ js σ) a w1:=by
   refine ⟨fun t => .undef _,fun id ob hi=>?_,fun i j b h1 h2 h3 h4=>?_,fun id b h1 h2=>?_,fun i hi=>?_,⟨rfl,rfl,rfl,Nat.le_refl _,fun _ _ _=>rfl,fun b c e hcb=>⟨c,hcb,rfl⟩⟩,hcs.nt,fun b hb=>?_,fun b o hp=>?_,fun id l hl=>?_⟩
   ·rw [memI_get] at hi
    split at hi
    ·rename_i e;cases hi;rw [e];exact .todo _ hnl
    ·exact (hcs.mem id ob hi).turn tn rfl fun b hb=>hold b (by obtain ⟨o,ho⟩:=live_block hcs (show memG (obs.map some) id≠none by rw [hi];simp) hb;exact lt_of_block ho)
   ·have g : ∀ {i b},memI obs (some xs) i≠none→calleeσ js σ i=some b→memG (obs.map some) i≠none:=by
     intro i b h1 h2
     rw [memI_get] at h1
     split at h1
     ·rename_i e;rw [e,hnl] at h2;cases h2
     ·exact h1
    exact hcs.inj i j b (g h1 h3) (g h2 h4) h3 h4
   ·have hZ:(own (calleeσ js σ) (memI obs (some xs))) b:=⟨id,h1,h2⟩
    rw [hownZ] at hZ
    obtain ⟨j,g1,g2,g3⟩:=hZ
    refine ⟨fun hb=>?_,.inl (.inr ⟨j,g1,g2,g3⟩)⟩
    have:=hblk g2 g3
    rcases hb with hb|hb
    ·rcases hb.2 with hb|⟨id',h4,h5,h6,h7⟩
     ·exact (h.mine j b g2 g3).1 hb
     ·have:=h.inj j id' b g2 h4 g3 h5
      subst this;exact h6 g1
    ·omega
   ·rw [memI_get,if_neg (by omega)]
    simp [memG,List.getD,List.getElem?_eq_none (show obs.length≤i by omega)]
   ·rcases hb with hb|hb
    ·have:=hb.1;omega
    ·exact hb.2
   ·have:=h.pins b o hp
    rw [hold b (lt_of_block this)];exact this
   ·rw [memI_get] at hl
    split at hl
    ·cases hl;rw [hownZ];exact hJ0
    ·rename_i hne
     cases hcs.mem id _ hl with
     | todo =>
      exfalso
      obtain ⟨j,hj,hp⟩:=hobs id _ (memG_some hl)
      cases hm:M j with
      | none=>rw [hm] at hp;exact hp
      | some ob=>rw [hm] at hp;cases ob<;>simp [ObPass] at hp
  exact hit Bi (calleeσ js σ) a w1 caps l hT (hround.more fun b hb => .inl hb) hsim (by omega) (fun i hi=>by
   obtain ⟨k',-,hp⟩:=hav i hi
   exact (pass_val h hc.objs hdj k' _ _ _ hp (hcaps i (by omega))).turn tn) cs'
end Go.Ab
namespace Go.Ab
open Go
set_option linter.unusedVariables false
theorem go_end {P:Program} {b:FB} {a:Act} {cs:List Frame} {w:World} (hb:b.rnd=none):step P (lone (b.at a []) cs w) = .next (lone { b.at a [] with mode := .returning } cs w) :=
 step_lone_go (by simp [stepG,stepG.exec,FB.at,hb])
theorem go_ret {P:Program} {b:FB} {a:Act} {k:List Item} {cs:List Frame} {w:World} (hb:b.rnd=none):step P (lone (b.at a (.code .ret::k)) cs w) = .next (lone { b.at a (.code .ret::k) with mode := .returning } cs w) :=
 step_lone_go (by simp [stepG,stepG.exec,FB.at,hb])
def ghostVal (obs:List Ob) (σ:Nat→Option Nat) (t:Nat):Value :=
 match obs[t]?,σ t with
 | some (.row _ xs),some b => .slice (some ⟨b,0,none⟩) xs.length xs.length
 | some (.row _ _),none => .slice none 0 0
 | some (.box _),some b => .pointer (some ⟨b,0,none⟩)
 | some (.map _),some b => .map (some b)
 | _,_=>undef
theorem compFn_inv {P:Program} {f:Nat} {c:CFn} (h:compFn P f=some c) :
  ∃ fn body,P.funcs[f]? = some fn∧fn.body=some body∧(fn.name == "runtime.NumGoroutine")=false∧fn.ntmps=c.ntmps∧c.ntmps≤ghostAt∧comp P c.ntmps body=some c.body∧fn.results.toList.mapM (compRes P)=some c.res:=by
 unfold compFn at h
 split at h
 ·rename_i fn hfn
  split at h
  ·rename_i b res hb hres
   split at h
   ·rename_i cc hcc
    cases hcond:(fn.name != "runtime.NumGoroutine" && Nat.ble fn.ntmps ghostAt) with
    | false=>rw [hcond] at h;cases h
    | true =>
     rw [hcond] at h
     cases h
     rw [Bool.and_eq_true] at hcond
     exact ⟨fn,b,hfn,hb,by simpa [bne] using hcond.1,rfl,Nat.le_of_ble_eq_true hcond.2,hcc,hres⟩
   ·cases h
  ·cases h
 ·cases h
section
variable {P:Program} {T:Nat→Obj→Prop}
def bodyB (B:Base) (nt:Nat) (hnt:nt≤ghostAt) (obs:List Ob) (σ:Nat→Option Nat):Base := { B with nt:=nt,ghost:=ghostVal obs σ,small:=hnt,dfr:=[] }
theorem start_sim {B:Base} {σ:Nat→Option Nat} {a:Act} {w:World} {nt:Nat} (hsm:nt≤ghostAt) {vs:List V} {obs:List Ob} {args:Array Value} (hlen:vs.length≤nt)
  (hsim:Sim B (fun _ => .undef) (memG (obs.map some)) (fun i=>obs.length≤i) σ a w) (hsz:args.size=vs.length)
  (hargs : ∀ i,i < vs.length→VSim σ (memG (obs.map some)) (fun i=>obs.length≤i) (B.X σ (memG (obs.map some))) w (vs.getD i .undef) (args.getD i undef)) :
  Sim (bodyB B nt hsm obs σ) (bindEnv 0 vs++ghostEnv ghostAt 0 obs).get (memS 0 obs).get (fun i=>obs.length≤i) σ { tmps:=args++Array.replicate (nt - args.size) undef,defers:=[] } w:=by
 have hget:(memS 0 obs).get=memG (obs.map some):=by rw [memS_memO,memO_memG]
 rw [hget]
 refine ⟨fun t=>?_,hsim.mem,hsim.inj,hsim.mine,hsim.free,hsim.kept,⟨by simp [bodyB];omega,rfl⟩,hsim.olt,hsim.pins,hsim.todo⟩
 rw [env_append]
 by_cases ht:t < vs.length
 ·have hlt:t < ghostAt:=by omega
  rw [if_pos]
  ·rw [bindEnv_get,if_pos (by omega)]
   simp only [Base.look,if_pos hlt]
   have:=hargs t ht
   rw [Nat.sub_zero]
   rwa [show (args++Array.replicate (nt - args.size) undef).getD t undef=args.getD t undef by
    simp only [Array.getD_eq_getD_getElem?]
    rw [Array.getElem?_append_left (by omega)]]
  ·have : ∀ (vs:List V) (i t:Nat),i≤t→t < i+vs.length → ∃ p∈bindEnv i vs,p.1=t:=by
    intro vs
    induction vs with
    | nil=>intro i t h1 h2;simp at h2;omega
    | cons v r ih =>
     intro i t h1 h2
     by_cases e:i=t
     ·exact ⟨(i,v),by simp [bindEnv],e⟩
     ·obtain ⟨p,h3,h4⟩:=ih (i+1) t (by omega) (by simp at h2;omega)
      exact ⟨p,by simp [bindEnv,h3],h4⟩
   exact this vs 0 t (Nat.zero_le _) (by omega)
 ·rw [if_neg]
  ·rw [ghostEnv_get]
   by_cases hg:ghostAt+0≤t∧t < ghostAt+0+obs.length
   ·rw [if_pos hg]
    have hng : ¬ t < ghostAt:=by omega
    simp only [Base.look,if_neg hng,bodyB,Nat.sub_zero]
    have hi:t - ghostAt < obs.length:=by omega
    rw [List.getElem?_eq_getElem hi]
    simp only
    have hob:=some_memG (List.getElem?_eq_getElem hi)
    have hs:=hsim.mem _ _ hob
    simp only [ghostVal,List.getElem?_eq_getElem hi]
    generalize obs[t - ghostAt]=ob at hob hs
    cases hs with
    | nilrow s h1=>rw [h1];exact .ownNil _ s hob h1
    | row s xs b c e h1 h2 h3 h4 h5 h6=>rw [h1];exact .own _ s xs b xs.length c e hob h1 h2 (Nat.le_refl _) h3
    | box cs b c e h1 h2 h3 h4 h5=>rw [h1];exact .ptr _ 0 cs b hob h1
    | map es b ents clock h1=>rw [h1];exact .map _ es b hob h1
    | iterNil=>exact .undef _
    | iter=>exact .undef _
    | todo=>exact .undef _
   ·rw [if_neg hg];exact .undef _
  ·rintro ⟨p,h1,h2⟩
   have : ∀ (vs:List V) (i:Nat) (p:Nat×V),p∈bindEnv i vs→p.1 < i+vs.length:=by
    intro vs
    induction vs with
    | nil=>intro i p h;simp [bindEnv] at h
    | cons v r ih =>
     intro i p h
     simp only [bindEnv,List.mem_cons] at h
     rcases h with rfl|h
     ·simp
     ·have:=ih (i+1) p h;simp;omega
   have:=this vs 0 p h1
   omega
set_option maxHeartbeats 1000000 in
theorem fn_intro (hm:P.follows .mixedOrders=true) {f:Nat} {c:CFn} (hc:compFn P f=some c) {vs:List V} {obs:List Ob} {v:V} {obs':List (Option Ob)} (hlen:vs.length≤c.ntmps)
  (Q:Post) (hQ : ∀ e env mem n,Q e env mem n→fnPost c obs v obs' e env mem n) (h:wpc (CallC P T) (IterC P T) noY false c.body Q (bindEnv 0 vs++ghostEnv ghostAt 0 obs) (memS 0 obs) obs.length):Fn P T f vs obs v obs':=by
 obtain ⟨fn,body,hfn,hbody,hname,hnt,hsm,hcomp,hres⟩:=compFn_inv hc
 refine ⟨⟨fn,hfn,hname,by rw [hbody];rfl⟩,fun B σ a w args hT htr hsim hsz hargs cs=>?_⟩
 have hstart:=start_sim (nt:=c.ntmps) hsm hlen hsim hsz hargs
 obtain ⟨B',hB'⟩ : ∃ B',B'=bodyB B c.ntmps hsm obs σ:=⟨_,rfl⟩
 obtain ⟨a',ha'⟩ : ∃ a':Act,a' = { tmps:=args++Array.replicate (c.ntmps - args.size) undef,defers:=[] } := ⟨_,rfl⟩
 rw [← hB',← ha'] at hstart
 have hB'O:B'.O=B.O:=by rw [hB'];rfl
 have htr':TrivInv B':=fun O Z l w=>by rw [hB'];exact htr O Z l w
 have hT':Has T B':=fun b o ht=>by rw [hB'];exact hT b o ht
 have hcomp':comp P B'.nt body=some c.body:=by rw [hB'];exact hcomp
 have hwp:=wpc_sound hm callC_sound (callC_agree P T) (fun B hT _=>iterC_sound B hT) body ⟨f,.normal,none⟩ c.body noY false B' hT' (fun hn=>by cases hn) (fun _=>⟨rfl,htr',rfl⟩) hcomp' _ _ _ _ σ a' w h hstart
 have fin : ∀ (e:Ex) (a2:Act) (w2:World),AbPostN false B' Q e a2 w2→(∀ id,e ≠ .exit id) ∧ ∃ Ds:List Nat,a2.defers=Ds.map collects∧Ds.Nodup∧(∀ D∈Ds,w2.heap[D]? = some (.deferred (some []))) ∧
   ∀ w3,SameS w2 w3→w3.heap.size=w2.heap.size→(∀ b,b ∉ Ds→w3.heap[b]? = w2.heap[b]?) → ∃ v' σ',(results fn a2.tmps).run P w3 = .ok v' w3 ∧
   Sim B (fun _ => .undef) (memG obs') (fun i=>obs'.length≤i) σ' a w3∧VSim σ' (memG obs') (fun i=>obs'.length≤i) (B.X σ' (memG obs')) w3 v v' ∧
   ∀ i ob,obs[i]? = some ob→memG obs' i=none∨(σ' i=σ i ∧ ∃ ob',memG obs' i=some ob'∧Shape ob ob'):=by
  rintro e a20 w20 ⟨B2,env2,mem2,n2,σ2,⟨hext,-⟩,hq,hs20⟩
  obtain ⟨he,x,r,nl,hx,hf⟩:=hQ _ _ _ _ hq
  obtain ⟨Ds,hds,hdn,hdp⟩:=hext.dfr
  refine ⟨fun id hid=>by subst hid;exact he,Ds,?_,hdn,fun D hD=>hs20.pins _ _ (hdp D hD).1,fun w2 hss hsz' hsame=>?_⟩
  ·rw [hs20.nt.2,hds,hB'];simp [bodyB]
  obtain ⟨a2,ha2⟩ : ∃ a2:Act,a2 = { a20 with defers:=[] } := ⟨_,rfl⟩
  have hat:a20.tmps=a2.tmps:=by rw [ha2]
  rw [hat]
  have hs2:Sim B' env2.get mem2.get (fun i=>n2≤i) σ2 a2 w2:=by
   refine hs20.less htr' (a':=a2) hext.w0 hext.R hext.nt hext.ghost hext.O hat.symm (by rw [ha2,hB'];rfl) hss hsz' (fun b hb=>hsame b fun hD=>hb ⟨B2.pinO _ _ (hdp b hD).1,(hdp b hD).2.1⟩) fun b o hp=>?_
   rw [hsame b (fun hD=>(hdp b hD).2.2 (B'.pinO b o hp))]
   exact hs20.pins b o (hext.pin b o hp)
  obtain ⟨hr1,hr2⟩:=mapM_some hres
  have hxr : ∃ v',(results fn a2.tmps).run P w2 = .ok v' w2∧VSim σ2 mem2.get (fun i=>n2≤i) (B'.X σ2 mem2.get) w2 x v':=by
   unfold resV at hx
   have key : ∀ l,resOfs env2.get mem2.get c.res=some l → ∃ us:List Value,(results fn a2.tmps).run P w2 = .ok (if h:us.length=1 then us[0] else .tuple us.toArray) w2∧us.length=l.length ∧
     ∀ i,i < l.length→VSim σ2 mem2.get (fun i=>n2≤i) (B'.X σ2 mem2.get) w2 (l.getD i .undef) (us.getD i undef):=by
    intro l hl
    obtain ⟨us,g1,g2,g3⟩:=resOfs_sim hs2 fn.results.toList c.res l hr1.symm (fun i h1 h2=>hr2 i h1 h2) hl
    refine ⟨us,?_,g2,g3⟩
    have g1':(fn.results.mapM (m:=Sem) (resGet a2.tmps)).run P w2 = .ok us.toArray w2:=by
     rw [Array.mapM_eq_mapM_toList,Sem.run_map,g1];rfl
    rw [results_eq,Sem.run_bind,g1']
    simp only [Result.andThen_ok,Sem.run_pure]
    congr 1
   split at hx
   ·rename_i v0 hl
    cases hx
    obtain ⟨us,g1,g2,g3⟩:=key _ hl
    refine ⟨_,g1,?_⟩
    rw [dif_pos (by simpa using g2)]
    have:=g3 0 (by simp)
    simpa [List.getD,show 0 < us.length by simp at g2;omega] using this
   ·rename_i l hne hl
    cases hx
    obtain ⟨us,g1,g2,g3⟩:=key _ hl
    refine ⟨_,g1,?_⟩
    rw [dif_neg (by
     intro h1
     rw [g2] at h1
     obtain ⟨y,rfl⟩:=List.length_eq_one_iff.1 h1
     exact hne y rfl)]
    exact .tup l us.toArray (by simp [g2]) (fun i hi=>by simpa [Array.getD,List.getD,show i < us.length by omega] using g3 i hi)
   ·cases hx
  obtain ⟨v',hres',hvx⟩:=hxr
  have hs3:Sim B' (Env.get []) mem2.get (fun i=>n2≤i) σ2 a2 w2 := { hs2 with env:=fun t => .undef _ }
  have hmem':(memO 0 obs').get=memG obs':=memO_memG obs'
  have hs4:=le_sim hf.le hs3
  rw [hmem'] at hs4
  have hs5:Sim B (fun _ => .undef) (memG obs') (fun i=>obs'.length≤i) (reσ r σ2) a w2:=by
   subst hB'
   exact ⟨fun t => .undef _,hs4.mem,hs4.inj,hs4.mine,hs4.free,hs4.kept,hsim.nt,hs4.olt,hs4.pins,fun id l hl=>htr _ _ _ _⟩
  have hXB : ∀ σ M,B'.X σ M=B.X σ M:=fun σ M=>by rw [hB'];rfl
  refine ⟨v',reσ r σ2,hres',hs5,?_,fun i ob hob=>?_⟩
  ·rw [← hXB]
   have one : ∀ (v x:V) (v':Value),VLe r nl 30 v x∨Frozen mem2 r v x→VSim σ2 mem2.get (fun i=>n2≤i) (B'.X σ2 mem2.get) w2 x v'→VSim (reσ r σ2) (memG obs') (fun i=>obs'.length≤i) (B'.X (reσ r σ2) (memG obs')) w2 v v':=by
    intro v x v' hv hvx
    rcases hv with hv|⟨y,rfl,hfr,hdis⟩
    ·have:=le_val hf.le 30 v x v' hv hvx
     rw [hmem'] at this
     exact this
    ·refine .d y v' ?_
     have hd:=(freeze_sim (M':=fun id=>if id∈V.reach mem2.get 20 x then none else mem2.get id) hs3 (fun j hj=>by
      split at hj
      ·exact absurd rfl hj
      ·exact hj) true 20).1 x y v' hfr hvx (fun id hid=>by
       simp only [touched,cond_true] at hid
       simp [hid])
     refine hd.mono (fun _ _ _=>rfl) (fun b hlt hb=>?_)
     rcases hb with hb|⟨id,h1,h2⟩
     ·exact .inl hb
     ·obtain ⟨ob,hob⟩:=Option.ne_none_iff_exists'.1 h1
      rw [← hmem'] at hob
      have hg:=(memLe_get hf.le.m hob).2
      unfold reσ at h2
      cases hj:ixOf r id with
      | none=>rw [hj] at h2;cases h2
      | some j =>
       rw [hj] at h2
       simp only [hj] at hg
       obtain ⟨ob',h3,-⟩:=hg
       refine .inr ⟨j,?_,h2⟩
       simp only
       rw [if_neg (fun hm=>disj_spec hdis j hm (List.mem_map.2 ⟨(id,j),ixOf_mem hj,rfl⟩)),h3]
       simp
   rcases hf.v with hv|hv|⟨vs2,xs2,rfl,rfl,hl,hi⟩
   ·exact one _ _ _ (.inl hv) hvx
   ·exact one _ _ _ (.inr hv) hvx
   ·cases hvx with
    | tup _ us hsz2 hus=>exact .tup vs2 us (by rw [hl];exact hsz2) fun i h=>one _ _ _ (hi i h) (hus i (by rw [← hl];exact h))
  ·
   have hgl : ∀ (obs:List Ob) (k:Nat),GhostLe r nl env2 obs' k obs → ∀ (i:Nat) (ob:Ob),obs[i]? = some ob→(match obs'.getD (k+i) none with
     | none=>True
     | some (.row s _)=>(match ob with | .row s' _=>s'=s|_=>False)∧VLe r nl 30 (.own (k+i)) (env2.get (ghostAt+(k+i)))
     | some (.box _)=>(match ob with | .box _=>True|_=>False)∧VLe r nl 30 (.ptr (k+i) 0) (env2.get (ghostAt+(k+i)))
     | some (.map _)=>(match ob with | .map _=>True|_=>False)∧VLe r nl 30 (.map (k+i)) (env2.get (ghostAt+(k+i)))
     | some _=>False):=by
    intro obs
    induction obs with
    | nil=>intro k _ i ob h;simp at h
    | cons o rest ih =>
     intro k hg i ob hi
     cases i with
     | zero=>cases hi;exact hg.1
     | succ i =>
      have:=ih (k+1) hg.2 i ob (by simpa using hi)
      rwa [show k+1+i=k+(i+1) by omega] at this
   have hgi:=hgl obs 0 hf.gh i ob hob
   rw [Nat.zero_add] at hgi
   have hi:=(List.getElem?_eq_some_iff.1 hob).1
   have hlook:B'.look a2 (ghostAt+i)=ghostVal obs σ i:=by
    simp only [Base.look,hB',bodyB]
    rw [if_neg (by omega),Nat.add_sub_cancel_left]
   have henv:=hs2.env (ghostAt+i)
   rw [hlook] at henv
   have hini:=hsim.mem i ob (some_memG hob)
   cases hm':memG obs' i with
   | none=>exact .inl rfl
   | some ob' =>
    right
    have hm'':obs'.getD i none=some ob':=hm'
    rw [hm''] at hgi
    cases ob' with
    | iter=>exact hgi.elim
    | todo=>exact hgi.elim
    | map ys =>
     obtain ⟨hk,hv⟩:=hgi
     have hvs:=le_val hf.le 30 _ _ _ hv henv
     rw [hmem'] at hvs
     cases hini with
     | map es b ents clock h1 h2 =>
      simp only [ghostVal,hob,h1] at hvs
      cases hvs with
      | mapDead _ _ g1=>rw [g1] at hm';cases hm'
      | map _ zs _ g1 g2=>rw [g1] at hm';cases hm';exact ⟨by rw [g2,h1],_,rfl,.map _ _⟩
     | _=>exact hk.elim
    | row s ys =>
     obtain ⟨hk,hv⟩:=hgi
     have hvs:=le_val hf.le 30 _ _ _ hv henv
     rw [hmem'] at hvs
     cases hini with
     | box=>exact hk.elim
     | map=>exact hk.elim
     | iterNil=>exact hk.elim
     | iter=>exact hk.elim
     | todo=>exact hk.elim
     | nilrow s' h1 =>
      simp only at hk;subst hk
      simp only [ghostVal,hob,h1] at hvs
      cases hvs with
      | ownDead _ _ _ _ g1=>rw [g1] at hm';cases hm'
      | ownNil _ _ g1 g2=>rw [g1] at hm';cases hm';exact ⟨by rw [g2,h1],_,rfl,.row _ _ _ rfl⟩
     | row s' xs b c e h1 h2 =>
      simp only at hk;subst hk
      simp only [ghostVal,hob,h1] at hvs
      generalize hL:xs.length=len at hvs
      cases hvs with
      | ownDead _ _ _ _ g1=>rw [g1] at hm';cases hm'
      | own _ _ zs _ _ c e g1 g2=>rw [g1] at hm';cases hm';exact ⟨by rw [g2,h1],_,rfl,.row _ _ _ hL⟩
    | box ys =>
     obtain ⟨hk,hv⟩:=hgi
     have hvs:=le_val hf.le 30 _ _ _ hv henv
     rw [hmem'] at hvs
     cases hini with
     | nilrow=>exact hk.elim
     | row=>exact hk.elim
     | map=>exact hk.elim
     | iterNil=>exact hk.elim
     | iter=>exact hk.elim
     | todo=>exact hk.elim
     | box cs b c e h1 h2 =>
      simp only [ghostVal,hob,h1] at hvs
      cases hvs with
      | ptrDead _ _ _ g1=>rw [g1] at hm';cases hm'
      | ptr _ _ zs _ g1 g2=>rw [g1] at hm';cases hm';exact ⟨by rw [g2,h1],_,rfl,.box _ _⟩
 have henter:Frame.enter P f args .normal=(⟨f,.normal,none⟩:FB).at a' [.code body]:=by
  simp [Frame.enter,FB.at,hfn,hbody,ha',hnt]
 obtain ⟨e,a2,w2,hpost,harr⟩:=hwp [] cs
 obtain ⟨hne,Ds,hds,hdn,hdp,hfin⟩:=fin e a2 w2 hpost
 rw [← henter] at harr
 cases e with
 | normal =>
  obtain ⟨w3,u1,u2,u3,u4⟩:=unwind_steps (P:=P) Ds { (⟨f,.normal,none⟩:FB).at a2 [] with mode := .returning } cs w2 rfl hds hdn hdp
  obtain ⟨v',σ',hres',hs',hv',hold⟩:=hfin w3 u2 u3 u4
  exact ⟨v',w3,σ',⟨_,(Steps.trans harr (.one (go_end rfl))).trans u1,rfl,rfl,rfl,rfl,fn,hfn,hres'⟩,hs',hv',hold⟩
 | ret =>
  obtain ⟨k2,hs⟩:=harr
  obtain ⟨w3,u1,u2,u3,u4⟩:=unwind_steps (P:=P) Ds { (⟨f,.normal,none⟩:FB).at a2 (.code .ret::k2) with mode := .returning } cs w2 rfl hds hdn hdp
  obtain ⟨v',σ',hres',hs',hv',hold⟩:=hfin w3 u2 u3 u4
  exact ⟨v',w3,σ',⟨_,(hs.trans (.one (go_ret rfl))).trans u1,rfl,rfl,rfl,rfl,fn,hfn,hres'⟩,hs',hv',hold⟩
 | exit id=>exact absurd rfl (hne id)
def dataPost (c:CFn) (y:D):Post:=fun e env mem n =>
 match e with
 | .exit _=>False
 | _=>(match resV c.res env.get mem.get with
  | some x=>x.freeze mem.get true 20
  | none=>none)=some y
theorem fn_data (hm:P.follows .mixedOrders=true) {f:Nat} {c:CFn} (hc:compFn P f=some c) {vs:List V} {y:D} (hlen:vs.length≤c.ntmps)
  (h:wpc (CallC P T) (IterC P T) noY false c.body (dataPost c y) (bindEnv 0 vs) [] 0):Fn P T f vs [] (.d y) []:=by
 refine fn_intro hm hc hlen (dataPost c y) (fun e env mem n hq=>?_) (by simpa [ghostEnv,memS] using h)
 unfold dataPost at hq
 have key:(match resV c.res env.get mem.get with
  | some x=>x.freeze mem.get true 20
  | none=>none)=some y → ∃ x r nl,resV c.res env.get mem.get=some x∧FinAs [] env mem n x (.d y) [] r nl:=by
  intro hq
  split at hq
  ·rename_i x hx
   exact ⟨x,[],[],hx,.inr (.inl ⟨y,rfl,hq,by simp [disj]⟩),⟨rfl,rfl,rfl,trivial,trivial⟩,trivial⟩
  ·cases hq
 cases e with
 | exit id=>exact hq.elim
 | normal=>exact ⟨trivial,key hq⟩
 | ret=>exact ⟨trivial,key hq⟩
theorem AtCall.data {M:Nat→Option Ob} {n f:Nat} {vs lvs:List V} {y:D} {K:V→Upd→Nat→Prop} (hf:Fn P T f lvs [] (.d y) []) (ha:VPasses M [] (valReach M vs) 20 lvs vs)
  (hy:y.flat 19=true) (hK:K (.d y) [] 0):AtCall (CallC P T) M n f vs K :=
 ⟨.d y,[],0,⟨[],valReach M vs,true,lvs,[],.d y,[],hf,ha,rfl,rfl,by simp [disj],by simp [subl],by simp [subl],by simp,fun _=>⟨hy,trivial⟩,rfl,rfl,rfl⟩,hK⟩
end
end Go.Ab
namespace Go.Ab
open Go
set_option linter.unusedVariables false
def onlyTodo (L:Nat):Mem→Bool
 | []=>true
 | (i,some (.todo _))::r=>Nat.beq i L&&onlyTodo L r
 | _::r=>onlyTodo L r
def yieldIt (L l0:Nat):YRel:=fun l vs mem n K=>l=l0 ∧ ∃ x rest,mem.get L=some (.todo (some (x::rest)))∧freezes mem.get true 20 vs=some x∧(reachs mem.get 20 vs).contains L=false∧onlyTodo L mem=true ∧
 K true ((L,some (.todo (some rest)))::updMem (dropU (reachs mem.get 20 vs)) mem) n∧K false ((L,some (.todo none))::updMem (dropU (reachs mem.get 20 vs)) mem) n
def itPost (L:Nat):Post:=fun e env mem n=>match e with
 | .exit _=>False
 | _=>mem.get L=some (.todo (some []))∨mem.get L=some (.todo none)
section
variable {P:Program} {T:Nat→Obj→Prop}
end
end Go.Ab
namespace Go.Ab
open Go Go.Proofs
set_option linter.unusedVariables false
section
variable {P:Program} {T:Nat→Obj→Prop}
theorem fn_of_calls {f:Nat} (hf:callable P f) {vs:List V} {obs:List Ob} {v:V} {obs':List (Option Ob)}
  (h : ∀ (B:Base) (σ:Nat→Option Nat) (a:Act) (w:World) (args:Array Value),Has T B →
   Sim B (fun _ => .undef) (memG (obs.map some)) (fun i=>obs.length≤i) σ a w→args.size=vs.length →
   (∀ i,i < vs.length→VSim σ (memG (obs.map some)) (fun i=>obs.length≤i) (B.X σ (memG (obs.map some))) w (vs.getD i .undef) (args.getD i undef)) →
   Calls P f args w fun e w' => ∃ v' σ',e = .returned v'∧Sim B (fun _ => .undef) (memG obs') (fun i=>obs'.length≤i) σ' a w'∧VSim σ' (memG obs') (fun i=>obs'.length≤i) (B.X σ' (memG obs')) w' v v' ∧
    ∀ i ob,obs[i]? = some ob→memG obs' i=none∨(σ' i=σ i ∧ ∃ ob',memG obs' i=some ob'∧Shape ob ob')):Fn P T f vs obs v obs':=by
 refine ⟨hf,fun B σ a w args hT htr hs hsz hargs cs=>?_⟩
 obtain ⟨e,w',fr,⟨v',σ',rfl,h1,h2,h3⟩,hc,hfn,hl⟩:=h B σ a w args hT hs hsz hargs cs
 exact ⟨v',w',σ',⟨fr,hc,hfn,hl⟩,h1,h2,h3⟩
theorem fn_pure {f:Nat} (hf:callable P f) {ds:List D} {y:D}
  (h : ∀ (w:World) (args:Array Value),(∀ b o,T b o→w.heap[b]? = some o)→args.size=ds.length→(∀ i,i < ds.length → ∃ X,DSim X w (ds.getD i .nil) (args.getD i undef)) →
   Calls P f args w fun e w' => ∃ v',e = .returned v'∧w'=w ∧ ∀ X,DSim X w y v'):Fn P T f (ds.map .d) [] (.d y) []:=by
 refine fn_of_calls hf fun B σ a w args hT hs hsz hargs=>?_
 refine (h w args (fun b o ht=>hs.pins b o (hT b o ht)) (by simpa using hsz) (fun i hi=>?_)).mono fun e w' he=>?_
 ·have:=hargs i (by simpa using hi)
  rw [show (ds.map V.d).getD i .undef = .d (ds.getD i .nil) by simp [List.getD,hi]] at this
  cases this with
  | d _ _ hd=>exact ⟨_,hd⟩
 ·obtain ⟨v',rfl,rfl,hy⟩:=he
  exact ⟨v',σ,rfl,hs,.d _ _ (hy _),fun i ob hi=>by simp at hi⟩
end
end Go.Ab
namespace Go.Ab
open Go
set_option linter.unusedVariables false
structure TestS (b:Bool) (p q:Prop):Prop where
 t:b=true→p
 f:b=false→q
structure NeedS (p q:Prop):Prop where
 p:p
 q:q
structure GivenS (p q:Prop):Prop where
 h:p→q
inductive AltS (p a b:Prop):Prop where
 | fit (h:p) (k:a)
 | no (k:b)
inductive ElemS (xs:List D) (i:Int) (K:D→Prop):Prop where
 | mk (x:D) (h:0≤i∧xs[i.toNat]? = some x) (k:K x)
inductive FindS (es:List (D×D)) (k:D) (K:Option D→Prop):Prop where
 | mk (r:Option D) (h:findD es k=some r) (k:K r)
structure CallS (C:CallRel) (M:Nat→Option Ob) (n f:Nat) (vs:List V) (K:V→Upd→Nat→Prop):Prop where
 h:AtCall C M n f vs K
structure OrdS (b:Bool) (q:Prop):Prop where
 o:b=true
 q:q
structure NextS (left:List (D×D)) (K:Option (Nat×D×D)→Prop):Prop where
 nil:left=[]→K none
 cons : ∀ i k v,left[i]? = some (k,v)→K (some (i,k,v))
structure AnyS (p:Prop) (K:Bool→Prop):Prop where
 h : ∀ b:Bool,(b=true→p)→K b
structure SeqS (k:Nat) (X:Post→Prop) (Z:Env→Mem→Nat→Prop) (Q:Post):Prop where
 h:seqK X Z Q
structure LoopS (B:Post→Env→Mem→Nat→Prop) (Q:Post) (env:Env) (mem:Mem) (n:Nat):Prop where
 h:loopK B Q env mem n
structure RngS (I:IterRel) (B:Post→Env→Mem→Nat→Prop) (ps:List Nat) (Q:Post) (env:Env) (mem:Mem) (n g:Nat) (cs:List V):Prop where
 h:rngK I B ps Q env mem n g cs
def RunD (f:Dec→Env→Mem→Nat→Prop) (δ:Dec) (env:Env) (mem:Mem) (n:Nat):Prop:=f δ env mem n
def RunL (f:Dec→Env→Mem→Nat→List Foot→Prop) (δ:Dec) (env:Env) (mem:Mem) (n:Nat) (l:List Foot):Prop:=f δ env mem n l
def RunK (f:Env→Mem→Nat→Prop) (env:Env) (mem:Mem) (n:Nat):Prop:=f env mem n
def RunQ (f:Post) (e:Ex) (env:Env) (mem:Mem) (n:Nat):Prop:=f e env mem n
def RunC (f:YRel→Bool→Post→Env→Mem→Nat→Prop) (Y:YRel) (b:Bool) (Q:Post) (env:Env) (mem:Mem) (n:Nat):Prop:=f Y b Q env mem n
def Eff.wpR (C:CallRel) (M:Nat→Option Ob) (n:Nat) (K:V→Upd→Nat→Prop) (e:Eff):Prop :=
 @Eff.rec (fun _=>Prop) False (fun v u k=>K v u k) (fun p _ ih=>NeedS p ih) (fun p _ ih=>GivenS p ih) (fun p _ _ a b=>AltS p a b) (fun xs i _ ih=>ElemS xs i ih) (fun es k _ ih=>FindS es k ih) (fun f vs=>CallS C M n f vs K) e
def guardS (δ:Dec) (env:Env) (g:Nat×Bool) (yes no:Dec→Prop):Prop :=
 match δ.get g.1 with
 | some b=>cond (b==g.2) (yes δ) (no δ)
 | none=>match env.get g.1 with
  | .bt=>cond g.2 (yes δ) (no δ)
  | .bf=>cond g.2 (no δ) (yes δ)
  | .tup []=>no δ
  | .d (.bool b)=>TestS b (cond g.2 (yes ((g.1,true)::δ)) (no ((g.1,true)::δ))) (cond g.2 (no ((g.1,false)::δ)) (yes ((g.1,false)::δ)))
  | _=>False
def condS (v:V) (p q:Prop):Prop :=
 match v with
 | .bt=>p
 | .bf=>q
 | .d (.bool b)=>TestS b p q
 | _=>False
def nextM (id:Nat) (left:List (D×D)) (mem:Mem):Option (Nat×D×D)→Mem
 | none=>mem
 | some (i,k,v)=>(id,some (.iter (left.eraseIdx i) (some (k,v))))::mem
def nextV:Option (Nat×D×D)→V
 | none => .d (.tup [.bool false])
 | some (_,k,v) => .d (.tup [.bool true,k,v])
def demonS (Y:YRel) (o:CO) (env:Env) (mem:Mem) (n:Nat):Option ((V→Mem→Nat→Prop)→Prop) :=
 match o with
 | .callv g xs=>match g.ev env.get with
  | .yld l=>some fun K=>Y l (evs env.get xs) mem n fun b mem n=>K (.d (.bool b)) mem n
  | _=>none
 | .next it=>match it.ev env.get with
  | .iter id=>some fun K=>match mem.get id with
   | some (.iter left _)=>NextS left fun r=>K (nextV r) (nextM id left mem r) n
   | _=>False
  | _=>none
 | .eqN neg x y=>match x.ev env.get,y.ev env.get with
  | .d (.arr _ xs),.nils _=>some fun K=>AnyS (xs=[]) fun b=>K (.d (.bool (b != neg))) mem n
  | .own id,.nils _=>match mem.get id with
   | some (.row _ xs)=>some fun K=>AnyS (xs=[]) fun b=>K (.d (.bool (b != neg))) mem n
   | _=>none
  | _,_=>none
 | _=>none
def wpOpsR (C:CallRel) (K:Env→Mem→Nat→List Foot→Prop) (ops:List COp):Dec→Env→Mem→Nat→List Foot→Prop :=
 @List.rec COp (fun _=>Dec→Env→Mem→Nat→List Foot→Prop) (fun _ env mem n l=>K env mem n l) (fun o _ ih δ env mem n l =>
  match o.guard with
  | none=>(effD δ o.op env.get mem.get n).wpR C mem.get n fun v u k =>
    RunL ih (δ.del o.dst) (putEnv o.dst v env) (updMem u mem) (n+k) (l++[⟨footOf o.op env.get mem.get,u.map Prod.fst,cellOf o.op env.get v,u⟩])
  | some g=>guardS δ env g
    (fun δ=>(effD δ o.op env.get mem.get n).wpR C mem.get n fun v u k =>
     RunL ih (δ.del o.dst) (putEnv o.dst v env) (updMem u mem) (n+k) (l++[⟨footOf o.op env.get mem.get,u.map Prod.fst,cellOf o.op env.get v,u⟩]))
    (fun δ=>RunL ih (δ.del o.dst) (putEnv o.dst (.tup []) env) mem n (l++[⟨[],[],none,[]⟩]))) ops
def wpRegR (C:CallRel) (Y:YRel) (K:Env→Mem→Nat→Prop) (ops:List COp):Dec→Env→Mem→Nat→Prop :=
 @List.rec COp (fun _=>Dec→Env→Mem→Nat→Prop) (fun _ env mem n=>K env mem n) (fun o _ ih δ env mem n =>
  match o.guard with
  | none=>match demonS Y o.op env mem n with
   | some f=>f fun v mem n=>RunD ih (δ.del o.dst) (putEnv o.dst v env) mem n
   | none=>(effD δ o.op env.get mem.get n).wpR C mem.get n fun v u k =>
     envK o.op u mem env fun env=>RunD ih (δ.del o.dst) (putEnv o.dst v env) (updMem u mem) (n+k)
  | some g=>guardS δ env g
    (fun δ=>match demonS Y o.op env mem n with
     | some f=>f fun v mem n=>RunD ih (δ.del o.dst) (putEnv o.dst v env) mem n
     | none=>(effD δ o.op env.get mem.get n).wpR C mem.get n fun v u k =>
       envK o.op u mem env fun env=>RunD ih (δ.del o.dst) (putEnv o.dst v env) (updMem u mem) (n+k))
    (fun δ=>RunD ih (δ.del o.dst) (putEnv o.dst (.tup []) env) mem n)) ops
def wpcR (C:CallRel) (I:IterRel) (c:CC):YRel→Bool→Post→Env→Mem→Nat→Prop :=
 @CC.rec (fun _=>YRel→Bool→Post→Env→Mem→Nat→Prop)
  (fun _ _ Q env mem n=>RunQ Q .normal env mem n)
  (fun cx _ x y Y b Q env mem n=>match cx.cuts with
   | none=>x Y b (fun e env mem n=>match e with
    | .normal=>RunC y Y b Q env mem n
    | e=>RunQ Q e env mem n) env mem n
   | some k=>SeqS k (fun Q=>x Y b Q env mem n) (fun env mem n=>RunC y Y b Q env mem n) Q)
  (fun ops Y _ Q env mem n=>wpRegR C Y (fun env mem n=>RunQ Q .normal env mem n) ops [] env mem n)
  (fun ops bef _ _ Q env mem n=>wpOpsR C (fun env mem n l=>OrdS (okOrder ops bef l) (RunQ Q .normal env mem n)) ops [] env mem n [])
  (fun x _ _ c d Y b Q env mem n=>condS (x.ev env.get) (RunC c Y b Q env mem n) (RunC d Y b Q env mem n))
  (fun id _ c Y b Q env mem n=>c Y b (fun e env mem n=>match e with
   | .exit j=>cond (Nat.beq j id) (RunQ Q .normal env mem n) (RunQ Q (.exit j) env mem n)
   | e=>RunQ Q e env mem n) env mem n)
  (fun _ c Y b Q env mem n=>LoopS (fun Q env mem n=>c Y b Q env mem n) Q env mem n)
  (fun id _ _ Q env mem n=>RunQ Q (.exit id) env mem n)
  (fun _ _ Q env mem n=>RunQ Q .ret env mem n)
  (fun f ps _ _ x y _ b Q env mem n=>match b with
   | true=>False
   | false=>match f.ev env.get with
    | .fn g cs=>RngS I (fun Q env mem n=>x noY true (fun e env mem n=>match e with
      | .normal=>RunC y noY true Q env mem n
      | e=>RunQ Q e env mem n) env mem n) ps Q env mem n g cs
    | _=>False) c
theorem wpR_eq (C:CallRel) (M:Nat→Option Ob) (n:Nat) (K:V→Upd→Nat→Prop) : ∀ e:Eff,e.wpR C M n K=e.wp C M n K
 | .bad=>rfl
 | .ok _ _ _=>rfl
 | .need p r=>by
  show NeedS p (r.wpR C M n K)=Need p (r.wp C M n K)
  rw [wpR_eq C M n K r];exact propext ⟨fun ⟨a,b⟩=>⟨a,b⟩,fun ⟨a,b⟩=>⟨a,b⟩⟩
 | .given p r=>by
  show GivenS p (r.wpR C M n K)=Given p (r.wp C M n K)
  rw [wpR_eq C M n K r];exact propext ⟨fun ⟨a⟩=>a,fun a=>⟨a⟩⟩
 | .alt p r s=>by
  show AltS p (r.wpR C M n K) (s.wpR C M n K)=Alt p (r.wp C M n K) (s.wp C M n K)
  rw [wpR_eq C M n K r,wpR_eq C M n K s]
  exact propext ⟨fun h=>match h with | .fit a b => .inl ⟨a,b⟩ | .no b => .inr b,fun h=>h.elim (fun ⟨a,b⟩ => .fit a b) .no⟩
 | .elem xs i f=>by
  show ElemS xs i (fun x=>(f x).wpR C M n K)=ElemP xs i (fun x=>(f x).wp C M n K)
  rw [show (fun x=>(f x).wpR C M n K)=fun x=>(f x).wp C M n K from funext fun x=>wpR_eq C M n K (f x)]
  exact propext ⟨fun ⟨x,a,b⟩=>⟨x,a,b⟩,fun ⟨x,a,b⟩=>⟨x,a,b⟩⟩
 | .find es k f=>by
  show FindS es k (fun x=>(f x).wpR C M n K)=FindP es k (fun x=>(f x).wp C M n K)
  rw [show (fun x=>(f x).wpR C M n K)=fun x=>(f x).wp C M n K from funext fun x=>wpR_eq C M n K (f x)]
  exact propext ⟨fun ⟨x,a,b⟩=>⟨x,a,b⟩,fun ⟨x,a,b⟩=>⟨x,a,b⟩⟩
 | .call f vs=>propext ⟨fun ⟨a⟩=>a,fun a=>⟨a⟩⟩
theorem testS_eq (b:Bool) (p q:Prop):TestS b p q=Test b p q:=propext ⟨fun ⟨x,y⟩=>⟨x,y⟩,fun ⟨x,y⟩=>⟨x,y⟩⟩
theorem guardS_eq (δ:Dec) (env:Env) (g:Nat×Bool) (yes no:Dec→Prop):guardS δ env g yes no=guardK δ env g yes no:=by
 unfold guardS guardK
 simp only [testS_eq]
 cases δ.get g.1 with
 | some b=>rfl
 | none =>
  cases env.get g.1 with
  | d x=>cases x<;>rfl
  | tup l=>cases l<;>rfl
  | _=>rfl
theorem condS_eq (v:V) (p q:Prop):condS v p q=condK v p q:=by
 unfold condS condK
 simp only [testS_eq]
 cases v with
 | d x=>cases x<;>rfl
 | _=>rfl
theorem demonS_eq (Y:YRel) (o:CO) (env:Env) (mem:Mem) (n:Nat):demonS Y o env mem n=demon Y o env mem n:=by
 unfold demonS demon
 cases o with
 | callv g xs=>rfl
 | next it =>
  simp only
  cases it.ev env.get with
  | iter id =>
   simp only
   congr 1
   funext K
   cases mem.get id with
   | none=>rfl
   | some ob =>
    cases ob with
    | iter left c=>exact propext ⟨fun ⟨a,b⟩=>⟨a,b⟩,fun ⟨a,b⟩=>⟨a,b⟩⟩
    | _=>rfl
  | _=>rfl
 | eqN neg x y =>
  simp only
  cases x.ev env.get with
  | d x =>
   cases x with
   | arr s xs =>
    cases y.ev env.get with
    | nils s=>exact congrArg some (funext fun K=>propext ⟨fun ⟨a⟩=>a,fun a=>⟨a⟩⟩)
    | _=>rfl
   | _=>rfl
  | own id =>
   cases y.ev env.get with
   | nils s =>
    simp only
    cases mem.get id with
    | none=>rfl
    | some ob =>
     cases ob with
     | row s xs=>exact congrArg some (funext fun K=>propext ⟨fun ⟨a⟩=>a,fun a=>⟨a⟩⟩)
     | _=>rfl
   | _=>rfl
  | _=>rfl
 | _=>rfl
theorem wpOpsR_eq (C:CallRel) (K:Env→Mem→Nat→List Foot→Prop) : ∀ (ops:List COp) (δ:Dec) (env:Env) (mem:Mem) (n:Nat) (l:List Foot),wpOpsR C K ops δ env mem n l=wpOps C K ops δ env mem n l
 | [],_,_,_,_,_=>rfl
 | o::r,δ,env,mem,n,l=>by
  rw [show wpOpsR C K (o::r) δ env mem n l=(match o.guard with
  | none=>(effD δ o.op env.get mem.get n).wpR C mem.get n fun v u k =>
    RunL (wpOpsR C K r) (δ.del o.dst) (putEnv o.dst v env) (updMem u mem) (n+k) (l++[⟨footOf o.op env.get mem.get,u.map Prod.fst,cellOf o.op env.get v,u⟩])
  | some g=>guardS δ env g
    (fun δ=>(effD δ o.op env.get mem.get n).wpR C mem.get n fun v u k =>
     RunL (wpOpsR C K r) (δ.del o.dst) (putEnv o.dst v env) (updMem u mem) (n+k) (l++[⟨footOf o.op env.get mem.get,u.map Prod.fst,cellOf o.op env.get v,u⟩]))
    (fun δ=>RunL (wpOpsR C K r) (δ.del o.dst) (putEnv o.dst (.tup []) env) mem n (l++[⟨[],[],none,[]⟩]))) from rfl]
  simp only [RunL,wpOpsR_eq C K r,wpR_eq,guardS_eq,wpOps]
  cases o.guard<;>rfl
theorem wpRegR_eq (C:CallRel) (Y:YRel) (K:Env→Mem→Nat→Prop) : ∀ (ops:List COp) (δ:Dec) (env:Env) (mem:Mem) (n:Nat),wpRegR C Y K ops δ env mem n=wpReg C Y K ops δ env mem n
 | [],_,_,_,_=>rfl
 | o::r,δ,env,mem,n=>by
  rw [show wpRegR C Y K (o::r) δ env mem n=(match o.guard with
  | none=>match demonS Y o.op env mem n with
   | some f=>f fun v mem n=>RunD (wpRegR C Y K r) (δ.del o.dst) (putEnv o.dst v env) mem n
   | none=>(effD δ o.op env.get mem.get n).wpR C mem.get n fun v u k =>
     envK o.op u mem env fun env=>RunD (wpRegR C Y K r) (δ.del o.dst) (putEnv o.dst v env) (updMem u mem) (n+k)
  | some g=>guardS δ env g
    (fun δ=>match demonS Y o.op env mem n with
     | some f=>f fun v mem n=>RunD (wpRegR C Y K r) (δ.del o.dst) (putEnv o.dst v env) mem n
     | none=>(effD δ o.op env.get mem.get n).wpR C mem.get n fun v u k =>
       envK o.op u mem env fun env=>RunD (wpRegR C Y K r) (δ.del o.dst) (putEnv o.dst v env) (updMem u mem) (n+k))
    (fun δ=>RunD (wpRegR C Y K r) (δ.del o.dst) (putEnv o.dst (.tup []) env) mem n)) from rfl]
  simp only [RunD,wpRegR_eq C Y K r,wpR_eq,guardS_eq,demonS_eq,wpReg]
  cases o.guard with
  | none=>cases demon Y o.op env mem n<;>rfl
  | some g=>cases demon Y o.op env mem n<;>rfl
theorem wpcR_eq (C:CallRel) (I:IterRel) : ∀ (c:CC) (Y:YRel) (b:Bool) (Q:Post) (env:Env) (mem:Mem) (n:Nat),wpcR C I c Y b Q env mem n=wpc C I Y b c Q env mem n
 | .skip,_,_,_,_,_,_=>rfl
 | .seq x y,Y,b,Q,env,mem,n=>by
  show (match x.cuts with
   | none=>wpcR C I x Y b (fun e env mem n=>match e with
    | .normal=>RunC (wpcR C I y) Y b Q env mem n
    | e=>RunQ Q e env mem n) env mem n
   | some k=>SeqS k (fun Q=>wpcR C I x Y b Q env mem n) (fun env mem n=>RunC (wpcR C I y) Y b Q env mem n) Q)=_
  rw [wpc]
  cases x.cuts with
  | none =>
   simp only [wpcR_eq C I x,RunC,wpcR_eq C I y,RunQ]
   rfl
  | some k =>
   simp only [wpcR_eq C I x,RunC,wpcR_eq C I y]
   exact propext ⟨fun ⟨a⟩=>a,fun a=>⟨a⟩⟩
 | .reg ops,Y,b,Q,env,mem,n=>by
  show wpRegR C Y (fun env mem n=>RunQ Q .normal env mem n) ops [] env mem n=_
  rw [wpRegR_eq,wpc];rfl
 | .regd ops bef,Y,b,Q,env,mem,n=>by
  show wpOpsR C (fun env mem n l=>OrdS (okOrder ops bef l) (RunQ Q .normal env mem n)) ops [] env mem n []=_
  rw [wpOpsR_eq,wpc]
  congr 1
  funext env mem n l
  exact propext ⟨fun ⟨a,b⟩=>⟨a,b⟩,fun ⟨a,b⟩=>⟨a,b⟩⟩
 | .cond x c d,Y,b,Q,env,mem,n=>by
  show condS (x.ev env.get) (RunC (wpcR C I c) Y b Q env mem n) (RunC (wpcR C I d) Y b Q env mem n)=_
  simp only [condS_eq,RunC,wpcR_eq C I c,wpcR_eq C I d,wpc]
 | .block id c,Y,b,Q,env,mem,n=>by
  show wpcR C I c Y b (fun e env mem n=>match e with
   | .exit j=>cond (Nat.beq j id) (RunQ Q .normal env mem n) (RunQ Q (.exit j) env mem n)
   | e=>RunQ Q e env mem n) env mem n=_
  rw [wpcR_eq C I c,wpc];rfl
 | .loop c,Y,b,Q,env,mem,n=>by
  show LoopS (fun Q env mem n=>wpcR C I c Y b Q env mem n) Q env mem n=_
  simp only [wpcR_eq C I c,wpc]
  exact propext ⟨fun ⟨a⟩=>a,fun a=>⟨a⟩⟩
 | .exit id,_,_,_,_,_,_=>rfl
 | .ret,_,_,_,_,_,_=>rfl
 | .rng f ps x y,Y,true,Q,env,mem,n=>rfl
 | .rng f ps x y,Y,false,Q,env,mem,n=>by
  show (match f.ev env.get with
    | .fn g cs=>RngS I (fun Q env mem n=>wpcR C I x noY true (fun e env mem n=>match e with
      | .normal=>RunC (wpcR C I y) noY true Q env mem n
      | e=>RunQ Q e env mem n) env mem n) ps Q env mem n g cs
    | _=>False)=_
  simp only [wpcR_eq C I x,RunC,wpcR_eq C I y,wpc,RunQ]
  cases f.ev env.get with
  | fn g cs=>exact propext ⟨fun ⟨a⟩=>a,fun a=>⟨a⟩⟩
  | _=>rfl
end Go.Ab
namespace Go.Ab
open Go
set_option linter.unusedVariables false
section
variable {P:Program} {T:Nat→Obj→Prop}
theorem SeqS.direct {k:Nat} {X:Post→Prop} {Z:Env→Mem→Nat→Prop} {Q:Post} (h:X (fun e env mem n=>match e with
  | .normal=>Z env mem n
  | e=>Q e env mem n)):SeqS k X Z Q:=⟨.inl h⟩
theorem SeqS.but {k:Nat} {X:Post→Prop} {Z:Env→Mem→Nat→Prop} {Q:Post} (j:Nat) (hj:Nat.beq k j=false) (h:X (fun e env mem n=>match e with
  | .normal=>Z env mem n
  | e=>Q e env mem n)):SeqS k X Z Q:=⟨.inl h⟩
theorem SeqS.cut {k:Nat} {X:Post→Prop} {Z:Env→Mem→Nat→Prop} {Q:Post} {α:Type} (E:α→Env) (M:α→Mem) (N:Nat) (I:α→Prop) (h:X (fun e env mem n=>match e with
  | .normal => ∃ a r nl,I a∧Le env mem n (E a) (M a) N r nl
  | e=>Q e env mem n)) (hz : ∀ a,I a→Z (E a) (M a) N):SeqS k X Z Q:=⟨.inr ⟨α,E,M,N,I,h,hz⟩⟩
theorem TestS.dec {x:Prop} [Decidable x] {p q:Prop} (h1:x→p) (h2 : ¬x→q):TestS (decide x) p q:=⟨fun h=>h1 (by simpa using h),fun h=>h2 (by simpa using h)⟩
theorem TestS.ne {α:Type} {a b:α} [Decidable (a≠b)] {p q:Prop} (h1:a≠b→p) (h2:a=b→q):TestS (decide (a≠b)) p q :=
 ⟨fun h=>h1 (by simpa using h),fun h=>h2 (by simpa using h)⟩
theorem TestS.not {b:Bool} {p q:Prop} (h:TestS b q p):TestS (!b) p q:=⟨fun e=>h.2 (by simpa using e),fun e=>h.1 (by simpa using e)⟩
theorem TestS.tt {p q:Prop} (h:p):TestS true p q:=⟨fun _=>h,nofun⟩
theorem TestS.ff {p q:Prop} (h:q):TestS false p q:=⟨nofun,fun _=>h⟩
theorem GivenS.map {α β:Type} {f:α→β} {xs:List α} {m:Nat} {q:Prop} (h:xs.length≤m→q):GivenS ((xs.map f).length≤m) q:=⟨fun h'=>h (by simpa using h')⟩
theorem ElemS.nat {α:Type} {f:α→D} {xs:List α} {i:Nat} {K:D→Prop} (h:i < xs.length) (k : ∀ x,xs[i]? = some x→K (f x)):ElemS (xs.map f) (i:Int) K :=
 ⟨f xs[i],⟨Int.natCast_nonneg i,by simp [h]⟩,k _ (by simp [h])⟩
theorem ElemS.int {α:Type} {f:α→D} {xs:List α} {i:Int} {K:D→Prop} (h0:0≤i) (h:i < xs.length) (k : ∀ x,xs[i.toNat]? = some x→K (f x)):ElemS (xs.map f) i K:=by
 have h':i.toNat < xs.length:=by omega
 exact ⟨f xs[i.toNat],⟨h0,by simp [h']⟩,k _ (by simp [h'])⟩
theorem ElemS.is {α:Type} {f:α→D} {xs:List α} {i:Int} {x:α} {K:D→Prop} (h0:0≤i) (h:xs[i.toNat]? = some x) (k:K (f x)):ElemS (xs.map f) i K :=
 ⟨f x,⟨h0,by simp [h]⟩,k⟩
theorem ElemS.isNat {α:Type} {f:α→D} {xs:List α} {i:Nat} {x:α} {K:D→Prop} (h:xs[i]? = some x) (k:K (f x)):ElemS (xs.map f) (i:Int) K :=
 ⟨f x,⟨Int.natCast_nonneg i,by simp [h]⟩,k⟩
theorem drop_cons {α:Type} {xs:List α} {k:Nat} {x:α} (h:xs[k]? = some x):xs.drop k=x::xs.drop (k+1):=by
 obtain ⟨h',rfl⟩:=List.getElem?_eq_some_iff.1 h
 exact List.drop_eq_getElem_cons h'
theorem End.int {k:IntKind} {x y:Int} (h:x=y):some (D.int k x)=some (D.int k y):=by rw [h]
theorem End.u64 {x y:BitVec 64} (h:x=y):some (D.u64 x)=some (D.u64 y):=by rw [h]
theorem End.bool {x y:Bool} (h:x=y):some (D.bool x)=some (D.bool y):=by rw [h]
theorem CallS.data {M:Nat→Option Ob} {n f:Nat} {vs lvs:List V} {y:D} {K:V→Upd→Nat→Prop} (hf:Fn P T f lvs [] (.d y) []) (ha:VPasses M [] (valReach M vs) 20 lvs vs)
  (hy:y.flat 19=true) (hK:K (.d y) [] 0):CallS (CallC P T) M n f vs K:=⟨AtCall.data hf ha hy hK⟩
theorem CallS.res {M:Nat→Option Ob} {n f:Nat} {vs lvs:List V} {lv:V} {obs':List (Option Ob)} {K:V→Upd→Nat→Prop} (hf:Fn P T f lvs [] lv obs') (ha:VPasses M [] (valReach M vs) 20 lvs vs)
  (hK:K (renV [] n 20 lv) (callU [] (valReach M vs) n obs' false) obs'.length):CallS (CallC P T) M n f vs K :=
 ⟨⟨_,_,_,⟨[],valReach M vs,false,lvs,[],lv,obs',hf,ha,rfl,rfl,by simp [disj],by simp [subl],by simp [subl],by simp,nofun,rfl,rfl,rfl⟩,hK⟩⟩
theorem fn_dataR (hm:P.follows .mixedOrders=true) {f:Nat} {c:CFn} (hc:compFn P f=some c) {vs:List V} {y:D} (hlen:vs.length≤c.ntmps)
  (h:wpcR (CallC P T) (IterC P T) c.body noY false (dataPost c y) (bindEnv 0 vs) [] 0):Fn P T f vs [] (.d y) [] :=
 fn_data hm hc hlen (by rw [← wpcR_eq];exact h)
theorem fn_introR (hm:P.follows .mixedOrders=true) {f:Nat} {c:CFn} (hc:compFn P f=some c) {vs:List V} {obs:List Ob} {v:V} {obs':List (Option Ob)} (hlen:vs.length≤c.ntmps)
  (Q:Post) (hQ : ∀ e env mem n,Q e env mem n→fnPost c obs v obs' e env mem n) (h:wpcR (CallC P T) (IterC P T) c.body noY false Q (bindEnv 0 vs++ghostEnv ghostAt 0 obs) (memS 0 obs) obs.length):Fn P T f vs obs v obs' :=
 fn_intro hm hc hlen Q hQ (by rw [← wpcR_eq];exact h)
theorem CallS.dataN {M:Nat→Option Ob} {n f:Nat} {vs lvs:List V} {y:D} {K:V→Upd→Nat→Prop} (hf:Fn P T f lvs [] (.d y) []) (ha:VPasses M [] (valReach M vs) 20 lvs vs)
  (hK:K (.d y) (callU [] (valReach M vs) n [] false) 0):CallS (CallC P T) M n f vs K :=
 ⟨⟨.d y,_,0,⟨[],valReach M vs,false,lvs,[],.d y,[],hf,ha,rfl,rfl,by simp [disj],by simp [subl],by simp [subl],by simp,nofun,rfl,rfl,rfl⟩,hK⟩⟩
theorem loop_intro {α:Type} {B:Post→Env→Mem→Nat→Prop} {Q:Post} {env:Env} {mem:Mem} {n:Nat} (E:α→Env) (I:α→Prop) (μ:α→Nat) (a:α) (hI:I a) (hE:EnvLe [] [] env (E a))
  (h : ∀ a,I a→B (fun e env mem n=>match e with
   | .normal => ∃ a' r nl,I a'∧μ a' < μ a∧Le env mem n (E a') [] 0 r nl
   | e=>Q e env mem n) (E a) [] 0):LoopS B Q env mem n :=
 ⟨⟨α,E,fun _=>[],0,I,μ,a,[],[],hI,⟨rfl,rfl,rfl,hE,trivial⟩,h⟩⟩
theorem loop_mem {α:Type} {B:Post→Env→Mem→Nat→Prop} {Q:Post} {env:Env} {mem:Mem} {n:Nat} (E:α→Env) (M:α→Mem) (N:Nat) (I:α→Prop) (μ:α→Nat) (a:α) (r:List (Nat×Nat)) (nl:List Nat) (hI:I a) (hE:Le env mem n (E a) (M a) N r nl)
  (h : ∀ a,I a→B (fun e env mem n=>match e with
   | .normal => ∃ a' r nl,I a'∧μ a' < μ a∧Le env mem n (E a') (M a') N r nl
   | e=>Q e env mem n) (E a) (M a) N):LoopS B Q env mem n :=
 ⟨⟨α,E,M,N,I,μ,a,r,nl,hI,hE,h⟩⟩
end
section
variable {p q:Prop}
theorem vT (k:p):AltS True p q := .fit trivial k
theorem vO {n:Int} (h : -9223372036854775808≤n∧n≤9223372036854775807) (k:p):AltS (inR .i64 n) p q := .fit h k
theorem vS {α:Type} {f:α→D} {xs:List α} {i:Int} {K:D→Prop} (h:0≤i∧i < xs.length) (k : ∀ x,xs[i.toNat]? = some x→K (f x)):ElemS (xs.map f) i K := .int h.1 h.2 k
end
abbrev vA := @SeqS.direct
abbrev vB := @AnyS.mk
abbrev vC := @NextS.mk
abbrev vD := @TestS.ne
abbrev vE := @TestS.not
abbrev vF := @TestS.dec
abbrev vG := @TestS.tt
abbrev vH := @TestS.ff
abbrev vI := @TestS.mk
abbrev vJ := @GivenS.map
abbrev vK := @GivenS.mk
abbrev vN := @ElemS.isNat
abbrev vP := @NeedS.mk
abbrev vQ := @ElemS.nat
abbrev vR := @ElemS.is
abbrev vU := @OrdS.mk
abbrev vW := @AltS.fit
abbrev vX := @End.int
abbrev vY := @End.u64
abbrev vZ := @End.bool
abbrev yD := @CallS.data
abbrev yN := @CallS.dataN
theorem vL:(∀ {α β:Type} {f:α→β} {l:List α},(l.map f).length=l.length)∧(∀ {n:Nat},(List.range n).length=n)∧(∀ {α:Type} {n:Nat} {x:α},(List.replicate n x).length=n)∧(∀ {a b:Int},(¬a < b)=(b≤a))∧(∀ {a b:Int},(¬a≤b)=(b < a))∧(∀ {p:Prop},(¬¬p)=p) :=
 ⟨List.length_map _,List.length_range,List.length_replicate,propext Int.not_lt,propext Int.not_le,propext Classical.not_not⟩
theorem vM:mostLen=34359738368∧(∀ {α β:Type} {f:α→β} {l:List α},(l.map f).length=l.length)∧(∀ {n:Nat},(List.range n).length=n)∧(∀ {α:Type} {n:Nat} {x:α},(List.replicate n x).length=n)∧(∀ {α:Type} {x:α} {l:List α},(x::l).length=l.length+1) ∧
  (∀ {α:Type},([]:List α).length=0)∧(∀ {α:Type} {l m:List α},(l++m).length=l.length+m.length)∧(∀ {α:Type} {l:List α} {i:Nat} {x:α},(l.set i x).length=l.length) :=
 ⟨rfl,List.length_map _,List.length_range,List.length_replicate,rfl,rfl,List.length_append,List.length_set⟩
abbrev dI (l:List Int):D := .arr 1 (l.map (.int .i64))
abbrev dU (l:List (BitVec 64)):D := .arr 1 (l.map .u64)
abbrev dII (l:List (List Int)):D := .arr 1 (l.map dI)
abbrev dUU (l:List (List (BitVec 64))):D := .arr 1 (l.map dU)
end Go.Ab
