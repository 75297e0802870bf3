/- A part of the proofs of this seat: functions and their contracts. -/
import Derived.Test.YtnmoepbhlbebkaaDoorMA
import Derived.MapKept
import Derived.ChangeKeysEq
import Derived.WideKeyRuns
import Derived.Laws.StructEq
import Derived.Maps.RangeRun
import Derived.Orders
set_option linter.unusedVariables false
set_option linter.unusedSimpArgs false
set_option linter.unusedSectionVars false
namespace Go.Ab
open Go Go.MapKept
section
variable {P:Program} {w:World}
theorem zuU {X:Nat→Prop} {x y:D} {v u:Value} {k:IntKind} {e:TypeId} {d:Nat} {b:Bool} (he:P.underlying e=some (.int k)) (hk:x.hasKind (.int k)=true) (hv:zj X w x v) (hu:zj X w y u) (h:D.same x y=some b) :
  (Op.equalIn (d+1) e v u).run P w = .ok b w:=by
 cases hv with
 | int k1 n hne =>
  cases hu with
  | int k2 m hne2 =>
   simp only [D.same] at h
   by_cases hkk:k1=k2
   ·subst hkk
    simp at h
    subst h
    rw [run_equalIn_int w d e k1 k n m he]
    simp [zjO]
   ·simp [hkk] at h
  | _=>simp [D.same] at h
 | u64 p =>
  cases hu with
  | u64 q =>
   simp only [D.same,Option.some.injEq] at h
   subst h
   rw [run_equalIn_int w d e .u64 k _ _ he]
   simp [zm0]
  | _=>simp [D.same] at h
 | _=>cases k<;>simp [D.hasKind] at hk
theorem zlN {X:Nat→Prop} {d:Nat} {xs ys:Array Value} : ∀ (fs:List Field) (o:Nat) {l:List KK} {ds es:List D} {b:Bool},zcY P fs o=some l→ds.length=l.length→es.length=l.length →
  (∀ i,i < l.length→(ds.getD i .nil).hasKind (l.getD i .str)=true)→(∀ i,i < l.length→xs.size > o+i∧zj X w (ds.getD i .nil) (xs.getD (o+i) undef))→(∀ i,i < l.length→ys.size > o+i∧zj X w (es.getD i .nil) (ys.getD (o+i) undef)) →
  zb9 ds es=some b→(Op.eqFields (d+1) xs ys fs).run P w = .ok b w
 | [],o,l,ds,es,b,hl,h1,h2,_,_,_,hs=>by
  simp only [zcY,Option.some.injEq] at hl
  subst hl
  obtain rfl:=List.length_eq_zero_iff.1 h1
  obtain rfl:=List.length_eq_zero_iff.1 h2
  simp only [zb9,Option.some.injEq] at hs
  subst hs
  simp [Op.eqFields]
 | f::fs,o,l,ds,es,b,hl,h1,h2,hk,hx,hy,hs=>by
  unfold zcY at hl
  split at hl
  ·rename_i k hu
   cases hc:(f.name != "_" && Nat.beq f.offset o) with
   | false=>rw [hc] at hl;cases hl
   | true =>
    rw [hc,cond_true] at hl
    simp only [Bool.and_eq_true,bne_iff_ne] at hc
    obtain ⟨hn,ho⟩:=hc
    have ho:f.offset=o:=Nat.eq_of_beq_eq_true ho
    split at hl
    ·rename_i l' hl'
     obtain rfl:=Option.some.inj hl
     obtain ⟨x,ds,rfl⟩ : ∃ x r,ds=x::r:=by cases ds with|nil=>simp at h1|cons x r=>exact ⟨x,r,rfl⟩
     obtain ⟨y,es,rfl⟩ : ∃ x r,es=x::r:=by cases es with|nil=>simp at h2|cons x r=>exact ⟨x,r,rfl⟩
     simp only [zb9] at hs
     split at hs
     ·rename_i p q hp hq
      obtain rfl:=Option.some.inj hs
      have hx0:=hx 0 (by simp)
      have hy0:=hy 0 (by simp)
      simp only [Nat.add_zero,List.getD_cons_zero] at hx0 hy0
      have hpk:P.plainKey f.type=true:=by unfold Program.plainKey;rw [hu]
      have hgx:xs[o]? = some (xs.getD o undef):=by simp [Array.getD_eq_getD_getElem?,hx0.1]
      have hgy:ys[o]? = some (ys.getD o undef):=by simp [Array.getD_eq_getD_getElem?,hy0.1]
      have p1:=run_part_plain (P:=P) w hpk hgx
      have p2:=run_part_plain (P:=P) w hpk hgy
      have hk0:=hk 0 (by simp)
      have p3:=zuU (d:=d) hu (by simpa using hk0) hx0.2 hy0.2 hp
      have ih:=zlN (d:=d) (xs:=xs) (ys:=ys) fs (o+1) hl' (by simpa using h1) (by simpa using h2) (fun i hi=>by have:=hk (i+1) (by simpa using hi);simpa using this)
       (fun i hi=>by have:=hx (i+1) (by simpa using hi);rw [show o+1+i=o+(i+1) by omega];simpa using this) (fun i hi=>by have:=hy (i+1) (by simpa using hi);rw [show o+1+i=o+(i+1) by omega];simpa using this) hq
      rw [← ho] at p1 p2
      simp only [Op.eqFields,hn,ne_eq,not_false_eq_true,if_true,Sem.run_bind,p1,p2,Result.andThen_ok]
      rw [ho]
      simp only [p3,Result.andThen_ok]
      cases p
      ·simp
      ·simpa using ih
     ·cases hs
    ·cases hl
  ·cases hl
theorem zes : ∀ {l:List KK} {ds:List D},zah l ds=true→ds.length=l.length
 | [],[],_=>rfl
 | k::r,x::s,h=>by
  simp only [zah,Bool.and_eq_true] at h
  simp [zes h.2]
 | [],_::_,h=>by simp [zah] at h
 | _::_,[],h=>by simp [zah] at h
theorem znJ : ∀ {l:List KK} {ds:List D},zah l ds=true → ∀ i,i < l.length→(ds.getD i .nil).hasKind (l.getD i .str)=true
 | k::r,x::s,h,i,hi=>by
  simp only [zah,Bool.and_eq_true] at h
  cases i with
  | zero=>simpa using h.1
  | succ i=>simpa using znJ h.2 i (by simpa using hi)
 | [],[],_,i,hi=>by simp at hi
theorem ziZ : ∀ {ds es:List D} {b:Bool},zb9 ds es=some b→es.length=ds.length
 | [],[],_,_=>rfl
 | x::r,y::s,b,h=>by
  simp only [zb9] at h
  split at h
  ·rename_i p q _ hq
   simp [ziZ hq]
  ·cases h
 | [],_::_,_,h=>by simp [zb9] at h
 | _::_,[],_,h=>by simp [zb9] at h
theorem znx {X:Nat→Prop} {d:Nat} {e:TypeId} {k:IntKind} {xs ys:Array Value} (hu:P.underlying e=some (.int k)) : ∀ (n o:Nat) {ds es:List D} {b:Bool},ds.length=n→es.length=n→zah (List.replicate n (.int k)) ds=true →
  (∀ i,i < n→xs.size > o+i∧zj X w (ds.getD i .nil) (xs.getD (o+i) undef))→(∀ i,i < n→ys.size > o+i∧zj X w (es.getD i .nil) (ys.getD (o+i) undef)) →
  zb9 ds es=some b→(Op.eqItems (d+1) e 1 xs ys ((List.range' o n))).run P w = .ok b w
 | 0,o,ds,es,b,h1,h2,_,_,_,hs=>by
  obtain rfl:=List.length_eq_zero_iff.1 h1
  obtain rfl:=List.length_eq_zero_iff.1 h2
  simp only [zb9,Option.some.injEq] at hs
  subst hs
  simp [Op.eqItems]
 | n+1,o,x::ds,y::es,b,h1,h2,hk,hx,hy,hs=>by
  simp only [List.replicate_succ,zah,Bool.and_eq_true] at hk
  simp only [zb9] at hs
  split at hs
  ·rename_i p q hp hq
   obtain rfl:=Option.some.inj hs
   have hx0:=hx 0 (by omega)
   have hy0:=hy 0 (by omega)
   simp only [Nat.add_zero,List.getD_cons_zero] at hx0 hy0
   have hpk:P.plainKey e=true:=by unfold Program.plainKey;rw [hu]
   have hgx:xs[o]? = some (xs.getD o undef):=by simp [Array.getD_eq_getD_getElem?,hx0.1]
   have hgy:ys[o]? = some (ys.getD o undef):=by simp [Array.getD_eq_getD_getElem?,hy0.1]
   have p1:=run_part_plain (P:=P) w hpk hgx
   have p2:=run_part_plain (P:=P) w hpk hgy
   have p3:=zuU (d:=d) hu hk.1 hx0.2 hy0.2 hp
   have ih:=znx (d:=d) (xs:=xs) (ys:=ys) hu n (o+1) (by simpa using h1) (by simpa using h2) hk.2
    (fun i hi=>by have:=hx (i+1) (by omega);rw [show o+1+i=o+(i+1) by omega];simpa using this) (fun i hi=>by have:=hy (i+1) (by omega);rw [show o+1+i=o+(i+1) by omega];simpa using this) hq
   rw [List.range'_succ]
   simp only [Op.eqItems,Nat.mul_one,Sem.run_bind,p1,p2,p3,Result.andThen_ok]
   cases p
   ·simp
   ·simpa using ih
  ·cases hs
 | n+1,_,[],_,_,h1,_,_,_,_,_=>by simp at h1
 | n+1,_,_::_,[],_,_,h2,_,_,_,_=>by simp at h2
theorem zlO {X:Nat→Prop} {t:TypeId} {l:List KK} {ds es:List D} {v u:Value} {b:Bool} (ht:za2 P t=some l) (hk:zah l ds=true) (hv:zj X w (.agg ds) v) (hu:zj X w (.agg es) u) (hs:zb9 ds es=some b) :
  (Op.equal t v u).run P w = .ok b w:=by
 unfold za2 at ht
 split at ht
 ·rename_i fs hfs
  cases hst:P.stoodInHeld t with
  | true=>rw [hst] at ht;cases ht
  | false =>
   rw [hst,cond_false] at ht
   cases hv with
   | agg _ xs h1 h2 h3 =>
    cases hu with
    | agg _ ys g1 g2 g3 =>
     have e1:=zes hk
     have e2:=ziZ hs
     have hf:P.fieldsOf t=fs:=by unfold Program.fieldsOf;rw [hfs]
     have:=run_equalIn_struct (w:=w) 9999 t xs ys (by rw [hf];exact hfs) hst
     unfold Op.equal
     rw [show Op.maxDepth=9999+1 from rfl,this,hf]
     exact zlN (d:=9998) fs.toList 0 ht e1 (by omega) (znJ hk) (fun i hi=>⟨by omega,by simpa using h3 i (by omega)⟩) (fun i hi=>⟨by omega,by simpa using g3 i (by omega)⟩) hs
 ·rename_i n e hfs
  split at ht
  ·rename_i k hue
   cases hc:Nat.beq (P.cellsOf e) 1 with
   | false=>rw [hc] at ht;cases ht
   | true =>
    rw [hc,cond_true] at ht
    obtain rfl:=Option.some.inj ht
    obtain ⟨i,hi⟩:=info_of_underlying hue
    cases hv with
    | agg _ xs h1 h2 h3 =>
     cases hu with
     | agg _ ys g1 g2 g3 =>
      have e1:=zes hk
      have e2:=ziZ hs
      rw [List.length_replicate] at e1
      unfold Op.equal
      rw [show Op.maxDepth=9999+1 from rfl,run_equalIn_array w 9999 xs ys hfs hi,Nat.eq_of_beq_eq_true hc,List.range_eq_range']
      exact znx (d:=9998) hue n 0 e1 (by omega) hk (fun i hi=>⟨by omega,by simpa using h3 i (by omega)⟩) (fun i hi=>⟨by omega,by simpa using g3 i (by omega)⟩) hs
  ·cases ht
 ·cases ht
theorem zwI {X:Nat→Prop} {t:TypeId} {l:List KK} {ds:List D} {v:Value} {em:Bool} {n:Nat} (ht:za2 P t=some l) (hk:zah l ds=true) (hv:zj X w (.agg ds) v) :
  (Instr.checkKey em (n+2) t v).run P w = .ok () w:=by
 unfold za2 at ht
 split at ht
 ·rename_i fs hfs
  cases hst:P.stoodInHeld t with
  | true=>rw [hst] at ht;cases ht
  | false =>
   rw [hst,cond_false] at ht
   cases hv with
   | agg _ xs h1 h2 h3 =>
    have e1:=zes hk
    have hx : ∀ i,i < l.length→xs.size > 0+i:=fun i hi=>by omega
    rw [Instr.checkKey]
    simp only [Sem.run_bind,run_underlying hfs,Result.andThen_ok]
    rw [← Array.forIn_toList]
    revert ht hx
    clear hfs e1 h1 h2 h3 hk hst
    generalize fs.toList=L
    generalize 0=o
    intro ht hx
    induction L generalizing o l with
    | nil=>simp
    | cons f L ih =>
     unfold zcY at ht
     split at ht
     ·rename_i k hu
      cases hc:(f.name != "_" && Nat.beq f.offset o) with
      | false=>rw [hc] at ht;cases ht
      | true =>
       rw [hc,cond_true] at ht
       simp only [Bool.and_eq_true,bne_iff_ne] at hc
       obtain ⟨hn,ho⟩:=hc
       have ho:f.offset=o:=Nat.eq_of_beq_eq_true ho
       split at ht
       ·rename_i l' hl'
        obtain rfl:=Option.some.inj ht
        have hx0:=hx 0 (by simp)
        have hpk:P.plainKey f.type=true:=by unfold Program.plainKey;rw [hu]
        have hgx:xs[o]? = some (xs.getD o undef):=by simp [Array.getD_eq_getD_getElem?,show o < xs.size by omega]
        have p1:=run_part_plain (P:=P) w hpk hgx
        have ih':=ih (o+1) hl' (fun i hi=>by have:=hx (i+1) (by simpa using hi);omega)
        have p3:(Instr.checkKey em (n+1) f.type (xs.getD o undef)).run P w = .ok () w:=by
         rw [Instr.checkKey]
         simp only [Sem.run_bind,run_underlying hu,Result.andThen_ok]
         rfl
        rw [← ho] at p1 p3
        simp only [List.forIn_cons,hn,ne_eq,not_false_eq_true,if_true,Sem.run_bind,p1,p3,Result.andThen_ok,Sem.run_pure]
        exact ih'
       ·cases ht
     ·cases ht
 ·rename_i m e hfs
  split at ht
  ·rename_i k hue
   cases hc:Nat.beq (P.cellsOf e) 1 with
   | false=>rw [hc] at ht;cases ht
   | true =>
    rw [hc,cond_true] at ht
    obtain rfl:=Option.some.inj ht
    obtain ⟨i,hi⟩:=info_of_underlying hue
    cases hv with
    | agg _ xs h1 h2 h3 =>
     have e1:=zes hk
     rw [List.length_replicate] at e1
     have hx : ∀ i,i < m→xs.size > 0+i:=fun i hi=>by omega
     have hpk:P.plainKey e=true:=by unfold Program.plainKey;rw [hue]
     rw [Instr.checkKey]
     simp only [Sem.run_bind,run_underlying hfs,Result.andThen_ok]
     simp only [Std.Legacy.Range.forIn_eq_forIn_range',Std.Legacy.Range.size,Nat.sub_zero,Nat.add_one_sub_one,Nat.div_one]
     clear hfs e1 h1 h2 h3 hk
     generalize 0=o at hx ⊢
     clear ht
     induction m generalizing o with
     | zero=>simp
     | succ m ih =>
      have hx0:=hx 0 (by omega)
      have hgx:xs[o]? = some (xs.getD o undef):=by simp [Array.getD_eq_getD_getElem?,show o < xs.size by omega]
      have p1:=run_part_plain (P:=P) w hpk hgx
      have p3:(Instr.checkKey em (n+1) e (xs.getD o undef)).run P w = .ok () w:=by
       rw [Instr.checkKey]
       simp only [Sem.run_bind,run_underlying hue,Result.andThen_ok]
       rfl
      have ih':=ih (o+1) (fun i hi=>by have:=hx (i+1) (by omega);omega)
      rw [List.range'_succ]
      simp only [List.forIn_cons,Sem.run_bind,run_sizeOf w hi,Nat.eq_of_beq_eq_true hc,Nat.mul_one,p1,p3,Result.andThen_ok,Sem.run_pure]
      exact ih'
  ·cases ht
 ·cases ht
theorem zyp {X:Nat→Prop} {x y:D} {v u:Value} {k:IntKind} (hk:x.hasKind (.int k)=true) (hv:zj X w x v) (hu:zj X w y u) (h:D.same x y=some true):u=v:=by
 cases hv with
 | int k1 n hne =>
  cases hu with
  | int k2 m hne2 =>
   simp only [D.same] at h
   by_cases hkk:k1=k2
   ·subst hkk
    simp at h
    rw [h]
   ·simp [hkk] at h
  | _=>simp [D.same] at h
 | u64 p =>
  cases hu with
  | u64 q =>
   simp only [D.same,Option.some.injEq,decide_eq_true_eq] at h
   rw [h]
  | _=>simp [D.same] at h
 | _=>cases k<;>simp [D.hasKind] at hk
def zdo:List KK→Bool
 | []=>true
 | .int _::r=>zdo r
 | _=>false
theorem zg5 : ∀ {fs:List Field} {o:Nat} {l:List KK},zcY P fs o=some l→zdo l=true
 | [],o,l,h=>by
  simp only [zcY,Option.some.injEq] at h
  subst h;rfl
 | f::r,o,l,h=>by
  unfold zcY at h
  split at h
  ·cases hc:(f.name != "_" && Nat.beq f.offset o) with
   | false=>rw [hc] at h;cases h
   | true =>
    rw [hc,cond_true] at h
    split at h
    ·rename_i l' hl'
     obtain rfl:=Option.some.inj h
     show zdo l'=true
     exact zg5 hl'
    ·cases h
  ·cases h
theorem zrI {X:Nat→Prop} : ∀ {l:List KK} {ds es:List D},zdo l=true→zah l ds=true→zb9 ds es=some true → ∀ (xs ys:Nat→Value),(∀ i,i < ds.length→zj X w (ds.getD i .nil) (xs i))→(∀ i,i < ds.length→zj X w (es.getD i .nil) (ys i)) → ∀ i,i < ds.length→ys i=xs i
 | l,[],es,_,_,_,xs,ys,_,_,i,hi=>by simp at hi
 | [],x::r,es,_,hk,_,xs,ys,_,_,i,hi=>by simp [zah] at hk
 | k::l,x::r,[],_,_,hs,xs,ys,_,_,i,hi=>by simp [zb9] at hs
 | k::l,x::r,y::s,ha,hk,hs,xs,ys,hx,hy,i,hi=>by
  cases k with
  | int k =>
   simp only [zdo] at ha
   simp only [zah,Bool.and_eq_true] at hk
   simp only [zb9] at hs
   split at hs
   ·rename_i p q hp hq
    simp only [Option.some.injEq,Bool.and_eq_true] at hs
    obtain ⟨rfl,rfl⟩:=hs
    cases i with
    | zero =>
     have h1:=hx 0 (by simp)
     have h2:=hy 0 (by simp)
     exact zyp hk.1 (by simpa using h1) (by simpa using h2) hp
    | succ i =>
     exact zrI ha hk.2 hq (fun i=>xs (i+1)) (fun i=>ys (i+1)) (fun i hi=>by have:=hx (i+1) (by simpa using hi);simpa using this) (fun i hi=>by have:=hy (i+1) (by simpa using hi);simpa using this) i (by simpa using hi)
   ·cases hs
  | _=>simp [zdo] at ha
theorem zvd {k:IntKind} : ∀ n,zdo (List.replicate n (.int k))=true
 | 0=>rfl
 | n+1=>zvd n
theorem zuO {n:Nat} {e:TypeId} {l:List KK} (ht:(match P.underlying e with
  | some (.int k)=>cond (Nat.beq (P.cellsOf e) 1) (some (List.replicate n (KK.int k))) none
  | _=>none)=some l):zdo l=true:=by
 split at ht
 ·cases hc:Nat.beq (P.cellsOf e) 1 with
  | false=>rw [hc] at ht;cases ht
  | true=>rw [hc,cond_true] at ht;obtain rfl:=Option.some.inj ht;exact zvd n
 ·cases ht
theorem zAn {X:Nat→Prop} {t:TypeId} {l:List KK} {ds es:List D} {v u:Value} (ht:za2 P t=some l) (hk:zah l ds=true) (hv:zj X w (.agg ds) v) (hu:zj X w (.agg es) u) (hs:zb9 ds es=some true):u=v:=by
 have ha:zdo l=true:=by
  unfold za2 at ht
  split at ht
  ·cases hst:P.stoodInHeld t with
   | true=>rw [hst] at ht;cases ht
   | false=>rw [hst,cond_false] at ht;exact zg5 ht
  ·exact zuO ht
  ·cases ht
 cases hv with
 | agg _ xs h1 h2 h3 =>
  cases hu with
  | agg _ ys g1 g2 g3 =>
   have e2:=ziZ hs
   have:=zrI ha hk hs (fun i=>xs.getD i undef) (fun i=>ys.getD i undef) h3 (fun i hi=>g3 i (by omega))
   congr 1
   refine Array.ext (by omega) fun i hi hj=>?_
   have:=this i (by omega)
   simpa [Array.getD_eq_getD_getElem?,hi,hj] using this
theorem znA {X:Nat→Prop} {t:TypeId} {l:List KK} {ds:List D} {v:Value} (ht:za2 P t=some l) (hk:zah l ds=true) (hv:zj X w (.agg ds) v) : ∀ (es:List (D×D)) (lst:List MapEntry) (i:Nat) (r:Option D),es.length=lst.length →
  (∀ j,j < es.length→zj X w (es.getD j (.nil,.nil)).1 (lst.getD j default).key)→(∀ j,j < es.length→zj X w (es.getD j (.nil,.nil)).2 (lst.getD j default).val)→zF es (.agg ds)=some r →
  (r=none∧(Instr.findAsking t v lst i).run P w = .ok none w) ∨ ∃ j x,r=some x∧j < es.length∧(Instr.findAsking t v lst i).run P w = .ok (some (i+j,(lst.getD j default).val)) w∧zj X w x (lst.getD j default).val∧(lst.getD j default).key=v ∧ ∀ y,zkX es (.agg ds) y=es.set j (.agg ds,y)
 | [],[],i,r,_,_,_,h=>by simp only [zF,Option.some.injEq] at h;subst h;exact .inl ⟨rfl,by simp [Instr.findAsking]⟩
 | [],_::_,_,_,hl,_,_,_=>by simp at hl
 | _::_,[],_,_,hl,_,_,_=>by simp at hl
 | (x,z)::es,e::lst,i,r,hl,hkey,hval,h=>by
  have h0:=hkey 0 (by simp)
  simp only [List.getD_cons_zero] at h0
  simp only [zF] at h
  have hag : ∀ {b},D.eqk (.agg ds) x=some b → ∃ es',x = .agg es'∧zb9 ds es'=some b:=fun {b} hb=>by
   cases x<;>simp [D.eqk,D.same] at hb
   exact ⟨_,rfl,hb⟩
  split at h
  ·rename_i hs
   cases h
   obtain ⟨es',rfl,hs'⟩:=hag hs
   have g1:=zlO ht hk hv h0 hs'
   have g2:=zAn ht hk hv h0 hs'
   refine .inr ⟨0,z,rfl,by simp,?_,?_,by simpa using g2,fun y=>?_⟩
   ·simp [Instr.findAsking,g1]
   ·have:=hval 0 (by simp);simpa using this
   ·simp [zkX,hs]
  ·rename_i hs
   obtain ⟨es',rfl,hs'⟩:=hag hs
   have g1:=zlO ht hk hv h0 hs'
   rcases znA ht hk hv es lst (i+1) r (by simpa using hl) (fun j hj=>by have:=hkey (j+1) (by simpa using hj);simpa using this) (fun j hj=>by have:=hval (j+1) (by simpa using hj);simpa using this) h with ⟨rfl,h2⟩|⟨j,y,rfl,h2,h3,h4,h5,h6⟩
   ·exact .inl ⟨rfl,by simp [Instr.findAsking,g1,h2]⟩
   ·refine .inr ⟨j+1,y,rfl,by simpa using h2,?_,by simpa using h4,by simpa using h5,fun y=>?_⟩
    ·simp [Instr.findAsking,g1,h3];omega
    ·simp [zkX,hs,h6]
  ·cases h
theorem zmw {X:Nat→Prop} : ∀ {l:List KK} {ds:List D} (xs:List Value),zdo l=true→zah l ds=true→ds.length=xs.length→(∀ i,i < ds.length→zj X w (ds.getD i .nil) (xs.getD i undef))→(xs.zip xs).all (fun (x,y)=>Instr.sameBits 9999 x y)=true
 | l,[],[],_,_,_,_=>rfl
 | l,[],_::_,_,_,h,_=>by simp at h
 | l,_::_,[],_,_,h,_=>by simp at h
 | [],x::r,_::_,_,hk,_,_=>by simp [zah] at hk
 | k::l,x::r,y::s,ha,hk,hl,hs=>by
  cases k with
  | int k =>
   simp only [zdo] at ha
   simp only [zah,Bool.and_eq_true] at hk
   have h0:=hs 0 (by simp)
   simp only [List.getD_cons_zero] at h0
   have ih:=zmw s ha hk.2 (by simpa using hl) (fun i hi=>by have:=hs (i+1) (by simpa using hi);simpa using this)
   have h1:Instr.sameBits 9999 y y=true:=by
    cases h0 with
    | int k1 n hne=>simp [Instr.sameBits]
    | u64 p=>simp [Instr.sameBits]
    | _=>cases k<;>simp [D.hasKind] at hk
   simp only [List.zip_cons_cons,List.all_cons,h1,Bool.true_and]
   exact ih
  | _=>simp [zdo] at ha
theorem zlf {t:TypeId} {l:List KK} (ht:za2 P t=some l):zdo l=true∧(match P.underlying t with|some (.array _ _)|some (.struct _)=>true|_=>false)=true:=by
 unfold za2 at ht
 split at ht
 ·rename_i fs hfs
  cases hst:P.stoodInHeld t with
  | true=>rw [hst] at ht;cases ht
  | false=>rw [hst,cond_false] at ht;exact ⟨zg5 ht,by rw [hfs]⟩
 ·rename_i n e hfs
  exact ⟨zuO ht,by rw [hfs]⟩
 ·cases ht
theorem zyn {X:Nat→Prop} {t:TypeId} {l:List KK} {ds:List D} {v:Value} (ht:za2 P t=some l) (hk:zah l ds=true) (hv:zj X w (.agg ds) v):Instr.sameBits 10000 v v=true:=by
 have ha:=(zlf ht).1
 cases hv with
 | agg _ xs h1 h2 h3 =>
  show Instr.sameBits (9999+1) (.agg xs) (.agg xs)=true
  simp only [Instr.sameBits,beq_self_eq_true,Bool.true_and]
  exact zmw xs.toList ha hk (by simpa using h1) (fun i hi=>by have:=h3 i hi;simpa [List.getD,Array.getD_eq_getD_getElem?] using this)
theorem zvk {B:zx} {ρ:Nat→V} {M:Nat→Option Ob} {F:Nat→Prop} {σ:Nat→Option Nat} {a:Act} (h:Sim B ρ M F σ a w) {C:zh} {o:Oper} {neg:Bool} {t u':TypeId} {l:List KK} {x y:Operand} {x' y':Arg} {n:Nat} {v:V} {u:Upd} {k:Nat}
  (ho:o.op = .binOp (cond neg .neq .eql) t x y u') (ht:zkz P t=some l)
  (hx:arg P t x=some x') (hy:arg P t y=some y') (hout:(zm (.eqS neg l x' y') ρ M n).Out C M n v u k):Res P B ρ M F a w o n v u k:=by
 have hxs:=zW h hx
 have hys:=zW h hy
 have hd : ∀ c,o.op ≠ .defer c:=by rw [ho];simp
 simp only [zm] at hout
 generalize hvx:x'.ev ρ=vx at hout hxs
 generalize hvy:y'.ev ρ=vy at hout hys
 have hg:P.eqGuardType P.depth t=false∧za2 P t=some l:=by
  unfold zkz at ht
  cases hg:P.eqGuardType P.depth t with
  | true=>rw [hg] at ht;cases ht
  | false=>rw [hg] at ht;exact ⟨rfl,ht⟩
 unfold zvL at hout
 split at hout
 ·rename_i ds es
  cases hk:zah l ds with
  | false=>rw [hk] at hout;exact hout.elim
  | true =>
   rw [hk,cond_true] at hout
   split at hout
   ·rename_i b hb
    obtain ⟨rfl,rfl,rfl⟩:=hout
    cases hxs with
    | d _ _ hx1 =>
     cases hys with
     | d _ _ hy1 =>
      have hr:=zlO hg.2 hk hx1 hy1 hb
      generalize hav:a.eval x=av at *
      generalize hbv:a.eval y=bv at *
      refine Res.val h hd (zdF ho ?_ (v := .bool (cond neg (!b) b)) ?_) (zaX _)
      ·rw [hav,hbv]
       cases hx1 with
       | agg _ xs h1 h2 h3 =>
        cases hy1 with
        | agg _ ys g1 g2 g3 =>
         unfold eqGuard
         have hp:(program).run P w = .ok P w:=run_program P w
         cases neg<;>simp [hp,hg.1]
      ·rw [hav,hbv]
       cases hx1 with
       | agg _ xs h1 h2 h3 =>
        cases hy1 with
        | agg _ ys g1 g2 g3 =>
         cases neg<;>simp [binOp,hr]
   ·exact hout.elim
 ·exact hout.elim
theorem zxT {B:zx} {ρ:Nat→V} {M:Nat→Option Ob} {F:Nat→Prop} {σ:Nat→Option Nat} {a:Act} (h:Sim B ρ M F σ a w) {C:zh} {o:Oper} {mx:Bool} {t u':TypeId} {x y:Operand} {x' y':Arg} {n:Nat} {v:V} {u:Upd} {k:Nat}
  (ho:o.op = .call { callee := .builtin (cond mx .max .min),args := #[x,y],argTypes := #[t,u'] })
  (hx:zN P x=some x') (hy:zN P y=some y') (hout:(zm (.mm mx x' y') ρ M n).Out C M n v u k):Res P B ρ M F a w o n v u k:=by
 have hxs:=zO h hx
 have hys:=zO h hy
 have hd : ∀ c,o.op ≠ .defer c:=by rw [ho];simp
 simp only [zm] at hout
 generalize hvx:x'.ev ρ=vx at hout hxs
 generalize hvy:y'.ev ρ=vy at hout hys
 unfold mmV at hout
 split at hout
 ·rename_i k1 p k2 q
  obtain ⟨e1,h1⟩:=zbu hxs
  obtain ⟨e2,-⟩:=zbu hys
  by_cases hk:k1=k2
  ·subst hk
   simp only [decide_true,cond_true] at hout
   have hout:(vd (.int k1 (cond mx (max p q) (min p q)))).Out C M n v u k:=by cases mx<;>exact hout
   obtain ⟨rfl,rfl,rfl⟩:=hout
   refine Res.val h hd (v' := .int k1 (cond mx (max p q) (min p q))) ?_ (zat h1)
   cases mx
   ·have:(if q < p then q else p)=min p q:=by rw [Int.min_def];split<;>split<;>omega
    simp [execOp,ho,resolve,invoke,builtin,Builtin.min_,Builtin.min2,e1,e2,this]
   ·have:(if p < q then q else p)=max p q:=by rw [Int.max_def];split<;>split<;>omega
    simp [execOp,ho,resolve,invoke,builtin,Builtin.max_,Builtin.max2,e1,e2,this]
  ·simp only [hk,decide_false,cond_false] at hout
   exact hout.elim
 ·exact hout.elim
end
end Go.Ab
namespace Go.Ab
open Go Go.MapKept
section
variable {P : Program} {B : zx} {ρ : Nat → V} {M : Nat → Option Ob} {F : Nat → Prop} {σ : Nat → Option Nat} {a : Act} {w : World}
theorem zuA {t : TypeId} {kk : KK} (h : zgo P t = some kk) : (∃ d, P.underlying t = some d ∧ ((∃ k, d = .int k ∧ kk = .int k) ∨ (d = .string ∧ kk = .str) ∨ (d = .bool ∧ kk = .bool))) ∨ ∃ l, kk = .agg l ∧ za2 P t = some l := by
  unfold zgo at h
  split at h
  · rename_i k hd; cases h; exact .inl ⟨_, hd, .inl ⟨k, rfl, rfl⟩⟩
  · rename_i hd; cases h; exact .inl ⟨_, hd, .inr (.inl ⟨rfl, rfl⟩)⟩
  · rename_i hd; cases h; exact .inl ⟨_, hd, .inr (.inr ⟨rfl, rfl⟩)⟩
  · obtain ⟨l, hl, rfl⟩ := Option.map_eq_some_iff.1 h
    exact .inr ⟨l, rfl, hl⟩
  · obtain ⟨l, hl, rfl⟩ := Option.map_eq_some_iff.1 h
    exact .inr ⟨l, rfl, hl⟩
  · cases h
theorem zux {X : Nat → Prop} {d : TypeDesc} {kk : KK} (hk : (∃ k, d = .int k ∧ kk = .int k) ∨ (d = .string ∧ kk = .str) ∨ (d = .bool ∧ kk = .bool)) {x : D} {v : Value} (h : x.hasKind kk = true) (hv : zj X w x v) : IsKey d v := by
  rcases hk with ⟨k, rfl, rfl⟩ | ⟨rfl, rfl⟩ | ⟨rfl, rfl⟩
  · cases x with
    | int k' n =>
      cases hv with
      | int _ _ hne =>
        simp only [IsKey]
        cases k <;> simp [D.hasKind] at h <;> exact h.symm
    | u64 b =>
      cases hv
      cases k <;> simp [D.hasKind] at h
      rfl
    | _ => cases k <;> simp [D.hasKind] at h
  · cases x <;> simp [D.hasKind] at h
    cases hv; trivial
  · cases x <;> simp [D.hasKind] at h
    cases hv; trivial
theorem ztT {X : Nat → Prop} {d : TypeDesc} {x y : D} {v u : Value} {b : Bool} (hv : zj X w x v) (hu : zj X w y u) (hk : IsKey d v) (h : D.eqk x y = some b) :
    Instr.sameNow d v u = some b ∧ (b = true → u = v) := by
  cases hv with
  | bool p =>
    cases y <;> simp [D.eqk, D.same] at h
    cases hu
    cases d <;> simp [IsKey] at hk
    subst h
    rename_i q
    exact ⟨rfl, fun e => by have : p = q := by simpa using e
                            rw [this]⟩
  | int k n hne =>
    cases y <;> simp only [D.eqk, D.same, reduceCtorEq] at h
    rename_i k' m
    cases hu
    by_cases hkk : k = k'
    · subst hkk
      simp at h
      subst h
      cases d <;> simp [IsKey] at hk
      refine ⟨by simp [Instr.sameNow, zjO], fun e => by rw [of_decide_eq_true e]⟩
    · simp [hkk] at h
  | u64 p =>
    cases y <;> simp [D.eqk, D.same] at h
    rename_i q
    cases hu
    subst h
    cases d <;> simp [IsKey] at hk
    exact ⟨by simp only [Instr.sameNow, if_true, zm0], fun e => by rw [of_decide_eq_true e]⟩
  | str p =>
    cases y <;> simp [D.eqk, D.same] at h
    rename_i q
    cases hu
    subst h
    cases d <;> simp [IsKey] at hk
    have e : ((⟨p.toArray⟩ : ByteArray) == ⟨q.toArray⟩) = decide (p = q) := by
      rw [Bool.eq_iff_iff, bytes_beq]
      constructor
      · intro h; cases h; simp
      · intro h; have := of_decide_eq_true h; subst this; rfl
    exact ⟨by simp only [Instr.sameNow, e], fun e => by rw [of_decide_eq_true e]⟩
  | _ => cases d <;> simp [IsKey] at hk
theorem zre {X : Nat → Prop} {d : TypeDesc} {kd : D} {v : Value} (hv : zj X w kd v) (hk : IsKey d v) : ∀ (es : List (D × D)) (l : List MapEntry) (i : Nat) (r : Option D), es.length = l.length →
    (∀ j, j < es.length → zj X w (es.getD j (.nil, .nil)).1 (l.getD j default).key) → (∀ j, j < es.length → zj X w (es.getD j (.nil, .nil)).2 (l.getD j default).val) → zF es kd = some r →
    (r = none ∧ Instr.findNow d v l i = some none) ∨ ∃ j x, r = some x ∧ j < es.length ∧ Instr.findNow d v l i = some (some (i + j, (l.getD j default).val)) ∧ zj X w x (l.getD j default).val ∧ (l.getD j default).key = v ∧ ∀ y, zkX es kd y = es.set j (kd, y)
  | [], [], i, r, _, _, _, h => by simp only [zF, Option.some.injEq] at h; subst h; exact .inl ⟨rfl, rfl⟩
  | [], _ :: _, _, _, hl, _, _, _ => by simp at hl
  | _ :: _, [], _, _, hl, _, _, _ => by simp at hl
  | (x, z) :: es, e :: l, i, r, hl, hkey, hval, h => by
    have h0 := hkey 0 (by simp)
    simp only [List.getD_cons_zero] at h0
    simp only [zF] at h
    split at h
    · rename_i hs
      cases h
      obtain ⟨g1, g2⟩ := ztT hv h0 hk hs
      refine .inr ⟨0, z, rfl, by simp, ?_, ?_, g2 rfl, fun y => ?_⟩
      · simp [Instr.findNow, g1]
      · have := hval 0 (by simp); simpa using this
      · simp [zkX, hs]
    · rename_i hs
      obtain ⟨g1, -⟩ := ztT hv h0 hk hs
      rcases zre hv hk es l (i + 1) r (by simpa using hl) (fun j hj => by have := hkey (j + 1) (by simpa using hj); simpa using this) (fun j hj => by have := hval (j + 1) (by simpa using hj); simpa using this) h with ⟨rfl, h2⟩ | ⟨j, y, rfl, h2, h3, h4, h5, h6⟩
      · exact .inl ⟨rfl, by simp [Instr.findNow, g1, h2]⟩
      · refine .inr ⟨j + 1, y, rfl, by simpa using h2, ?_, by simpa using h4, by simpa using h5, fun y => ?_⟩
        · simp [Instr.findNow, g1, h3]; omega
        · simp [zkX, hs, h6]
    · cases h
theorem zdJ {r : Nat} {es : Array MapEntry} {clock : Nat} (hb : w.heap[r]? = some (.map es clock)) : (getObj r).run P w = .ok (.map es clock) w := by
  simp [getObj, Sem.run, hb]
theorem ztw (h : Sim B ρ M F σ a w) {x : V} {v : Value} (hx : VSim σ M F (B.X σ M) w x v) {es : List (D × D)} (he : (x = .d (.map es)) ∨ ∃ id, x = .map id ∧ M id = some (.map es)) :
    ∃ m ents clock, v = .map (some m) ∧ w.heap[m]? = some (.map ents clock) ∧ es.length = ents.size ∧ zfH ents clock ∧
      (∀ i, i < es.length → zj (B.X σ M) w (es.getD i (.nil, .nil)).1 (ents.getD i default).key) ∧ (∀ i, i < es.length → zj (B.X σ M) w (es.getD i (.nil, .nil)).2 (ents.getD i default).val) := by
  rcases he with rfl | ⟨id, rfl, hm⟩
  · cases hx with
    | d _ _ hy => cases hy with
      | map _ m ents clock h1 h2 h3 h4 h5 h6 h7 => exact ⟨m, ents, clock, rfl, h3, h4, h5, h6, h7⟩
  · cases hx with
    | map _ es' b g1 g2 =>
      rw [hm] at g1; cases g1
      cases h.mem id _ hm with
      | map _ b' ents clock k1 k2 k3 k4 k5 k6 =>
        rw [g2] at k1; cases k1
        exact ⟨b, ents, clock, rfl, k2, k3, k4, k5, k6⟩
    | mapDead _ _ g1 => rw [hm] at g1; cases g1
theorem zc6 {ents : Array MapEntry} {j : Nat} : ents.toList.getD j default = ents.getD j default := by
  simp [List.getD, Array.getD_eq_getD_getElem?]
def zjL (r : Option (Nat × Value)) (zv : Value) : Value := match r with
  | some p => p.2
  | none => zv
theorem ztS {d : TypeDesc} {v : Value} (h : IsKey d v) (n : Nat) : Instr.sameBits n v v = true := by
  cases d <;> cases v <;> simp_all [IsKey, Instr.sameBits]
  exact (bytes_beq _ _).2 rfl
structure zwt (P : Program) (w : World) (kt : TypeId) (kd : D) (kv : Value) : Prop where
  check : ∀ b, (Instr.checkKey b 10000 kt kv).run P w = .ok () w
  bits : Instr.sameBits 10000 kv kv = true
  find : ∀ (X : Nat → Prop) (es : List (D × D)) (l : List MapEntry) (r : Option D), zj X w kd kv → es.length = l.length →
    (∀ j, j < es.length → zj X w (es.getD j (.nil, .nil)).1 (l.getD j default).key) → (∀ j, j < es.length → zj X w (es.getD j (.nil, .nil)).2 (l.getD j default).val) → zF es kd = some r →
    (r = none ∧ (Instr.findKey kt kv l).run P w = .ok none w) ∨ ∃ j x, r = some x ∧ j < es.length ∧ (Instr.findKey kt kv l).run P w = .ok (some (j, (l.getD j default).val)) w ∧ zj X w x (l.getD j default).val ∧ (l.getD j default).key = kv ∧ ∀ y, zkX es kd y = es.set j (kd, y)
theorem zxe {X : Nat → Prop} {kt : TypeId} {kk : KK} {kd : D} {kv : Value} (hkk : zgo P kt = some kk) (hk : kd.isKey kk = true) (hv : zj X w kd kv) : zwt P w kt kd kv := by
  rcases zuA hkk with ⟨d, hud, hkd⟩ | ⟨l, rfl, hl⟩
  · have hk' : kd.hasKind kk = true := by
      rcases hkd with ⟨k, -, rfl⟩ | ⟨-, rfl⟩ | ⟨-, rfl⟩ <;> cases kd <;> exact hk
    have hik := zux hkd hk' hv
    refine ⟨fun b => run_checkKey hud hik b 9999, ztS hik _, fun X es l r hv hl h5 h6 hr => ?_⟩
    rcases zre hv hik es l 0 r hl h5 h6 hr with ⟨rfl, hf⟩ | ⟨j, y, rfl, hj, hf, hy, g1, g2⟩
    · exact .inl ⟨rfl, run_findKey hud hf⟩
    · rw [Nat.zero_add] at hf
      exact .inr ⟨j, y, rfl, hj, run_findKey hud hf, hy, g1, g2⟩
  · cases kd with
    | agg ds =>
      have hk : zah l ds = true := hk
      obtain ⟨ha, hfs⟩ := zlf hl
      refine ⟨fun b => zwI (n := 9998) hl hk hv, zyn hl hk hv, fun X es lst r hv hlen h5 h6 hr => ?_⟩
      have hfk : (Instr.findKey kt kv lst).run P w = (Instr.findAsking kt kv lst 0).run P w := run_findKey_eq w hfs kv lst
      rcases znA hl hk hv es lst 0 r hlen h5 h6 hr with ⟨rfl, hf⟩ | ⟨j, y, rfl, hj, hf, hy, g1, g2⟩
      · exact .inl ⟨rfl, by rw [hfk, hf]⟩
      · rw [Nat.zero_add] at hf
        exact .inr ⟨j, y, rfl, hj, by rw [hfk, hf], hy, g1, g2⟩
    | _ => cases hk
theorem zwg {t kt e : TypeId} {kd : D} {kv : Value} (ht : P.underlying t = some (.map kt e)) (hkr : zwt P w kt kd kv) {zv : Value} (hz : ∀ w, (zeroValue e).run P w = .ok zv w)
    {ok : Bool} {m : Nat} {ents : Array MapEntry} {clock : Nat} (hm : w.heap[m]? = some (.map ents clock)) {r : Option (Nat × Value)} (hfk : (Instr.findKey kt kv ents.toList).run P w = .ok r w) :
    (Instr.lookup t (.map (some m)) kv ok).run P w = .ok (if ok then .tuple #[zjL r zv, .bool r.isSome] else zjL r zv) w := by
  have hck := hkr.check
  cases r with
  | none => simp [Instr.lookup, run_underlying ht, zdJ hm, hck, hfk, hz, zjL]
  | some p => obtain ⟨i, v⟩ := p; simp [Instr.lookup, run_underlying ht, zdJ hm, hck, hfk, zjL]
theorem zx5 {t : TypeId} {z : V} (h : zso P t = some z) : ∃ zv, (∀ w, (zeroValue t).run P w = .ok zv w) ∧ VSim σ M F (B.X σ M) w z zv := by
  unfold zso at h
  split at h
  · rename_i v hv
    obtain ⟨i, hi, hz⟩ := Option.bind_eq_some_iff.1 hv
    exact ⟨v, fun w => by simp [zeroValue, typeInfo, hi, hz], zku h⟩
  · cases h
theorem zzy (h : Sim B ρ M F σ a w) {C : zh} {o : Oper} {t kt e : TypeId} {x kx : Operand} {x' k' : Arg} {kk : KK} {z : V} {ok : Bool} {n : Nat} {v : V} {u : Upd} {k : Nat}
    (ho : o.op = .lookup t x kx ok) (ht : P.underlying t = some (.map kt e)) (hkk : zgo P kt = some kk) (hz : zso P e = some z) (hx : zN P x = some x') (hkx : arg P kt kx = some k')
    (hout : (zm (.look kk [z] x' k' ok) ρ M n).Out C M n v u k) : Res P B ρ M F a w o n v u k := by
  have hd : ∀ c, o.op ≠ .defer c := by rw [ho]; simp
  have hxs := zO h hx
  have hks := zW h hkx
  simp only [zm] at hout
  generalize x'.ev ρ = vx at hout hxs
  generalize k'.ev ρ = vk at hout hks
  obtain ⟨zv, hzr, hzs⟩ := zx5 (B := B) (σ := σ) (M := M) (F := F) (w := w) hz
  unfold ziU at hout
  split at hout
  · rename_i kd
    by_cases hkind : kd.isKey kk = true
    · rw [hkind, cond_true] at hout
      cases hks with
      | d _ _ hkv =>
        have hkr := zxe hkk hkind hkv
        have fin : ∀ es, (ziU.go [z] ok es kd).Out C M n v u k → ((vx = .d (.map es)) ∨ ∃ id, vx = .map id ∧ M id = some (.map es)) → Res P B ρ M F a w o n v u k := by
          intro es hout he
          obtain ⟨r, hr, hout⟩ := hout
          obtain ⟨m, ents, clock, h1, h2, h3, h4, h5, h6⟩ := ztw h hxs he
          have hexec : ∀ r', (Instr.findKey kt (a.eval kx) ents.toList).run P w = .ok r' w → (execOp a.eval o).run P w = .ok (.value (if ok then .tuple #[zjL r' zv, .bool r'.isSome] else zjL r' zv)) w := by
            intro r' hf
            have := zwg (ok := ok) ht hkr hzr h2 hf
            rw [← h1] at this
            simp [execOp, ho, this]
          rcases hkr.find _ es ents.toList r hkv (by simpa using h3) (fun j hj => by rw [zc6]; exact h5 j hj) (fun j hj => by rw [zc6]; exact h6 j hj) hr with ⟨rfl, hf⟩ | ⟨j, y, rfl, hj, hf, hy, -, -⟩
          · have hx := hexec _ hf
            cases ok with
            | false =>
              obtain ⟨rfl, rfl, rfl⟩ := zdB hout
              exact Res.val h hd hx hzs
            | true =>
              obtain ⟨rfl, rfl, rfl⟩ := hout
              refine Res.val h hd hx (.tup _ _ rfl fun i hi => ?_)
              match i, hi with
              | 0, _ => exact hzs
              | 1, _ => exact .bf
          · have hx := hexec _ hf
            cases ok with
            | false =>
              obtain ⟨rfl, rfl, rfl⟩ := hout
              exact Res.val h hd hx (.d _ _ hy)
            | true =>
              obtain ⟨rfl, rfl, rfl⟩ := hout
              refine Res.val h hd hx (.d _ _ (.tup _ _ rfl fun i hi => ?_))
              match i, hi with
              | 0, _ => exact hy
              | 1, _ => exact .bool true
        split at hout
        · exact fin _ hout (.inl rfl)
        · split at hout
          · rename_i hm; exact fin _ hout (.inr ⟨_, rfl, hm⟩)
          · exact hout.elim
        · exact hout.elim
    · rw [zd hkind] at hout; exact hout.elim
  · exact hout.elim
theorem zxS (h : Sim B ρ M F σ a w) {C : zh} {o : Oper} {t : TypeId} {n : Nat} {v : V} {u : Upd} {k : Nat} (hn : 0 < k → F n)
    (ho : o.op = .makeMap t none) (hout : (zm .mkmap ρ M n).Out C M n v u k) : Res P B ρ M F a w o n v u k := by
  have hd : ∀ c, o.op ≠ .defer c := by rw [ho]; simp
  obtain ⟨rfl, rfl, rfl⟩ := hout
  have hpush : zcs w (w.alloc (.map #[] 0)) (.map #[] 0) := ⟨⟨rfl, rfl, rfl⟩, rfl⟩
  refine zkd h (hn Nat.one_pos) hd (v' := .map (some w.heap.size)) (by simp [execOp, ho, Instr.makeMap]) hpush (fun _ => by simp) (fun tn => ?_) ?_
  · exact .map [] w.heap.size #[] 0 (by simp [zu]) hpush.new rfl ⟨fun i j hi => by simp at hi, fun i hi => by simp at hi⟩ (fun i hi => by simp at hi) (fun i hi => by simp at hi)
  · exact .map n [] w.heap.size (by simp [zg]) (by simp [zu])
theorem zzv (h : Sim B ρ M F σ a w) {C : zh} {o : Oper} {t kt e : TypeId} {x : Operand} {x' : Arg} {n : Nat} {v : V} {u : Upd} {k : Nat}
    (ho : o.op = .call { callee := .builtin .len, args := #[x], argTypes := #[t] }) (ht : P.underlying t = some (.map kt e)) (hx : zN P x = some x')
    (hout : (zm (.lenm x') ρ M n).Out C M n v u k) : Res P B ρ M F a w o n v u k := by
  have hd : ∀ c, o.op ≠ .defer c := by rw [ho]; simp
  have hxs := zO h hx
  simp only [zm] at hout
  generalize x'.ev ρ = vx at hout hxs
  unfold zmT at hout
  have fin : ∀ es : List (D × D), (vd (.int .i64 es.length)).Out C M n v u k → ((vx = .d (.map es)) ∨ ∃ id, vx = .map id ∧ M id = some (.map es)) → Res P B ρ M F a w o n v u k := by
    intro es hout he
    obtain ⟨rfl, rfl, rfl⟩ := hout
    obtain ⟨m, ents, clock, h1, h2, h3, h4, h5, h6⟩ := ztw h hxs he
    refine Res.val h hd (v' := .int .i64 es.length) ?_ (zat (by simp))
    simp [execOp, ho, resolve, invoke, builtin, Builtin.len_, run_underlying ht, goInt, h1, zdJ h2, h3]
  split at hout
  · exact fin _ hout (.inl rfl)
  · split at hout
    · rename_i hm; exact fin _ hout (.inr ⟨_, rfl, hm⟩)
    · exact hout.elim
  · exact hout.elim
theorem zuI {ents : Array MapEntry} {clock : Nat} (h : zfH ents clock) (k v : Value) : zfH (ents.push { key := k, val := v, born := clock }) (clock + 1) := by
  have hget : ∀ i, (ents.push { key := k, val := v, born := clock }).getD i default = if i = ents.size then { key := k, val := v, born := clock } else ents.getD i default := by
    intro i
    simp only [Array.getD_eq_getD_getElem?, Array.getElem?_push]
    split <;> rfl
  refine ⟨fun i j hi hj he => ?_, fun i hi => ?_⟩
  · simp only [Array.size_push] at hi hj
    rw [hget, hget] at he
    by_cases e1 : i = ents.size <;> by_cases e2 : j = ents.size
    · omega
    · rw [if_pos e1, if_neg e2] at he
      have := h.lt j (by omega)
      have he : clock = (ents.getD j default).born := he
      omega
    · rw [if_neg e1, if_pos e2] at he
      have := h.lt i (by omega)
      have he : (ents.getD i default).born = clock := he
      omega
    · rw [if_neg e1, if_neg e2] at he
      exact h.inj i j (by omega) (by omega) he
  · simp only [Array.size_push] at hi
    rw [hget]
    split
    · simp
    · have := h.lt i (by omega); omega
theorem zuE {ents : Array MapEntry} {i j : Nat} {f : MapEntry → MapEntry} (hi : i < ents.size) : (ents.modify i f).getD j default = if j = i then f (ents.getD i default) else ents.getD j default := by
  simp only [Array.getD_eq_getD_getElem?, Array.getElem?_modify]
  by_cases h : j = i
  · subst h; simp [hi]
  · rw [if_neg h, if_neg (Ne.symm h)]
theorem zzz (h : Sim B ρ M F σ a w) {C : zh} {o : Oper} {t kt e : TypeId} {m kx x : Operand} {m' k' x' : Arg} {kk : KK} {n : Nat} {v : V} {u : Upd} {k : Nat}
    (ho : o.op = .mapUpdate t m kx x) (ht : P.underlying t = some (.map kt e)) (hkk : zgo P kt = some kk) (hm : zN P m = some m') (hkx : arg P kt kx = some k') (hx : arg P e x = some x')
    (hout : (zm (.mupd kk m' k' x') ρ M n).Out C M n v u k) : Res P B ρ M F a w o n v u k := by
  have hd : ∀ c, o.op ≠ .defer c := by rw [ho]; simp
  have hms := zO h hm
  have hks := zW h hkx
  have hxs := zW h hx
  simp only [zm] at hout
  generalize m'.ev ρ = vm at hout hms
  generalize k'.ev ρ = vk at hout hks
  generalize x'.ev ρ = vx at hout hxs
  unfold zmU at hout
  split at hout
  · rename_i id kd xd hfr
    split at hout
    · rename_i es hme
      by_cases hc : ((V.deepIds 30 vx).contains id || !kd.isKey kk) = true
      · rw [hc] at hout; exact hout.elim
      · rw [zd hc, cond_false] at hout
        simp only [Bool.or_eq_true, not_or, Bool.not_eq_true', Bool.not_eq_false] at hc
        obtain ⟨hnid, hkind⟩ := hc
        have hnid : id ∉ V.deepIds 30 vx := by simpa using hnid
        cases hks with
        | d _ _ hkv =>
          have hkr := zxe hkk hkind hkv
          have hM1 : ∀ j, zq (drops vx) M j = if j ∈ V.deepIds 30 vx then none else M j := fun j => zeD
          have hsub : ∀ j, zq (drops vx) M j ≠ none → M j ≠ none := by
            intro j hj; rw [hM1] at hj
            split at hj
            · exact absurd rfl hj
            · exact hj
          have h1 : Sim B ρ (zq (drops vx) M) F σ a w := h.drops (V.deepIds 30 vx)
          have hme1 : zq (drops vx) M id = some (.map es) := by rw [hM1, if_neg hnid]; exact hme
          have hxd : zj (B.X σ (zq (drops vx) M)) w xd (a.eval x) := (zcU h hsub false 30).1 vx xd _ hfr hxs (fun j hj => by rw [hM1, if_pos (by simpa [zaW] using hj)])
          have hkv1 : zj (B.X σ (zq (drops vx) M)) w kd (a.eval kx) := hkv.less (fun b => zkn hsub)
          generalize hvm : a.eval m = vmv at hms
          cases hms with
          | mapDead _ _ g1 => rw [hme] at g1; cases g1
          | map _ es' b g1 g2 =>
            rw [hme] at g1; cases g1
            cases h1.mem id _ hme1 with
            | map _ b' ents clock k1 k2 k3 k4 k5 k6 =>
              rw [g2] at k1; cases k1
              have hck := hkr.check
              obtain ⟨r, hr, hout⟩ := hout
              have hbut : ∀ o', But w { w with heap := w.heap.setIfInBounds b o' } b := fun o' => ⟨by simp, fun q hq => by simp [Array.getElem?_setIfInBounds_ne (Ne.symm hq)]⟩
              have hnew : ∀ o', ({ w with heap := w.heap.setIfInBounds b o' } : World).heap[b]? = some o' := fun o' => by simp [zz k2]
              have key : ∀ (es' : List (D × D)) (ents' : Array MapEntry) (clock' : Nat), (execOp a.eval o).run P w = .ok .skip { w with heap := w.heap.setIfInBounds b (.map ents' clock') } → es'.length = ents'.size → zfH ents' clock' →
                  (∀ i, i < es'.length → zj (B.X σ (zq (drops vx) M)) w (es'.getD i (.nil, .nil)).1 (ents'.getD i default).key) → (∀ i, i < es'.length → zj (B.X σ (zq (drops vx) M)) w (es'.getD i (.nil, .nil)).2 (ents'.getD i default).val) →
                  Res P B ρ M F a w o n .undef (drops vx ++ [(id, some (.map es'))]) 0 := by
                intro es' ents' clock' hrun q1 q2 q3 q4
                refine ⟨undef, _, σ, ⟨hd, .inr ⟨hrun, rfl⟩⟩, ?_, .undef _⟩
                rw [zca, zce]
                exact h1.setAny hme1 g2 (.map es es') ⟨rfl, rfl, rfl⟩ (hbut _) (fun c e hc => by rw [k2] at hc; cases hc) (fun _ => by simp) (fun tn =>
                  .map es' b ents' clock' g2 (hnew _) q1 q2 (fun i hi => (q3 i hi).mono tn.heap tn.sub) (fun i hi => (q4 i hi).mono tn.heap tn.sub))
              rcases hkr.find _ es ents.toList r hkv1 (by simpa using k3) (fun j hj => by rw [zc6]; exact k5 j hj) (fun j hj => by rw [zc6]; exact k6 j hj) hr with ⟨rfl, hf⟩ | ⟨j, y, rfl, hj, hf, hy, hkj, hset⟩
              · obtain ⟨rfl, rfl, rfl⟩ := hout
                have hfk := hf
                have hget : ∀ i, (ents.push { key := a.eval kx, val := a.eval x, born := clock }).getD i default = if i = ents.size then { key := a.eval kx, val := a.eval x, born := clock } else ents.getD i default := by
                  intro i
                  simp only [Array.getD_eq_getD_getElem?, Array.getElem?_push]
                  split <;> rfl
                have hgete : ∀ i, i < es.length + 1 → (es ++ [(kd, xd)]).getD i (.nil, .nil) = if i = es.length then (kd, xd) else es.getD i (.nil, .nil) := by
                  intro i hi
                  by_cases e : i = es.length
                  · subst e; simp [List.getD]
                  · rw [if_neg e]; simp [List.getD, List.getElem?_append_left (show i < es.length by omega)]
                refine key (es ++ [(kd, xd)]) (ents.push { key := a.eval kx, val := a.eval x, born := clock }) (clock + 1) ?_ (by simp [k3]) (zuI k4 _ _) (fun i hi => ?_) (fun i hi => ?_)
                · have hset := run_setObj_map (P := P) (.map (ents.push { key := a.eval kx, val := a.eval x, born := clock }) (clock + 1)) k2
                  simp [execOp, ho, hvm, Instr.mapUpdate, run_underlying ht, zdJ k2, hck, hfk, hset]
                · simp only [List.length_append, List.length_cons, List.length_nil] at hi
                  rw [hgete i hi, hget]
                  by_cases e : i = es.length
                  · rw [if_pos e, if_pos (by omega)]; exact hkv1
                  · rw [if_neg e, if_neg (by omega)]; exact k5 i (by omega)
                · simp only [List.length_append, List.length_cons, List.length_nil] at hi
                  rw [hgete i hi, hget]
                  by_cases e : i = es.length
                  · rw [if_pos e, if_pos (by omega)]; exact hxd
                  · rw [if_neg e, if_neg (by omega)]; exact k6 i (by omega)
              · obtain ⟨rfl, rfl, rfl⟩ := hout
                have hfk := hf
                rw [zc6] at hkj
                have hje : j < ents.size := by omega
                have hold : ((ents[j]?).map (·.key)).getD (a.eval kx) = a.eval kx := by
                  rw [← hkj]; simp [Array.getD_eq_getD_getElem?, hje]
                have hmod : ∀ i, (ents.modify j fun e => { e with key := a.eval kx, val := a.eval x }).getD i default = if i = j then { ents.getD j default with key := a.eval kx, val := a.eval x } else ents.getD i default := fun i => zuE hje
                rw [hset xd]
                have hgete : ∀ i, i < es.length → (es.set j (kd, xd)).getD i (.nil, .nil) = if i = j then (kd, xd) else es.getD i (.nil, .nil) := by
                  intro i hi
                  by_cases e : i = j
                  · subst e; simp [List.getD, hi]
                  · rw [if_neg e]; simp [List.getD, Ne.symm e]
                refine key (es.set j (kd, xd)) (ents.modify j fun e => { e with key := a.eval kx, val := a.eval x }) clock ?_ (by simp [k3]) ?_ (fun i hi => ?_) (fun i hi => ?_)
                · have hset := run_setObj_map (P := P) (.map (ents.modify j fun e => { e with key := a.eval kx, val := a.eval x }) clock) k2
                  simp [execOp, ho, hvm, Instr.mapUpdate, run_underlying ht, zdJ k2, hck, hfk, hold, Instr.keyThatStays, hkr.bits, hset]
                · refine ⟨fun p q hp hq he => ?_, fun p hp => ?_⟩
                  · simp only [Array.size_modify] at hp hq
                    rw [hmod, hmod] at he
                    refine k4.inj p q hp hq ?_
                    split at he <;> split at he <;> simp_all
                  · simp only [Array.size_modify] at hp
                    rw [hmod]
                    by_cases e : p = j
                    · rw [if_pos e]; exact k4.lt j hje
                    · rw [if_neg e]; exact k4.lt p hp
                · simp only [List.length_set] at hi
                  rw [hgete i hi, hmod]
                  by_cases e : i = j
                  · rw [if_pos e, if_pos e]; exact hkv1
                  · rw [if_neg e, if_neg e]; exact k5 i hi
                · simp only [List.length_set] at hi
                  rw [hgete i hi, hmod]
                  by_cases e : i = j
                  · rw [if_pos e, if_pos e]; exact hxd
                  · rw [if_neg e, if_neg e]; exact k6 i hi
    · exact hout.elim
  · exact hout.elim
end
end Go.Ab
namespace Go.Ab
open Go Go.MapKept
section
variable {P:Program} {B:zx} {ρ:Nat→V} {M:Nat→Option Ob} {F:Nat→Prop} {σ:Nat→Option Nat} {a:Act} {w:World}
theorem zkV (ents:Array MapEntry):zc0 ents #[]=ents.toList:=by
 unfold zc0
 rw [List.filter_eq_self]
 intro e he;simp
theorem zxW (h:Sim B ρ M F σ a w) {C:zh} {o:Oper} {t kt e:TypeId} {x:Operand} {x':Arg} {n:Nat} {v:V} {u:Upd} {k:Nat} (hn:0 < k→F n)
  (ho:o.op = .range t x) (ht:P.underlying t=some (.map kt e)) (hx:zN P x=some x') (hout:(zm (.range x') ρ M n).Out C M n v u k):Res P B ρ M F a w o n v u k:=by
 have hd : ∀ c,o.op ≠ .defer c:=by rw [ho];simp
 have hxs:=zO h hx
 simp only [zm] at hout
 generalize x'.ev ρ=vx at hout hxs
 have fin : ∀ (M1:Nat→Option Ob) (es:List (D×D)),Sim B ρ M1 F σ a w→zj (B.X σ M1) w (.map es) (a.eval x)→F n →
   ∃ v' w' σ',zst P o a w v' w'∧Sim B ρ (zg M1 n (some (.iter es none))) (za9 F n) σ' a w'∧VSim σ' (zg M1 n (some (.iter es none))) (za9 F n) (B.X σ' (zg M1 n (some (.iter es none)))) w' (.iter n) v':=by
  intro M1 es h1 hds hn
  generalize hve:a.eval x=ve at hds
  cases hds with
  | map _ m ents clock g1 g2 g3 g4 g5 g6 g7 =>
   have hpush:zcs w (w.alloc (.mapIter (some m) clock #[] clock)) (.mapIter (some m) clock #[] clock):=⟨⟨rfl,rfl,rfl⟩,rfl⟩
   refine ⟨.pointer (some ⟨w.heap.size,0,none⟩),_,zu σ n (some w.heap.size),⟨hd,.inl ?_⟩,h1.new hn hpush (fun _=>by simp) ?_,.iter n es none w.heap.size (by simp [zg]) (by simp [zu])⟩
   ·simp [execOp,ho,hve,Instr.range,run_underlying ht,zdJ g3]
   ·have tn:=zfo (ob := .iter es none) h1 hn hpush
    refine .iter es none w.heap.size m ents clock #[] (by simp [zu]) hpush.new (fun hx=>g1 (tn.sub m g2 hx)) (by rw [hpush.size];omega) ((hpush.old g2).trans g3) g5 (by rw [zkV];simpa using g4)
     (fun i hi=>by rw [zkV,zc6];exact (g6 i hi).mono tn.heap tn.sub) (fun i hi=>by rw [zkV,zc6];exact (g7 i hi).mono tn.heap tn.sub) trivial
 unfold zkb at hout
 split at hout
 ·rename_i es
  obtain ⟨rfl,rfl,rfl⟩:=hout
  cases hxs with
  | d _ _ hy =>
   obtain ⟨v',w',σ',h1,h2,h3⟩:=fin M es h hy (hn Nat.one_pos)
   exact ⟨v',w',σ',h1,by rw [zZ];exact h2,by rw [zZ];exact h3⟩
 ·rename_i id
  split at hout
  ·rename_i es hme
   obtain ⟨rfl,rfl,rfl⟩:=hout
   have hsub : ∀ j,zg M id none j≠none→M j≠none:=fun j hj=>by
    by_cases e:j=id
    ·subst e;simp [zg] at hj
    ·simpa [zg,e] using hj
   have hds:=(zcU h hsub false 1).1 (.map id) (.map es) _ (by simp [V.freeze,hme]) hxs (fun j hj=>by simp [zaW,V.deepIds] at hj;subst hj;simp [zg])
   obtain ⟨v',w',σ',h1,h2,h3⟩:=fin (zg M id none) es (h.drop id) hds (hn Nat.one_pos)
   exact ⟨v',w',σ',h1,by rw [zZ];exact h2,by rw [zZ];exact h3⟩
  ·exact hout.elim
 ·exact hout.elim
theorem zvN {ents:Array MapEntry} {clock:Nat} (hs:zfH ents clock) {i:Nat} (hi:i < ents.size):ents.find? (fun e=>e.born==(ents.getD i default).born)=some (ents.getD i default):=by
 have hg:ents.getD i default=ents[i]:=by simp [Array.getD_eq_getD_getElem?,hi]
 cases hf:ents.find? (fun e=>e.born==(ents.getD i default).born) with
 | none =>
  rw [Array.find?_eq_none] at hf
  have:=hf (ents[i]) (Array.getElem_mem hi)
  rw [hg] at this;simp at this
 | some e =>
  obtain ⟨hp,j,hj,he,-⟩:=Array.find?_eq_some_iff_getElem.1 hf
  have hgj:ents.getD j default=ents[j]:=by simp [Array.getD_eq_getD_getElem?,hj]
  have:=hs.inj j i hj hi (by rw [hgj,he];simpa using hp)
  subst this
  rw [hgj,he]
theorem znM {r:Nat} {m:Option Nat} {since:Nat} {seen:Array Nat} {last:Nat} (hb:w.heap[r]? = some (.mapIter m since seen last)):(getObj r).run P w = .ok (.mapIter m since seen last) w:=by
 simp [getObj,Sem.run,hb]
theorem zxP (h:Sim B ρ M F σ a w) {C:zh} {o:Oper} {x:Operand} {x':Arg} {n:Nat} {v:V} {u:Upd} {k:Nat}
  (ho:o.op = .entry x) (hx:zN P x=some x') (hout:(zm (.entry x') ρ M n).Out C M n v u k):Res P B ρ M F a w o n v u k:=by
 have hd : ∀ c,o.op ≠ .defer c:=by rw [ho];simp
 have hxs:=zO h hx
 simp only [zm] at hout
 generalize x'.ev ρ=vx at hout hxs
 generalize hve:a.eval x=ve at hxs
 unfold zjx at hout
 split at hout
 ·rename_i id
  split at hout
  ·rename_i left kd vd hme
   obtain ⟨rfl,rfl,rfl⟩:=hout
   cases hxs with
   | iterDead _ _ g1=>rw [hme] at g1;cases g1
   | iter _ l c b g1 g2 =>
    cases h.mem id _ hme with
    | iter _ _ b' m ents clock seen k1 k2 k3 k4 k5 k6 k7 k8 k9 k10 =>
     rw [g2] at k1;cases k1
     obtain ⟨i,hi,hb,hk,hv⟩:=k10
     have hf:=zvN k6 hi
     refine Res.val h hd (v' := .tuple #[(ents.getD i default).key,(ents.getD i default).val]) ?_ (.d _ _ (.tup _ _ rfl fun j hj=>?_))
     ·simp only [execOp,ho,hve,Instr.entry,Sem.run_bind,znM k2,Result.andThen_ok,hb,zdJ k5,hf]
      simp
     ·match j,hj with
      | 0,_=>exact hk
      | 1,_=>exact hv
  ·exact hout.elim
 ·exact hout.elim
theorem zlX : ∀ (l:List MapEntry) (i:Nat) (e:MapEntry),(l.map (·.born)).Nodup→l[i]? = some e→l.filter (fun x => !(x.born==e.born))=l.eraseIdx i
 | [],i,e,_,h=>by simp at h
 | x::l,0,e,hn,h=>by
  cases h
  simp only [List.map_cons,List.nodup_cons] at hn
  simp only [List.eraseIdx_cons_zero,List.filter_cons,beq_self_eq_true,Bool.not_true,Bool.false_eq_true,if_false]
  rw [List.filter_eq_self]
  intro y hy
  have:y.born≠x.born:=fun he=>hn.1 (by rw [← he];exact List.mem_map.2 ⟨y,hy,rfl⟩)
  simpa using this
 | x::l,i+1,e,hn,h=>by
  simp only [List.map_cons,List.nodup_cons] at hn
  have h':l[i]? = some e:=by simpa using h
  have hne:x.born≠e.born:=fun he=>hn.1 (by rw [he];exact List.mem_map.2 ⟨e,List.mem_of_getElem? h',rfl⟩)
  simp only [List.eraseIdx_cons_succ,List.filter_cons]
  rw [show (!(x.born==e.born))=true by simpa using hne,if_pos rfl,zlX l i e hn.2 h']
theorem zjf {ents:Array MapEntry} {clock:Nat} (hs:zfH ents clock) {seen:Array Nat} {i:Nat} {e:MapEntry} (h:(zc0 ents seen)[i]? = some e):zc0 ents (seen.push e.born)=(zc0 ents seen).eraseIdx i:=by
 have hnd:(ents.toList.map (·.born)).Nodup:=by
  rw [List.nodup_iff_pairwise_ne,List.pairwise_map,List.pairwise_iff_getElem]
  intro p q hp hq hpq he
  simp at hp hq
  have:=hs.inj p q hp hq (by simpa [Array.getD_eq_getD_getElem?,hp,hq] using he)
  omega
 rw [← zlX (zc0 ents seen) i e ((List.filter_sublist.map _).nodup hnd) h]
 unfold zc0
 rw [List.filter_filter]
 congr 1
 funext x
 simp only [Array.contains_push]
 rw [Bool.not_or,Bool.and_comm]
theorem zhp {α:Type} {l:List α} {i j:Nat} {d:α} : (l.eraseIdx i).getD j d=if j < i then l.getD j d else l.getD (j+1) d:=by
 simp only [List.getD,List.getElem?_eraseIdx]
 split<;>rfl
theorem zzA (h:Sim B ρ M F σ a w) {o:Oper} {x:Operand} {x':Arg} {id:Nat} {left:List (D×D)} {cur:Option (D×D)}
  (ho:o.op = .next x false) (hx:zN P x=some x') (hid:x'.ev ρ = .iter id) (hm:M id=some (.iter left cur)) :
  (left=[] ∧ ∃ v' w',zst P o a w v' w'∧Sim B ρ M F σ a w'∧VSim σ M F (B.X σ M) w' (.d (.tup [.bool false])) v') ∨
  ∃ i kd vd,left[i]? = some (kd,vd) ∧ ∃ v' w',zst P o a w v' w'∧Sim B ρ (zg M id (some (.iter (left.eraseIdx i) (some (kd,vd))))) F σ a w' ∧
   VSim σ (zg M id (some (.iter (left.eraseIdx i) (some (kd,vd))))) F (B.X σ (zg M id (some (.iter (left.eraseIdx i) (some (kd,vd)))))) w' (.d (.tup [.bool true,kd,vd])) v':=by
 have hd : ∀ c,o.op ≠ .defer c:=by rw [ho];simp
 have hxs:=zO h hx
 rw [hid] at hxs
 generalize hve:a.eval x=ve at hxs
 have hover : ∀ w',VSim σ M F (B.X σ M) w' (.d (.tup [.bool false])) (.tuple #[.bool false]):=fun w' => .d _ _ (.tup _ _ rfl fun j hj=>by
  match j,hj with
  | 0,_=>exact .bool false)
 cases hxs with
 | iterDead _ _ g1=>rw [hm] at g1;cases g1
 | iter _ l c b g1 g2 =>
  cases h.mem id _ hm with
  | iterNil b' since seen last k1 k2 =>
   rw [g2] at k1;cases k1
   refine .inl ⟨rfl,.tuple #[.bool false],w,⟨hd,.inl ?_⟩,h,hover w⟩
   simp [execOp,ho,hve,Instr.next,znM k2]
  | iter _ _ b' m ents clock seen k1 k2 k3 k4 k5 k6 k7 k8 k9 k10 =>
   rw [g2] at k1;cases k1
   have hold : ∀ x∈ents.toList,x.born < clock:=by
    intro x hx
    obtain ⟨q,hq,he⟩:=List.getElem_of_mem hx
    simp at hq
    have:=k6.lt q hq
    rw [← he];simpa [Array.getD_eq_getD_getElem?,hq] using this
   have hlo:(leftOf ents seen).toList=zc0 ents seen:=by simp [leftOf,zc0]
   rcases run_next_at (P:=P) w o.type b m clock clock seen ents clock k2 k5 hold (Nat.le_refl _) with ⟨h0,hrun⟩|⟨e,he,w1,hw1,hrun⟩
   ·have:left=[]:=by
     apply List.eq_nil_of_length_eq_zero
     rw [k7,← hlo];simpa using h0
    exact .inl ⟨this,_,w,⟨hd,.inl (by simp [execOp,ho,hve,hrun])⟩,h,hover w⟩
   ·right
    rw [hlo] at he
    obtain ⟨i,hi,hei⟩:=List.getElem_of_mem he
    have hil:i < left.length:=by omega
    have hie:(zc0 ents seen)[i]? = some e:=by rw [List.getElem?_eq_getElem hi,hei]
    have hgd:(zc0 ents seen).getD i default=e:=by simp [List.getD,hie]
    refine ⟨i,(left.getD i (.nil,.nil)).1,(left.getD i (.nil,.nil)).2,by simp [List.getD,hil],_,_,⟨hd,.inl (by simp only [execOp,ho,hve,Sem.run_bind,hrun,Result.andThen_ok];rfl)⟩,?_,?_⟩
    all_goals
     have hss:zbh w (ChangeMaps.setBlock w1 b (.mapIter (some m) clock (seen.push e.born) clock)):=by rcases hw1 with rfl|rfl<;>exact ⟨rfl,rfl,rfl⟩
     have hhp:(ChangeMaps.setBlock w1 b (.mapIter (some m) clock (seen.push e.born) clock)).heap=w.heap.setIfInBounds b (.mapIter (some m) clock (seen.push e.born) clock):=by rcases hw1 with rfl|rfl<;>rfl
     have hbut:But w (ChangeMaps.setBlock w1 b (.mapIter (some m) clock (seen.push e.born) clock)) b:=⟨by rw [hhp];simp,fun q hq=>by rw [hhp,Array.getElem?_setIfInBounds_ne (Ne.symm hq)]⟩
    ·refine h.setAny hm g2 (.iter _ _ _ _) hss hbut (fun c e hc=>by rw [k2] at hc;cases hc) (fun _=>by simp) (fun tn=>?_)
     have hmb:m≠b:=fun hx=>by subst hx;rw [k2] at k5;cases k5
     have hk8:=k8 i hil
     have hk9:=k9 i hil
     rw [hgd] at hk8 hk9
     refine .iter _ _ b m ents clock (seen.push e.born) g2 (by rw [hhp];simp [zz k2]) (fun hx=>k3 (tn.sub m k4 hx)) (by rw [hbut.1];exact k4) (by rw [hbut.2 m hmb];exact k5) k6
      (by rw [zjf k6 hie,List.length_eraseIdx,List.length_eraseIdx,k7]) (fun j hj=>?_) (fun j hj=>?_) ?_
     ·rw [zjf k6 hie,zhp,zhp]
      rw [List.length_eraseIdx,if_pos hil] at hj
      split
      ·exact (k8 j (by omega)).mono tn.heap tn.sub
      ·exact (k8 (j+1) (by omega)).mono tn.heap tn.sub
     ·rw [zjf k6 hie,zhp,zhp]
      rw [List.length_eraseIdx,if_pos hil] at hj
      split
      ·exact (k9 j (by omega)).mono tn.heap tn.sub
      ·exact (k9 (j+1) (by omega)).mono tn.heap tn.sub
     ·obtain ⟨q,hq,heq⟩:=List.getElem_of_mem (List.mem_filter.1 (show e∈ents.toList.filter _ from he)).1
      rw [Array.length_toList] at hq
      have hqe:ents.getD q default=e:=by rw [← heq];simp [Array.getD_eq_getD_getElem?,hq]
      exact ⟨q,hq,by rw [hqe,Array.back?_push],by rw [hqe];exact hk8.mono tn.heap tn.sub,by rw [hqe];exact hk9.mono tn.heap tn.sub⟩
    ·have hX : ∀ bb,B.X σ (zg M id (some (.iter (left.eraseIdx i) (some ((left.getD i (.nil,.nil)).1,(left.getD i (.nil,.nil)).2))))) bb→B.X σ M bb:=by
      rintro bb (hb|⟨q,h1,h2⟩)
      ·exact .inl hb
      ·refine .inr ⟨q,?_,h2⟩
       by_cases e:q=id
       ·subst e;rw [hm];simp
       ·simpa [zg,e] using h1
     have hk8:=k8 i hil
     have hk9:=k9 i hil
     rw [hgd] at hk8 hk9
     have up : ∀ d v,zj (B.X σ M) w d v→zj (B.X σ (zg M id (some (.iter (left.eraseIdx i) (some ((left.getD i (.nil,.nil)).1,(left.getD i (.nil,.nil)).2)))))) (ChangeMaps.setBlock w1 b (.mapIter (some m) clock (seen.push e.born) clock)) d v :=
      fun d v hdv=>hdv.mono (fun q hq _=>hbut.2 q fun hx=>by subst hx;exact hq (.inr ⟨id,by rw [hm];simp,g2⟩)) (fun q _ hq=>hX q hq)
     refine .d _ _ (.tup _ _ rfl fun j hj=>?_)
     match j,hj with
     | 0,_=>exact .bool true
     | 1,_=>exact up _ _ hk8
     | 2,_=>exact up _ _ hk9
theorem zwo {cur:Array Value} {news:List Value} {p q:Nat} (h:p+news.length≤cur.size) :
  (cur.toList.take p++news++cur.toList.drop (p+news.length)).toArray.getD q undef=if p≤q∧q < p+news.length then news.getD (q - p) undef else cur.getD q undef:=by
 simp only [Array.getD_eq_getD_getElem?,List.getElem?_toArray,List.append_assoc]
 by_cases hq:q < p
 ·rw [if_neg (by omega),List.getElem?_append_left (by simp;omega)]
  simp [hq]
 ·by_cases hq2:q < p+news.length
  ·rw [if_pos (by omega),List.getElem?_append_right (by simp;omega),List.getElem?_append_left (by simp;omega)]
   simp [List.getD,Nat.min_eq_left (show p≤cur.size by omega)]
  ·rw [if_neg (by omega),List.getElem?_append_right (by simp;omega),List.getElem?_append_right (by simp;omega)]
   simp only [List.length_take,Array.length_toList,List.getElem?_drop,Array.getElem?_toList]
   rw [show p+news.length+(q - min p cur.size - news.length)=q by omega]
theorem zfS {o:Oper} {t e:TypeId} {x:Operand} {i:TypeInfo} {z:Value} (ho:o.op = .call { callee := .builtin .clear,args := #[x],argTypes := #[t] }) (ht:P.underlying t=some (.slice e)) (hi:P.info? e=some i) (hz:i.zero=some z)
  {ad:Option Addr} {l c:Nat} (hx:a.eval x = .slice ad l c) {w':World} (hr : ∀ a0,ad=some a0→l≠0→(storeCells a0 (Builtin.zeroCells z.cells l).toList).run P w = .ok () w') (hn:ad=none∨l=0→w'=w) :
  (execOp a.eval o).run P w = .ok (.value (.tuple #[])) w':=by
 cases ad with
 | none=>rw [hn (.inl rfl)];simp [execOp,ho,hx,resolve,invoke,builtin,Builtin.clear_,run_underlying ht]
 | some a0 =>
  cases l with
  | zero=>rw [hn (.inr rfl)];simp [execOp,ho,hx,resolve,invoke,builtin,Builtin.clear_,run_underlying ht]
  | succ l=>simp [execOp,ho,hx,resolve,invoke,builtin,Builtin.clear_,run_underlying ht,zeroValue,typeInfo,hi,hz,hr a0 rfl (by simp)]
theorem zxO (h:Sim B ρ M F σ a w) {C:zh} {o:Oper} {t e:TypeId} {x:Operand} {x':Arg} {s:Nat} {z:List V} {n:Nat} {v:V} {u:Upd} {k:Nat}
  (ho:o.op = .call { callee := .builtin .clear,args := #[x],argTypes := #[t] }) (ht:P.underlying t=some (.slice e)) (hs:zam P e=some s) (hz:zbz P e=some z) (hzl:z.length=s) (hx:arg P t x=some x')
  (hout:(zm (.clear s z x') ρ M n).Out C M n v u k):Res P B ρ M F a w o n v u k:=by
 have hd : ∀ c,o.op ≠ .defer c:=by rw [ho];simp
 have hxs:=zW h hx
 simp only [zm] at hout
 generalize x'.ev ρ=vx at hout hxs
 generalize hve:a.eval x=ve at hxs
 have lay : ∀ (id b s:Nat) (xs:List D) (lo l cap:Nat) (d:D),zc2 M z=some d→d.fits s=true→zam P e=some s→z.length=s→M id=some (.row s xs)→σ id=some b→lo+l≤xs.length→a.eval x = .slice (some ⟨b,lo * s,none⟩) l cap →
   Res P B ρ M F a w o n .undef [(id,some (.row s (xs.take lo++(List.replicate l d++xs.drop (lo+l)))))] 0:=by
  intro id b s xs lo l cap d hzd hf hs hzl hrow hb hle hval
  obtain ⟨i,zv,hi,hzv,hsz,hzs⟩:=zk2 (M':=M) (P:=P) h (fun j hj=>hj) hz hzd hf hzl
  obtain ⟨c,e',g1,g2,g3,g4,g5⟩:=zeJ h hrow hb
  have hrowz:=zow (w:=w) (m:=l) hf hsz hzs
  have hzc:Builtin.zeroCells zv.cells l=(Array.range (l * s)).map fun q=>zv.cells[q % zv.cells.size]! := by simp [Builtin.zeroCells,hsz]
  rw [← hzc] at hrowz
  have hlen:(Builtin.zeroCells zv.cells l).toList.length=l * s:=by rw [Array.length_toList,zgv,hsz]
  have hfit:lo * s+l * s≤c.size:=by
   have:(lo+l) * s≤xs.length * s:=Nat.mul_le_mul_right _ hle
   rw [Nat.add_mul] at this;omega
  have hone : ∀ q∈(Builtin.zeroCells zv.cells l).toList,q.oneCell'=true:=by
   intro q hq
   obtain ⟨p,hp,he⟩:=List.getElem_of_mem hq
   rw [hlen] at hp
   by_cases hs0:s=0
   ·subst hs0;simp at hp
   have hp1:p / s < l:=Nat.div_lt_of_lt_mul (by rw [Nat.mul_comm];exact hp)
   have hp2:p % s < s:=Nat.mod_lt _ (by omega)
   have:=hrowz.2.2 (p / s) (p % s) (by simpa using hp1) hp2
   have e1:p / s * s+p % s=p:=by rw [Nat.mul_comm];exact Nat.div_add_mod p s
   rw [e1] at this
   have e2:(Builtin.zeroCells zv.cells l).getD p undef=q:=by
    rw [← he]
    have hp':p < (Builtin.zeroCells zv.cells l).size:=by rw [zgv,hsz];exact hp
    simp [Array.getD_eq_getD_getElem?,hp']
   rw [e2] at this
   rw [← ztH]
   refine this.one ?_
   have hcell : ∀ j,j < s→((List.replicate l d).getD (p / s) .nil).cells.getD j .nil=d.cells.getD j .nil:=fun j _=>by simp [List.getD,hp1]
   rw [hcell _ hp2]
   cases d with
   | agg cs =>
    simp only [D.fits,Bool.and_eq_true] at hf
    have hl:=Nat.eq_of_beq_eq_true hf.1.1
    have:=(List.all_eq_true.1 hf.2) (cs[p % s]) (List.getElem_mem (by omega))
    simpa [D.cells,List.getD,show p % s < cs.length by omega] using this
   | tup cs=>simp [D.fits] at hf
   | _ =>
    have hs1:s=1:=Nat.eq_of_beq_eq_true hf
    have hm:p % s=0:=by rw [hs1];exact Nat.mod_one p
    simp [D.cells,D.isCell,hm]
  have hst:=run_storeCells_at P b (lo * s) e' (Builtin.zeroCells zv.cells l).toList 0 c w g1 (by omega) hone
  simp only [Nat.add_zero] at hst
  have hst':=hst
  generalize hw2:w.setRow b (c.toList.take (lo * s)++(Builtin.zeroCells zv.cells l).toList++c.toList.drop (lo * s+(Builtin.zeroCells zv.cells l).toList.length)).toArray=w2 at hst
  have hh2:w2.heap[b]? = some (.cells (c.toList.take (lo * s)++(Builtin.zeroCells zv.cells l).toList++c.toList.drop (lo * s+(Builtin.zeroCells zv.cells l).toList.length)).toArray e' (0,0)):=by rw [← hw2];exact setRow_heap w b c _ e' (0,0) g1
  have hs2:zbh w w2:=by rw [← hw2];exact ⟨rfl,rfl,rfl⟩
  have hb2:But w w2 b:=by rw [← hw2];exact ⟨by simp,fun k hk=>setRow_other w b k _ hk⟩
  have hnl:(xs.take lo++(List.replicate l d++xs.drop (lo+l))).length=xs.length:=by simp;omega
  have hcsz:(c.toList.take (lo * s)++(Builtin.zeroCells zv.cells l).toList++c.toList.drop (lo * s+(Builtin.zeroCells zv.cells l).toList.length)).toArray.size=c.size:=by
   rw [List.size_toArray,List.length_append,List.length_append,List.length_take,List.length_drop,hlen,Array.length_toList];omega
  have hsim:Sim B ρ (zg M id (some (.row s (xs.take lo++(List.replicate l d++xs.drop (lo+l)))))) F σ a w2:=by
   refine h.set hrow hb (.row s xs _ hnl.symm) hs2 hb2 g1 hh2 hcsz (fun _=>by simp) (fun tn=>?_)
   refine .row s _ b _ e' hb hh2 (by rw [hnl,hcsz];exact g2) (by rw [hnl];exact g3) (fun q hq=>?_) (fun p q hp hq=>zj.mono tn.heap tn.sub ?_)
   ·rcases List.mem_append.1 hq with hq|hq
    ·exact g4 q (List.mem_of_mem_take hq)
    ·rcases List.mem_append.1 hq with hq|hq
     ·rw [List.eq_of_mem_replicate hq];exact hf
     ·exact g4 q (List.mem_of_mem_drop hq)
   ·rw [hnl] at hp
    rw [zwo (by omega),hlen]
    by_cases h1:p < lo
    ·have hlt:=zba h1 hq
     rw [if_neg (by omega)]
     rw [show (xs.take lo++(List.replicate l d++xs.drop (lo+l))).getD p .nil=xs.getD p .nil by
      simp only [List.getD];rw [List.getElem?_append_left (by simp;omega)];simp [h1]]
     exact g5 p q hp hq
    ·by_cases h2:p < lo+l
     ·have hlt:=zba (i:=p - lo) (n:=l) (by omega) hq
      have e1:p * s+q=lo * s+((p - lo) * s+q):=by
       rw [← Nat.add_assoc,← Nat.add_mul,show lo+(p - lo)=p by omega]
      rw [e1,if_pos (by omega)]
      rw [show (xs.take lo++(List.replicate l d++xs.drop (lo+l))).getD p .nil=(List.replicate l d).getD (p - lo) .nil by
       simp only [List.getD];rw [List.getElem?_append_right (by simp;omega),List.getElem?_append_left (by simp;omega)];simp [Nat.min_eq_left (show lo≤xs.length by omega)]]
      have:=hrowz.2.2 (p - lo) q (by simp;omega) hq
      rw [show lo * s+((p - lo) * s+q) - lo * s=(p - lo) * s+q by omega]
      have e3:(Builtin.zeroCells zv.cells l).toList.getD ((p - lo) * s+q) undef=(Builtin.zeroCells zv.cells l).getD ((p - lo) * s+q) undef:=by simp [List.getD,Array.getD_eq_getD_getElem?]
      rw [e3];exact this
     ·have hge:lo * s+l * s≤p * s+q:=by
       have:(lo+l) * s≤p * s:=Nat.mul_le_mul_right _ (by omega)
       rw [Nat.add_mul] at this;omega
      rw [if_neg (by omega)]
      rw [show (xs.take lo++(List.replicate l d++xs.drop (lo+l))).getD p .nil=xs.getD p .nil by
       simp only [List.getD];rw [List.getElem?_append_right (by simp;omega),List.getElem?_append_right (by simp;omega)]
       simp only [List.length_take,List.length_replicate,List.getElem?_drop]
       rw [show lo+l+(p - min lo xs.length - l)=p by omega]]
      exact g5 p q hp hq
  by_cases hl0:l=0
  ·subst hl0
   refine ⟨_,w,σ,⟨hd,.inl (zfS ho ht hi hzv hval (fun a0 _ hne=>absurd rfl hne) (fun _=>rfl))⟩,?_,.undef _⟩
   rw [zca]
   have:xs.take lo++(List.replicate 0 d++xs.drop (lo+0))=xs:=by simp
   rw [this]
   have e:zq [(id,some (Ob.row s xs))] M=M:=by
    funext j;simp only [zq,zg];split
    ·rename_i hj;subst hj;exact hrow.symm
    ·rfl
   rw [e];exact h
  ·refine ⟨_,w2,σ,⟨hd,.inl (zfS ho ht hi hzv hval (fun a0 ha _=>by cases ha;exact hst) (fun hx=>(hx.elim (fun h=>by cases h) (fun h=>absurd h hl0))))⟩,?_,.undef _⟩
   rw [zca];exact hsim
 unfold zjq at hout
 split at hout
 ·rename_i s0 x0 hzd
  obtain ⟨rfl,rfl,rfl⟩:=hout
  cases hxs
  obtain ⟨i,zv,hi,hzv,-⟩:=zfp (P:=P) (σ:=σ) (M:=M) (F:=F) (B:=B) (w:=w) hz
  exact ⟨_,w,σ,⟨hd,.inl (zfS ho ht hi hzv hve (fun a0 h0=>by cases h0) (fun _=>rfl))⟩,by rw [zca];exact h,.undef _⟩
 ·rename_i id d hzd
  split at hout
  ·rename_i s' xs hrow
   by_cases hc:(Nat.beq s' s&&d.fits s)=true
   ·rw [hc] at hout
    simp only [Bool.and_eq_true] at hc
    have:=Nat.eq_of_beq_eq_true hc.1
    subst this
    obtain ⟨rfl,rfl,rfl⟩:=hout
    cases hxs with
    | ownDead _ _ _ _ g1=>rw [hrow] at g1;cases g1
    | ownNil _ _ g1 g2 =>
     rw [hrow] at g1;cases g1
     obtain ⟨i,zv,hi,hzv,-⟩:=zfp (P:=P) (σ:=σ) (M:=M) (F:=F) (B:=B) (w:=w) hz
     refine ⟨_,w,σ,⟨hd,.inl (zfS ho ht hi hzv hve (fun a0 h0=>by cases h0) (fun _=>rfl))⟩,?_,.undef _⟩
     rw [zca]
     have e:zq [(id,some (Ob.row s' (List.replicate ([]:List D).length d)))] M=M:=by
      funext j;simp only [zq,zg];split
      ·rename_i hj;subst hj;simp [hrow]
      ·rfl
     rw [e];exact h
    | own _ _ _ b cap c e' g1 g2 g3 g4 g5 =>
     rw [hrow] at g1;cases g1
     have:=lay id b s' xs 0 xs.length cap d hzd hc.2 hs hzl hrow g2 (by omega) (by rw [hve,Nat.zero_mul])
     simpa using this
   ·rw [zd hc] at hout;exact hout.elim
  ·exact hout.elim
 ·rename_i id lo l d hzd
  split at hout
  ·rename_i s' xs hrow
   by_cases hc:(Nat.beq s' s&&d.fits s)=true
   ·rw [hc] at hout
    simp only [Bool.and_eq_true] at hc
    have:=Nat.eq_of_beq_eq_true hc.1
    subst this
    obtain ⟨hle,rfl,rfl,rfl⟩:=hout
    cases hxs with
    | viewDead _ _ _ _ _ g1=>rw [hrow] at g1;cases g1
    | view0 _ _ ad cap =>
     obtain ⟨i,zv,hi,hzv,-⟩:=zfp (P:=P) (σ:=σ) (M:=M) (F:=F) (B:=B) (w:=w) hz
     refine ⟨_,w,σ,⟨hd,.inl (zfS ho ht hi hzv hve (fun a0 _ h0=>absurd rfl h0) (fun _=>rfl))⟩,?_,.undef _⟩
     rw [zca]
     have e:zq [(id,some (Ob.row s' (xs.take lo++(List.replicate 0 d++xs.drop (lo+0)))))] M=M:=by
      funext j;simp only [zq,zg];split
      ·rename_i hj;subst hj;simp [hrow]
      ·rfl
     rw [e];exact h
    | view _ _ _ _ _ b cap g1 g2 g3 g4 =>
     rw [hrow] at g1;cases g1
     exact lay id b s' xs lo l cap d hzd hc.2 hs hzl hrow g2 g3 hve
   ·rw [zd hc] at hout;exact hout.elim
  ·exact hout.elim
 ·exact hout.elim
end
end Go.Ab
namespace Go.Ab
open Go
section
variable {P:Program} {B:zx} {ρ:Nat→V} {M M':Nat→Option Ob} {F:Nat→Prop} {σ:Nat→Option Nat} {a:Act} {w:World}
def zc5 (P:Program) (f:Nat):Prop := ∃ fn,P.funcs[f]? = some fn∧(fn.name == "runtime.NumGoroutine")=false∧fn.body.isSome=true
def zcJ (P:Program) (B:zx) (C:zh):Prop :=
 ∀ (ρ:Nat→V) (M:Nat→Option Ob) (F:Nat→Prop) (σ:Nat→Option Nat) (a:Act) (w:World) (n f:Nat) (vs:List V) (v:V) (u:Upd) (k:Nat) (args:Array Value),
  Sim B ρ M F σ a w→C M n f vs v u k→(∀ i,n≤i→i < n+k→F i)→args.size=vs.length→(∀ i,i < vs.length→VSim σ M F (B.X σ M) w (vs.getD i .undef) (args.getD i undef)) →
  zc5 P f ∧ ∀ cs,∃ v' w' σ',zgf P cs f args w v' w'∧Sim B ρ (zq u M) (zbN F n k) σ' a w'∧VSim σ' (zq u M) (zbN F n k) (B.X σ' (zq u M)) w' v v'
def zsd (P:Program) (cs:List Frame) (B:zx) (ρ:Nat→V) (M:Nat→Option Ob) (F:Nat→Prop) (a:Act) (w:World) (o:Oper) (n:Nat) (v:V) (u:Upd) (k:Nat):Prop :=
 ∃ v' w' σ',zlv P cs o a w v' w'∧Sim B ρ (zq u M) (zbN F n k) σ' a w'∧VSim σ' (zq u M) (zbN F n k) (B.X σ' (zq u M)) w' v v'
theorem Res.at {o:Oper} {n:Nat} {v:V} {u:Upd} {k:Nat} (h:Res P B ρ M F a w o n v u k) (cs:List Frame):zsd P cs B ρ M F a w o n v u k :=
 let ⟨v',w',σ',h1,h2,h3⟩:=h; ⟨v',w',σ',.inl h1,h2,h3⟩
theorem zmu {f:Nat} (h:zc5 P f) (args:Array Value) (w:World):(callFunc f args).run P w = .ok (.enter f args) w:=by
 obtain ⟨fn,h1,h2,h3⟩:=h
 cases hb:fn.body with
 | none=>simp [hb] at h3
 | some b =>
  have h2' : ¬ fn.name = "runtime.NumGoroutine" := by simpa using h2
  simp [callFunc,h1,h2',hb]
theorem zjg (h:Sim B ρ M F σ a w) : ∀ {xs:List Operand} {ts:List TypeId} {ys:List Arg},xs.length=ts.length→((xs.zip ts).mapM fun (x,t)=>arg P t x)=some ys →
  (evs ρ ys).length=xs.length ∧ ∀ i,i < xs.length→VSim σ M F (B.X σ M) w ((evs ρ ys).getD i .undef) ((xs.map a.eval).toArray.getD i undef):=by
 intro xs ts ys hl hm
 obtain ⟨h1,h2⟩:=zcd hm
 rw [zsX]
 have h3:ys.length=xs.length:=by rw [h1];simp [hl]
 refine ⟨by simp [h3],fun i hi=>?_⟩
 have:=h2 i (by simp;omega) (by omega)
 simp only [List.getElem_zip] at this
 have:=zW h this
 simpa [List.getD,Array.getD,hi,show i < ys.length by omega] using this
theorem zoJ (h:Sim B ρ M F σ a w) {C:zh} (hC:zcJ P B C) {o:Oper} {g:Operand} {args:Array Operand} {ts:Array TypeId} {f:Nat} {vs:List V} {n:Nat} {v:V} {u:Upd} {k:Nat} (hn : ∀ i,n≤i→i < n+k→F i)
  (ho:o.op = .call { callee := .value g,args,argTypes:=ts }) {caps:Array Value} (hg:a.eval g = .func (.func f) #[] caps)
  (hvs:vs.length=args.size+caps.size) (hsim : ∀ i,i < vs.length→VSim σ M F (B.X σ M) w (vs.getD i .undef) ((args.map a.eval++caps).getD i undef))
  (hout:C M n f vs v u k) (cs:List Frame):zsd P cs B ρ M F a w o n v u k:=by
 have hd : ∀ c,o.op ≠ .defer c:=by rw [ho];simp
 obtain ⟨hcl,hall⟩:=hC ρ M F σ a w n f vs v u k (args.map a.eval++caps) h hout hn (by simp [hvs]) hsim
 obtain ⟨v',w',σ',h1,h2,h3⟩:=hall cs
 refine ⟨v',w',σ',.inr ⟨hd,.inl ⟨f,args.map a.eval++caps,w,?_,h1⟩⟩,h2,h3⟩
 simp [execOp,ho,resolve,hg,Deferred.ofValue,invoke,zmu hcl]
theorem ziR {x y:Array Value} {i:Nat} : (x++y).getD i undef=if i < x.size then x.getD i undef else y.getD (i - x.size) undef:=by
 simp only [Array.getD_eq_getD_getElem?,Array.getElem?_append]
 split<;>rfl
set_option maxHeartbeats 1000000 in
theorem zy3 (h:Sim B ρ M F σ a w) {C:zh} (hC:zcJ P B C) {o:Oper} {co:CO} {n:Nat} {v:V} {u:Upd} {k:Nat} (hn : ∀ i,n≤i→i < n+k→F i)
  (hc:zbC P o=some co) (hout:(zm co ρ M n).Out C M n v u k) (css:List Frame):zsd P css B ρ M F a w o n v u k:=by
 have hn0:0 < k→F n:=fun h0=>hn n (Nat.le_refl n) (by omega)
 unfold zbC at hc
 split at hc
 ·rename_i x ho
  obtain ⟨y,hy,rfl⟩:=Option.map_eq_some_iff.1 hc
  exact Res.at (zxU h (.inl ho) hy hout) css
 ·rename_i x ho
  obtain ⟨y,hy,rfl⟩:=Option.map_eq_some_iff.1 hc
  exact Res.at (zxU h (.inr ho) hy hout) css
 ·rename_i c x y ho
  simp only [Option.pure_def,Option.bind_eq_bind,Option.bind_eq_some_iff] at hc
  obtain ⟨c',hc',x',hx,y',hy,e⟩:=hc
  cases e
  exact Res.at (zzB h ho hc' hx hy hout) css
 ·rename_i op t x y u' ho
  split at hc<;>(try simp only [Option.pure_def,Option.bind_eq_bind,Option.bind_eq_some_iff] at hc)
  ·obtain ⟨x',hx,y',hy,e⟩:=hc;cases e
   exact Res.at (zvh h ho hx hy hout) css
  ·rename_i ht
   obtain ⟨x',hx,y',hy,e⟩:=hc;cases e
   exact Res.at (zvi (neg:=false) h ho ht hx hy hout) css
  ·rename_i ht
   obtain ⟨x',hx,y',hy,e⟩:=hc;cases e
   exact Res.at (zvi (neg:=true) h ho ht hx hy hout) css
  ·rename_i e' ht
   obtain ⟨x',hx,y',hy,e⟩:=hc;cases e
   exact Res.at (zvj (neg:=false) h ho ht hx hy hout) css
  ·rename_i e' ht
   obtain ⟨x',hx,y',hy,e⟩:=hc;cases e
   exact Res.at (zvj (neg:=true) h ho ht hx hy hout) css
  ·rename_i e' ht
   obtain ⟨l,hl,x',hx,y',hy,e⟩:=hc;cases e
   exact Res.at (zvk (neg:=false) h ho hl hx hy hout) css
  ·rename_i e' ht
   obtain ⟨l,hl,x',hx,y',hy,e⟩:=hc;cases e
   exact Res.at (zvk (neg:=true) h ho hl hx hy hout) css
  ·obtain ⟨x',hx,y',hy,e⟩:=hc;cases e
   exact Res.at (zvh h ho hx hy hout) css
  ·cases hc
 ·rename_i op t x ho
  simp only [Option.pure_def,Option.bind_eq_bind,Option.bind_eq_some_iff] at hc
  obtain ⟨x',hx,e⟩:=hc;cases e
  exact Res.at (zBC h ho hx hout) css
 ·rename_i s d x ho
  split at hc
  ·rename_i ks kd hs hd
   obtain ⟨x',hx,rfl⟩:=Option.map_eq_some_iff.1 hc
   exact Res.at (zzt h ho hs hd hx hout) css
  ·cases hc
 ·rename_i e ho
  obtain ⟨z,hz,rfl⟩:=Option.map_eq_some_iff.1 hc
  exact Res.at (zxN h hn0 ho hz hout) css
 ·rename_i e x ho
  simp only [Option.pure_def,Option.bind_eq_bind,Option.bind_eq_some_iff] at hc
  obtain ⟨m,hm,x',hx,e⟩:=hc;cases e
  exact Res.at (zAE h hn0 ho hx hout) css
 ·rename_i t parts ho
  split at hc
  ·rename_i fs ht
   simp only [Option.pure_def,Option.bind_eq_bind,Option.bind_eq_some_iff] at hc
   obtain ⟨z,hz,pl,hpl,ps,hps,e⟩:=hc;cases e
   obtain ⟨h1,h2⟩:=zcd hps
   refine Res.at (zrL h ho hz (fun i=>(pl.map fun q=>(q.1,q.2.1))[i]?) h1.symm (fun i hi1 hi2=>?_) (fun i zv c hi hzv hf=>?_) hout) css
   ·have h3:=h2 i hi1 hi2
    simp only [Option.bind_eq_some_iff] at h3
    obtain ⟨q,hq,y,hy,e⟩:=h3
    simp only [Option.some.injEq] at e
    rw [← e]
    exact ⟨by rw [List.getElem?_map,hq];rfl,zW h hy⟩
   ·have hm:=zqY (w:=w) hpl
    have e1:(Array.map (fun x:Nat×Operand=>(x.1,a.eval x.2)) parts).toList=parts.toList.map fun p=>(p.1,a.eval p.2):=by simp
    have hm':(fs.mapM (m:=Sem) fun f=>do pure (f.offset,← sizeOf f.type)).run P w = .ok (pl.map fun q=>(q.1,q.2.1)).toArray w:=by
     rw [Array.mapM_eq_mapM_toList,Sem.run_map,hm];rfl
    simp only [execOp,ho,Instr.build,zeroValue,typeInfo,Sem.run_bind,run_program,Result.andThen_ok,hi,hzv,run_underlying ht,hm',e1,Sem.run_pure,List.getElem?_toArray]
    rw [hf];rfl
  ·rename_i m e ht
   simp only [Option.pure_def,Option.bind_eq_bind,Option.bind_eq_some_iff] at hc
   obtain ⟨z,hz,s,hs,ps,hps,e'⟩:=hc;cases e'
   obtain ⟨h1,h2⟩:=zcd hps
   refine Res.at (zrL h ho hz (fun i=>some (i * s,s)) h1.symm (fun i hi1 hi2=>?_) (fun i zv c hi hzv hf=>?_) hout) css
   ·have h3:=h2 i hi1 hi2
    simp only [Option.bind_eq_some_iff] at h3
    obtain ⟨y,hy,e⟩:=h3
    simp only [Option.some.injEq] at e
    rw [← e]
    exact ⟨rfl,zW h hy⟩
   ·have e1:(Array.map (fun x:Nat×Operand=>(x.1,a.eval x.2)) parts).toList=parts.toList.map fun p=>(p.1,a.eval p.2):=by simp
    simp only [execOp,ho,Instr.build,zeroValue,typeInfo,Sem.run_bind,run_program,Result.andThen_ok,hi,hzv,run_underlying ht,zau hs,e1,Sem.run_pure]
    rw [hf];rfl
  ·cases hc
 ·rename_i t len parts ho
  split at hc
  ·rename_i e ht
   simp only [Option.pure_def,Option.bind_eq_bind,Option.bind_eq_some_iff] at hc
   obtain ⟨s,hs,z,hz,ps,hps,hc⟩:=hc
   split at hc
   ·cases hc
   ·rename_i hcond
    cases hc
    obtain ⟨h1,h2⟩:=zcd hps
    refine Res.at (zwi h hn0 ho ht hs hz (by omega) (by omega) (by omega) h1.symm (fun i hi1 hi2=>?_) hout) css
    have h3:=h2 i hi1 hi2
    simp only [Option.bind_eq_some_iff] at h3
    obtain ⟨y,hy,e⟩:=h3
    simp only [Option.some.injEq] at e
    rw [← e]
    exact ⟨rfl,zW h hy⟩
  ·cases hc
 ·rename_i t x ho
  simp only [Option.pure_def,Option.bind_eq_bind,Option.bind_eq_some_iff] at hc
  obtain ⟨g,hg,x',hx,e⟩:=hc;cases e
  exact Res.at (zzx h ho hg hx hout) css
 ·rename_i t x y ho
  simp only [Option.pure_def,Option.bind_eq_bind,Option.bind_eq_some_iff] at hc
  obtain ⟨m,hm,x',hx,y',hy,e⟩:=hc;cases e
  exact Res.at (zxY h ho hm hx hy hout) css
 ·rename_i x ho
  obtain ⟨x',hx,rfl⟩:=Option.map_eq_some_iff.1 hc
  exact Res.at (zxV h ho hx hout) css
 ·rename_i f first caps ho
  split at hc
  ·rename_i hf
   simp only [Option.pure_def,Option.bind_eq_bind,Option.bind_eq_some_iff] at hc
   obtain ⟨cs,hcs,e⟩:=hc;cases e
   exact Res.at (zzu h ho hf hcs hout) css
  ·cases hc
 ·rename_i t ho
  cases hc
  exact Res.at (zxS h hn0 ho hout) css
 ·rename_i t l c ho
  split at hc
  ·rename_i e ht
   simp only [Option.pure_def,Option.bind_eq_bind,Option.bind_eq_some_iff] at hc
   obtain ⟨s,hs,b,hb,z,hz,hc⟩:=hc
   split at hc
   ·cases hc
   ·rename_i hcond
    simp only [Option.bind_eq_some_iff] at hc
    obtain ⟨x',hx,y',hy,e⟩:=hc;cases e
    exact Res.at (zuH h hn0 ho ht hs hb (by omega) hz (by omega) hx hy hout) css
  ·cases hc
 ·rename_i t x lo hi mx ho
  split at hc
  ·rename_i e ht
   simp only [Option.pure_def,Option.bind_eq_bind,Option.bind_eq_some_iff] at hc
   obtain ⟨s,hs,x',hx,lo',hlo,hi',hhi,e⟩:=hc;cases e
   exact Res.at (zxX h hn0 ho ht hs hx hlo hhi hout) css
  ·cases hc
 ·rename_i s x f ho
  split at hc
  ·rename_i fs hs
   simp only [Option.pure_def,Option.bind_eq_bind,Option.bind_eq_some_iff] at hc
   obtain ⟨fd,hf,m,hm,hc⟩:=hc
   split at hc
   ·cases hc
   ·rename_i hm0
    simp only [Option.bind_eq_some_iff] at hc
    obtain ⟨x',hx,e⟩:=hc;cases e
    exact Res.at (zxQ h ho hs hf hm hm0 hx hout) css
  ·cases hc
 ·rename_i s x f ho
  split at hc
  ·rename_i fs hs
   simp only [Option.pure_def,Option.bind_eq_bind,Option.bind_eq_some_iff] at hc
   obtain ⟨fd,hf,g,hg,x',hx,e⟩:=hc;cases e
   exact Res.at (zAG h ho hs hf hg hx hout) css
  ·cases hc
 ·rename_i t x i ho
  split at hc
  ·rename_i e ht
   simp only [Option.pure_def,Option.bind_eq_bind,Option.bind_eq_some_iff] at hc
   obtain ⟨s,hs,hc⟩:=hc
   split at hc
   ·cases hc
   ·simp only [Option.bind_eq_some_iff] at hc
    obtain ⟨x',hx,i',hi,e⟩:=hc;cases e
    exact Res.at (zxR h ho ht hs hx hi hout) css
  ·rename_i m e ht
   simp only [Option.pure_def,Option.bind_eq_bind,Option.bind_eq_some_iff] at hc
   obtain ⟨s,hs,hc⟩:=hc
   split at hc
   ·cases hc
   ·simp only [Option.bind_eq_some_iff] at hc
    obtain ⟨x',hx,i',hi,e⟩:=hc;cases e
    exact Res.at (zwj h ho ht hs hx hi hout) css
  ·cases hc
 ·rename_i t x i ho
  split at hc
  ·rename_i m e ht
   simp only [Option.pure_def,Option.bind_eq_bind,Option.bind_eq_some_iff] at hc
   obtain ⟨s,hs,g,hg,x',hx,i',hi,e⟩:=hc;cases e
   exact Res.at (zAH h ho ht hs hg hx hi hout) css
  ·cases hc
 ·rename_i t x kx ok ho
  split at hc
  ·rename_i kt e ht
   simp only [Option.pure_def,Option.bind_eq_bind,Option.bind_eq_some_iff] at hc
   obtain ⟨kk,hkk,z,hz,x',hx,k',hk,e⟩:=hc;cases e
   exact Res.at (zzy h ho ht hkk hz hx hk hout) css
  ·cases hc
 ·rename_i t m kx x ho
  split at hc
  ·rename_i kt e ht
   simp only [Option.pure_def,Option.bind_eq_bind,Option.bind_eq_some_iff] at hc
   obtain ⟨kk,hkk,m',hm,k',hk,x',hx,e⟩:=hc;cases e
   exact Res.at (zzz h ho ht hkk hm hk hx hout) css
  ·cases hc
 ·rename_i t x ho
  split at hc
  ·rename_i kt e ht
   obtain ⟨x',hx,rfl⟩:=Option.map_eq_some_iff.1 hc
   exact Res.at (zxW h hn0 ho ht hx hout) css
  ·cases hc
 ·obtain ⟨x',hx,rfl⟩:=Option.map_eq_some_iff.1 hc
  exact hout.elim
 ·rename_i x ho
  obtain ⟨x',hx,rfl⟩:=Option.map_eq_some_iff.1 hc
  exact Res.at (zxP h ho hx hout) css
 ·rename_i x i ho
  simp only [Option.pure_def,Option.bind_eq_bind,Option.bind_eq_some_iff] at hc
  obtain ⟨x',hx,e⟩:=hc;cases e
  exact Res.at (zAF h ho hx hout) css
 ·rename_i args ts ho
  split at hc
  ·rename_i x t hxs hts
   have ea:args = #[x]:=by apply Array.ext';simpa using hxs
   have et:ts = #[t]:=by apply Array.ext';simpa using hts
   subst ea;subst et
   split at hc
   ·rename_i e ht
    obtain ⟨x',hx,rfl⟩:=Option.map_eq_some_iff.1 hc
    exact Res.at (zAI h ho ht hx hout) css
   ·rename_i ht
    obtain ⟨x',hx,rfl⟩:=Option.map_eq_some_iff.1 hc
    exact Res.at (zzw h ho ht hx hout) css
   ·rename_i kt e ht
    obtain ⟨x',hx,rfl⟩:=Option.map_eq_some_iff.1 hc
    exact Res.at (zzv h ho ht hx hout) css
   ·cases hc
  ·cases hc
 ·rename_i args ts ho
  split at hc
  ·rename_i x t hxs hts
   have ea:args = #[x]:=by apply Array.ext';simpa using hxs
   have et:ts = #[t]:=by apply Array.ext';simpa using hts
   subst ea;subst et
   split at hc
   ·rename_i e ht
    simp only [Option.pure_def,Option.bind_eq_bind,Option.bind_eq_some_iff] at hc
    obtain ⟨s,hs,z,hz,hc⟩:=hc
    split at hc
    ·cases hc
    ·rename_i hcond
     simp only [Option.bind_eq_some_iff] at hc
     obtain ⟨x',hx,e⟩:=hc;cases e
     exact Res.at (zxO h ho ht hs hz (by omega) hx hout) css
   ·cases hc
  ·cases hc
 ·rename_i args ts ho
  split at hc
  ·rename_i x y t u' hxs hts
   have ea:args = #[x,y]:=by apply Array.ext';simpa using hxs
   have et:ts = #[t,u']:=by apply Array.ext';simpa using hts
   subst ea;subst et
   split at hc
   ·rename_i e ht
    simp only [Option.pure_def,Option.bind_eq_bind,Option.bind_eq_some_iff] at hc
    obtain ⟨s,hs,b,hb,us,hus,z,hz,hc⟩:=hc
    split at hc
    ·cases hc
    ·rename_i hcond
     simp only [Option.bind_eq_some_iff] at hc
     obtain ⟨x',hx,y',hy,e⟩:=hc;cases e
     have hu : ∃ e2,P.underlying u'=some (.slice e2):=by
      unfold zoa at hus
      split at hus
      ·rename_i e2 h2;exact ⟨e2,h2⟩
      ·cases hus
     obtain ⟨e2,hu⟩:=hu
     exact Res.at (zAD h hn0 ho ht hu hs hb (by omega) hz (by omega) hx hy hout) css
   ·cases hc
  ·cases hc
 ·rename_i args ts ho
  split at hc
  ·rename_i x y t u' hxs hts
   have ea:args = #[x,y]:=by apply Array.ext';simpa using hxs
   have et:ts = #[t,u']:=by apply Array.ext';simpa using hts
   subst ea;subst et
   simp only [Option.pure_def,Option.bind_eq_bind,Option.bind_eq_some_iff] at hc
   obtain ⟨x',hx,y',hy,e⟩:=hc;cases e
   exact Res.at (zxT (mx:=true) h ho hx hy hout) css
  ·cases hc
 ·rename_i args ts ho
  split at hc
  ·rename_i x y t u' hxs hts
   have ea:args = #[x,y]:=by apply Array.ext';simpa using hxs
   have et:ts = #[t,u']:=by apply Array.ext';simpa using hts
   subst ea;subst et
   simp only [Option.pure_def,Option.bind_eq_bind,Option.bind_eq_some_iff] at hc
   obtain ⟨x',hx,y',hy,e⟩:=hc;cases e
   exact Res.at (zxT (mx:=false) h ho hx hy hout) css
  ·cases hc
 ·rename_i f args ts ho
  split at hc
  ·rename_i hsz
   simp only [Option.pure_def,Option.bind_eq_bind,Option.bind_eq_some_iff] at hc
   obtain ⟨ys,hys,e⟩:=hc;cases e
   obtain ⟨h1,h2⟩:=zjg h (by simpa using hsz) hys
   refine zoJ h hC hn ho (f:=f) (caps := #[]) rfl (by simpa using h1) (fun i hi=>?_) hout css
   have:=h2 i (by omega)
   simpa using this
  ·cases hc
 ·rename_i g args ts hnf ho
  split at hc
  ·rename_i hsz
   simp only [Option.pure_def,Option.bind_eq_bind,Option.bind_eq_some_iff] at hc
   obtain ⟨g',hg,ys,hys,e⟩:=hc;cases e
   obtain ⟨h1,h2⟩:=zjg h (by simpa using hsz) hys
   have hgs:=zO h hg
   simp only [zm] at hout
   generalize g'.ev ρ=vg at hout hgs
   generalize hge:a.eval g=ge at hgs
   have hl:(evs ρ ys).length=args.size:=by simpa using h1
   have hm:(args.map a.eval).size=args.size:=by simp
   have ea:(args.toList.map a.eval).toArray=args.map a.eval:=by apply Array.ext';simp
   rw [ea] at h2
   cases hgs with
   | fn f cs caps h3 h4 =>
    refine zoJ h hC hn ho (f:=f) (caps:=caps) hge (by simp [hl,h3]) (fun i hi=>?_) hout css
    rw [ziR,hm]
    by_cases hlt:i < args.size
    ·rw [if_pos hlt]
     have:=h2 i (by simpa using hlt)
     rwa [show (evs ρ ys++cs).getD i .undef=(evs ρ ys).getD i .undef by simp [List.getD,List.getElem?_append_left (show i < (evs ρ ys).length by omega)]]
    ·rw [if_neg hlt]
     obtain ⟨q,rfl⟩ : ∃ q,i=(evs ρ ys).length+q:=⟨i - (evs ρ ys).length,by omega⟩
     rw [zhq,show (evs ρ ys).length+q - args.size=q by omega]
     exact h4 q (by simp at hi;omega)
   | d y v' hy =>
    cases hy with
    | fn f cs caps h3 h4 =>
     refine zoJ h hC hn ho (f:=f) (caps:=caps) hge (by simp [hl,h3]) (fun i hi=>?_) hout css
     rw [ziR,hm]
     by_cases hlt:i < args.size
     ·rw [if_pos hlt]
      have:=h2 i (by simpa using hlt)
      rwa [show (evs ρ ys++cs.map V.d).getD i .undef=(evs ρ ys).getD i .undef by simp [List.getD,List.getElem?_append_left (show i < (evs ρ ys).length by omega)]]
     ·rw [if_neg hlt]
      obtain ⟨q,rfl⟩ : ∃ q,i=(evs ρ ys).length+q:=⟨i - (evs ρ ys).length,by omega⟩
      rw [zhq,show (evs ρ ys).length+q - args.size=q by omega]
      have hq:q < cs.length:=by simp at hi;omega
      rw [show (cs.map V.d).getD q .undef = .d (cs.getD q .nil) by simp [List.getD,hq]]
      exact .d _ _ (h4 q hq)
    | _=>exact hout.elim
   | _=>exact hout.elim
  ·cases hc
 ·cases hc
end
end Go.Ab
namespace Go.Ab
open Go
def Eff.nc : Eff → Prop
  | .call _ _ => False
  | @Eff.need _ _ r => r.nc
  | .given _ _ => False
  | @Eff.alt _ _ r s => r.nc ∧ s.nc
  | .elem _ _ f => ∀ x, (f x).nc
  | .find _ _ f => ∀ x, (f x).nc
  | _ => True
theorem Eff.nc_out {C : zh} {M M' : Nat → Option Ob} {n : Nat} {v : V} {u : Upd} {k : Nat} : ∀ (e : Eff), e.nc → e.Out C M n v u k → e.Out C M' n v u k
  | .bad, _, h => h
  | .ok _ _ _, _, h => h
  | @Eff.need p _ r, hn, h => ⟨h.1, nc_out r hn h.2⟩
  | .given _ _, hn, _ => hn.elim
  | @Eff.alt p _ r s, hn, h => h.elim (fun h => .inl ⟨h.1, nc_out r hn.1 h.2⟩) (fun h => .inr (nc_out s hn.2 h))
  | .elem xs i f, hn, ⟨x, hx, h⟩ => ⟨x, hx, nc_out (f x) (hn x) h⟩
  | .find es k f, hn, ⟨x, hx, h⟩ => ⟨x, hx, nc_out (f x) (hn x) h⟩
  | .call _ _, hn, _ => hn.elim
theorem zsk (k : IntKind) (n : Int) : (vi k n).nc := ⟨trivial, trivial⟩
theorem zfk (v : V) : (zcT v).nc := by cases v <;> trivial
theorem zJ {b : Bool} {x y : Eff} (hx : x.nc) (hy : y.nc) : (cond b x y).nc := by cases b <;> assumption
theorem zAl (op : BinOp) (a b : BitVec 64) : (zsC op a b).nc := by cases op <;> trivial
theorem zAk (op : BinOp) (k : IntKind) (a b : Int) : (zqf op k a b).nc := by cases op <;> first | trivial | exact zsk _ _
theorem zAm (op : BinOp) (x y : V) : (zsD op x y).nc := by
  unfold zsD
  split
  · exact zAl _ _ _
  · split <;> trivial
  · exact zJ (zAk _ _ _ _) trivial
  · unfold zvx; split <;> trivial
  · trivial
theorem zjc (cs : List V) (o : Nat) (g : Option Nat) : (zaF cs o g).nc := by
  cases g
  · exact zfk _
  · exact zJ trivial trivial
theorem zkO (x : D) (o : Nat) (g : Option Nat) : (zgx x o g).nc := by
  unfold zgx; split
  · split
    · split <;> trivial
    · trivial
  · split
    · exact zJ trivial trivial
    · trivial
theorem zyW (M : Nat → Option Ob) (g : Option Nat) (a : V) : (zaD M g a).nc := by
  unfold zaD; split
  · split
    · exact zjc _ _ _
    · trivial
  · split
    · intro x; dsimp only; split
      · exact zJ (zJ trivial trivial) (zkO _ _ _)
      · exact zkO _ _ _
    · trivial
  · split
    · exact zJ (zJ trivial trivial) (zkO _ _ _)
    · exact zkO _ _ _
  · split
    · split <;> trivial
    · exact zJ trivial trivial
  · trivial
theorem zxp (M : Nat → Option Ob) (m : Nat) (a x : V) : (zf8 M m a x).nc := by
  unfold zf8; split
  · split
    · exact zJ trivial trivial
    · trivial
  · split
    · refine zJ trivial (zJ (zJ trivial trivial) (zJ ?_ trivial))
      intro z; dsimp only; split
      · exact zJ trivial trivial
      · trivial
    · trivial
  · trivial
theorem ziW (len : Nat) (lo hi : Option V) (f : Nat → Nat → Eff) (hf : ∀ a b, (f a b).nc) : (ze6.bounds len lo hi f).nc := by
  unfold ze6.bounds; split
  · exact hf _ _
  · exact hf _ _
  · exact hf _ _
  · exact hf _ _
  · trivial
theorem zxo (M : Nat → Option Ob) (n s : Nat) (x : V) (lo hi : Option V) : (ze6 M n s x lo hi).nc := by
  unfold ze6; split
  · exact zJ (ziW _ _ _ _ fun _ _ => trivial) trivial
  · split
    · exact zJ (ziW _ _ _ _ fun _ _ => trivial) trivial
    · exact zJ (ziW _ _ _ _ fun _ _ => trivial) trivial
    · trivial
  · split
    · exact zJ (ziW _ _ _ _ fun _ _ => trivial) trivial
    · trivial
  · trivial
theorem zxk (M : Nat → Option Ob) (n s l : Nat) (z : List V) (ps : List (Nat × V)) : (za5 M n s l z ps).nc := by
  unfold za5; split <;> trivial
theorem zrx (M : Nat → Option Ob) (n s l : Nat) (z : List V) (ps : List (Nat × V)) : (zhR M n s l z ps).nc := by
  unfold zhR; split <;> trivial
theorem zyU (n l : Nat) (z : List V) (ps : List (Nat × V)) : (zoY n l z ps).nc := by
  unfold zoY; split
  · refine zJ ?_ trivial; split <;> trivial
  · trivial
theorem zry (z : List V) (ok : Bool) (es : List (D × D)) (k : D) : (ziU.go z ok es k).nc := by
  intro r; cases r <;> cases ok <;> first | trivial | exact zfk _
theorem zyX (M : Nat → Option Ob) (kk : KK) (z : List V) (x k : V) (ok : Bool) : (ziU M kk z x k ok).nc := by
  unfold ziU; split
  · refine zJ ?_ trivial
    split
    · exact zry _ _ _ _
    · split
      · exact zry _ _ _ _
      · trivial
    · trivial
  · trivial
theorem zyY (M : Nat → Option Ob) (kk : KK) (m k x : V) : (zmU M kk m k x).nc := by
  unfold zmU; split
  · split
    · refine zJ trivial fun r => ?_
      cases r <;> trivial
    · trivial
  · trivial
theorem zxn (M : Nat → Option Ob) (n : Nat) (x : V) : (zkb M n x).nc := by
  unfold zkb; split
  · trivial
  · split <;> trivial
  · trivial
theorem zxm (M : Nat → Option Ob) (x : V) : (zjx M x).nc := by
  unfold zjx; split
  · split <;> trivial
  · trivial
theorem zyV (M : Nat → Option Ob) (x : V) : (zmT M x).nc := by
  unfold zmT; split
  · trivial
  · split <;> trivial
  · trivial
theorem zxl (M : Nat → Option Ob) (s : Nat) (z : List V) (x : V) : (zjq M s z x).nc := by
  unfold zjq; split
  · trivial
  · split
    · exact zJ trivial trivial
    · trivial
  · split
    · exact zJ trivial trivial
    · trivial
  · trivial
def CO.isCall : CO → Bool
  | .call _ _ | .callv _ _ => true
  | _ => false
def CO.isLen : CO → Bool
  | .len _ => true
  | _ => false
theorem Eff.nc_given : ∀ (e : Eff), e.nc → e.Given
  | .bad, _ => trivial
  | .ok _ _ _, _ => trivial
  | @Eff.need p _ r, hn => fun _ => nc_given r hn
  | .given _ _, hn => hn.elim
  | @Eff.alt p _ r s, hn => ⟨fun _ => nc_given r hn.1, nc_given s hn.2⟩
  | .elem xs i f, hn => fun x _ => nc_given (f x) (hn x)
  | .find es k f, hn => fun x _ => nc_given (f x) (hn x)
  | .call _ _, hn => hn.elim
theorem zty {co : CO} (h : co.isCall = false) (hl : co.isLen = false) (ρ : Nat → V) (M : Nat → Option Ob) (n : Nat) : (zm co ρ M n).nc := by
  cases co <;> simp only [zm]
  case mv x => exact zfk _
  case pick c x y => split <;> first | exact zfk _ | trivial | (split <;> trivial)
  case bin => exact zAm _ _ _
  case eqB => split <;> trivial
  case eqN => unfold zvK; split <;> trivial
  case mm => unfold mmV; split
             · exact zJ (zJ trivial trivial) trivial
             · trivial
  case eqS => unfold zvL vb; split
              · exact zJ (by split <;> trivial) trivial
              · trivial
  case un => split <;> first | exact zsk _ _ | trivial
  case conv => unfold zsh; split
               · split <;> first | exact zsk _ _ | trivial
               · split <;> first | exact zsk _ _ | trivial
               · trivial
  case alloc => exact zJ trivial trivial
  case box => exact zJ trivial trivial
  case build => refine zJ ?_ trivial; split <;> trivial
  case bslice => exact ⟨zxk _ _ _ _ _ _, zJ ⟨zrx _ _ _ _ _ _, zyU _ _ _ _⟩ (zrx _ _ _ _ _ _)⟩
  case load => exact zyW _ _ _
  case store => exact zxp _ _ _ _
  case nilck => split <;> trivial
  case fnew => trivial
  case mkmap => trivial
  case mkslice => split
                  · exact zJ trivial trivial
                  · trivial
  case slice => exact zxo _ _ _ _ _ _
  case faddr => split <;> first | trivial | exact zJ trivial trivial
  case fld => split
              · exact zjc _ _ _
              · trivial
  case iaddr => unfold ztl; split
                · exact zJ (fun _ => trivial) trivial
                · split
                  · exact zJ trivial trivial
                  · trivial
                · split
                  · exact zJ trivial trivial
                  · trivial
                · split
                  · exact zJ trivial trivial
                  · trivial
                · trivial
  case iaddrA => split <;> trivial
  case idx => split
              · split
                · exact zjc _ _ _
                · trivial
              · trivial
  case look => exact zyX _ _ _ _ _ _
  case mupd => exact zyY _ _ _ _ _
  case range => exact zxn _ _ _
  case next => trivial
  case entry => exact zxm _ _
  case lenm => exact zyV _ _
  case clear => exact zxl _ _ _ _
  case ext => split
              · split <;> trivial
              · exact zfk _
              · trivial
  case len => cases hl
  case lens => split <;> trivial
  case app => unfold znV; split
              · unfold zsy; split <;> first | trivial | (split <;> first | trivial | (refine zJ ?_ trivial; split <;> first | trivial | (split <;> first | trivial | exact zJ trivial trivial)))
              · split <;> first | trivial | (split <;> first | trivial | exact zJ trivial trivial)
  all_goals cases h
theorem zeo {ρ ρ' : Nat → V} {x : Arg} (h : ∀ t ∈ x.slots, ρ t = ρ' t) : x.ev ρ = x.ev ρ' := by
  cases x with
  | t n => exact h n (by simp [Arg.slots])
  | c v => rfl
theorem ziy {ρ ρ' : Nat → V} : ∀ {xs : List Arg}, (∀ t ∈ xs.flatMap Arg.slots, ρ t = ρ' t) → evs ρ xs = evs ρ' xs
  | [], _ => rfl
  | x :: r, h => by
    simp only [List.flatMap_cons, List.mem_append] at h
    simp only [evs, zeo (x := x) fun t ht => h t (.inl ht), ziy (xs := r) fun t ht => h t (.inr ht)]
theorem zjH {ρ ρ' : Nat → V} : ∀ {ps : List (Nat × Nat × Arg)}, (∀ t ∈ (ps.map fun p => p.2.2).flatMap Arg.slots, ρ t = ρ' t) → zco ρ ps = zco ρ' ps
  | [], _ => rfl
  | (o, s, x) :: r, h => by
    simp only [List.map_cons, List.flatMap_cons, List.mem_append] at h
    simp only [zco, zeo (x := x) fun t ht => h t (.inl ht), zjH (ps := r) fun t ht => h t (.inr ht)]
theorem zj7 {ρ ρ' : Nat → V} : ∀ {ps : List (Nat × Arg)}, (∀ t ∈ (ps.map fun p => p.2).flatMap Arg.slots, ρ t = ρ' t) → zK ρ ps = zK ρ' ps
  | [], _ => rfl
  | (o, x) :: r, h => by
    simp only [List.map_cons, List.flatMap_cons, List.mem_append] at h
    simp only [zK, zeo (x := x) fun t ht => h t (.inl ht), zj7 (ps := r) fun t ht => h t (.inr ht)]
theorem zrC {ρ ρ' : Nat → V} {x : Option Arg} (h : ∀ y ∈ x.toList, ∀ t ∈ y.slots, ρ t = ρ' t) : oev ρ x = oev ρ' x := by
  cases x with
  | none => rfl
  | some y => simp only [oev, zeo (h y (by simp))]
theorem zui {ρ ρ' : Nat → V} (co : CO) (h : ∀ t ∈ co.slots, ρ t = ρ' t) (M : Nat → Option Ob) (n : Nat) : zm co ρ M n = zm co ρ' M n := by
  have e1 : ∀ x, x ∈ co.operands → x.ev ρ = x.ev ρ' := fun x hx => zeo fun t ht => h t (List.mem_flatMap.2 ⟨x, hx, ht⟩)
  cases co <;> simp only [CO.operands, List.mem_cons, List.not_mem_nil, or_false, forall_eq_or_imp, forall_eq] at e1
  case build z ps => simp only [zm, zjH (ps := ps) h]
  case bslice s l z ps => simp only [zm, zj7 (ps := ps) h]
  case fnew f xs => simp only [zm, ziy (xs := xs) h]
  case call f xs => simp only [zm, ziy (xs := xs) h]
  case callv x xs =>
    simp only [zm, ziy (xs := xs) fun t ht => h t (by simp only [CO.slots, CO.operands, List.flatMap_cons, List.mem_append]; exact .inr ht), e1.1]
  case slice s x lo hi =>
    simp only [zm, e1.1, zrC (x := lo) fun y hy t ht => h t (List.mem_flatMap.2 ⟨y, by simp only [CO.operands, List.mem_cons, List.mem_append]; exact .inr (.inl hy), ht⟩),
      zrC (x := hi) fun y hy t ht => h t (List.mem_flatMap.2 ⟨y, by simp only [CO.operands, List.mem_cons, List.mem_append]; exact .inr (.inr hy), ht⟩)]
  all_goals simp only [zm, e1]
mutual
theorem zfZ {M M' : Nat → Option Ob} : ∀ (k : Nat) (v : V), (∀ i ∈ V.deepIds k v, M i = M' i) → v.freeze M false k = v.freeze M' false k
  | 0, _, _ => rfl
  | k + 1, v, h => by
    cases v <;> simp only [V.freeze, V.deepIds] at h ⊢
    case own id => rw [h id (by simp)]
    case map id => rw [h id (by simp)]
    case view id o l => rw [h id (by simp)]
    case bown id l => rfl
    case agg cs => rw [freezes_agree k cs h]
    case tup cs => rw [freezes_agree k cs h]
    case fn f cs => rw [freezes_agree k cs h]
    case ptr id o => cases o <;> rfl
theorem freezes_agree {M M' : Nat → Option Ob} : ∀ (k : Nat) (l : List V), (∀ i ∈ deepIdss k l, M i = M' i) → freezes M false k l = freezes M' false k l
  | 0, _, _ => rfl
  | _ + 1, [], _ => rfl
  | k + 1, v :: r, h => by
    simp only [deepIdss, List.mem_append] at h
    simp only [freezes, zfZ k v fun i hi => h i (.inl hi), freezes_agree k r fun i hi => h i (.inr hi)]
end
theorem zio {M M' : Nat → Option Ob} {z : List V} (h : ∀ i ∈ deepIdss 30 z, M i = M' i) : zc2 M z = zc2 M' z := by
  simp only [zc2, freezes_agree 30 z h]
theorem go_agree {M M' : Nat → Option Ob} {s len : Nat} : ∀ (ps : List (Nat × V)) (acc : Option (List D)), (∀ p ∈ ps, ∀ i ∈ V.deepIds 30 p.2, M i = M' i) → za5.go M s len ps acc = za5.go M' s len ps acc
  | [], _, _ => by simp [za5.go]
  | (i, v) :: r, none, _ => by simp [za5.go]
  | (i, v) :: r, some xs, h => by
    simp only [za5.go, zfZ 30 v (h (i, v) (by simp))]
    split
    · rename_i y _
      cases D.fits s y && Nat.blt i len
      · rfl
      · exact go_agree r _ fun p hp => h p (by simp [hp])
    · rfl
theorem zoT {ρ : Nat → V} : ∀ {xs : List Arg} {x : Arg} {i : Nat}, x ∈ xs → i ∈ V.deepIds 30 (x.ev ρ) → i ∈ zeh ρ xs
  | y :: r, x, i, hx, hi => by
    simp only [zeh, List.mem_append]
    rcases List.mem_cons.1 hx with rfl | hx
    · exact .inl hi
    · exact .inr (zoT hx hi)
theorem zmn {ρ : Nat → V} : ∀ {ps : List (Nat × Arg)} {p : Nat × V} {i : Nat}, p ∈ zK ρ ps → i ∈ V.deepIds 30 p.2 → i ∈ zeh ρ (ps.map fun p => p.2)
  | (o, x) :: r, p, i, hp, hi => by
    simp only [zK, List.mem_cons] at hp
    simp only [List.map_cons, zeh, List.mem_append]
    rcases hp with rfl | hp
    · exact .inl hi
    · exact .inr (zmn hp hi)
theorem zuh {co : CO} (hc : co.isCall = false) {ρ : Nat → V} {M M' : Nat → Option Ob} (h : ∀ i ∈ zaI co ρ M, M i = M' i) (n : Nat) : zm co ρ M n = zm co ρ M' n := by
  have one : ∀ (v : V) (i : Nat), (v = .own i ∨ (∃ o, v = .ptr i o) ∨ ∃ j o, v = .eptr i j o) → i ∈ V.deepIds 30 v := by
    rintro v i (rfl | ⟨o, rfl⟩ | ⟨j, o, rfl⟩) <;> simp [V.deepIds]
  have onev : ∀ (i o l : Nat), i ∈ V.deepIds 30 (.view i o l) := fun i o l => by simp [V.deepIds]
  have oneb : ∀ (i l : Nat), i ∈ V.deepIds 30 (.bown i l) := fun i l => by simp [V.deepIds]
  have onem : ∀ (i : Nat), i ∈ V.deepIds 30 (.map i) := fun i => by simp [V.deepIds]
  have onei : ∀ (i : Nat), i ∈ V.deepIds 30 (.iter i) := fun i => by simp [V.deepIds]
  have e1 : ∀ x, x ∈ co.operands → (∀ i ∈ zeh ρ co.operands, M i = M' i) → ∀ i ∈ V.deepIds 30 (x.ev ρ), M i = M' i := fun x hx h i hi => h i (zoT hx hi)
  cases co
  case bslice s l z ps =>
    simp only [zaI, CO.operands, List.mem_append] at h
    simp only [zm, zmJ, za5, zhR, zio (z := z) fun i hi => h i (.inr hi)]
    rw [go_agree (M := M) (M' := M') (zK ρ ps) _ fun p hp i hi => h i (.inl (zmn hp hi))]
  case mkslice s b z x y =>
    simp only [zaI, CO.operands, List.mem_append] at h
    simp only [zm, zio (z := z) fun i hi => h i (.inr hi)]
  case load g x =>
    have h1 := e1 x (by simp [CO.operands]) h
    simp only [zm]
    generalize x.ev ρ = v at h1
    unfold zaD
    cases v
    case ptr id o => simp only; rw [h1 _ (one _ _ (by simp))]
    case eptr id j o => simp only; rw [h1 _ (one _ _ (by simp))]
    all_goals first | rfl | (rename_i y; cases y <;> rfl)
  case store m x y =>
    have h1 := e1 x (by simp [CO.operands]) h
    have h2 := e1 y (by simp [CO.operands]) h
    simp only [zm]
    generalize x.ev ρ = v at h1
    generalize y.ev ρ = v2 at h2
    unfold zf8
    cases v
    case ptr id o => simp only; rw [h1 _ (one _ _ (by simp))]
    case eptr id j o => simp only; rw [h1 _ (one _ _ (by simp)), zfZ 30 v2 h2]
    all_goals first | rfl | (rename_i y; cases y <;> rfl)
  case slice s x lo hi =>
    have h1 := e1 x (by simp [CO.operands]) h
    simp only [zm]
    generalize x.ev ρ = v at h1
    unfold ze6
    cases v
    case own id => simp only; rw [h1 _ (one _ _ (by simp))]
    case view id o l => simp only; rw [h1 _ (onev _ _ _)]
    all_goals first | rfl | (rename_i y; cases y <;> rfl)
  case iaddr s x y =>
    have h1 := e1 x (by simp [CO.operands]) h
    simp only [zm]
    generalize x.ev ρ = v at h1
    generalize y.ev ρ = v2
    have h0 : ∀ id, v = .own id → M id = M' id := fun id e => h1 _ (one _ _ (.inl e))
    unfold ztl
    cases v
    case own id =>
      have h0 := h0 id rfl
      cases v2 <;> first | rfl | skip
      rename_i y
      cases y <;> first | rfl | skip
      simp only [h0]
    case view id o l =>
      have h0 := h1 _ (onev id o l)
      cases v2 <;> first | rfl | skip
      rename_i y
      cases y <;> first | rfl | skip
      simp only [h0]
    case bown id l =>
      have h0 := h1 _ (oneb id l)
      cases v2 <;> first | rfl | skip
      rename_i y
      cases y <;> first | rfl | skip
      simp only [h0]
    all_goals first | rfl | (rename_i y; cases y <;> first | rfl | (cases v2 <;> first | rfl | (rename_i z; cases z <;> rfl)))
  case len x =>
    have h1 := e1 x (by simp [CO.operands]) h
    simp only [zm]
    generalize x.ev ρ = v at h1
    unfold zqM
    cases v
    case own id => simp only; rw [h1 _ (one _ _ (by simp))]
    all_goals first | rfl | (rename_i y; cases y <;> rfl)
  case lenm x =>
    have h1 := e1 x (by simp [CO.operands]) h
    simp only [zm]
    generalize x.ev ρ = v at h1
    unfold zmT
    cases v
    case map id => simp only; rw [h1 _ (onem _)]
    all_goals first | rfl | (rename_i y; cases y <;> rfl)
  case entry x =>
    have h1 := e1 x (by simp [CO.operands]) h
    simp only [zm]
    generalize x.ev ρ = v at h1
    unfold zjx
    cases v
    case iter id => simp only; rw [h1 _ (onei _)]
    all_goals first | rfl | (rename_i y; cases y <;> rfl)
  case range x =>
    have h1 := e1 x (by simp [CO.operands]) h
    simp only [zm]
    generalize x.ev ρ = v at h1
    unfold zkb
    cases v
    case map id => simp only; rw [h1 _ (onem _)]
    all_goals first | rfl | (rename_i y; cases y <;> rfl)
  case clear s z x =>
    simp only [zaI, CO.operands, List.mem_append] at h
    have h1 := e1 x (by simp [CO.operands]) (fun i hi => h i (.inl hi))
    simp only [zm, zjq, zio (z := z) fun i hi => h i (.inr hi)]
    generalize x.ev ρ = v at h1
    cases v
    case own id => cases zc2 M' z <;> first | rfl | (simp only; rw [h1 _ (one _ _ (by simp))])
    case view id o l => cases zc2 M' z <;> first | rfl | (simp only; rw [h1 _ (onev _ _ _)])
    all_goals (cases zc2 M' z <;> rfl)
  case look kk z x k ok =>
    have h1 := e1 x (by simp [CO.operands]) h
    simp only [zm]
    generalize x.ev ρ = v at h1
    generalize k.ev ρ = v2
    unfold ziU
    cases v2 <;> first | rfl | skip
    cases v
    case map id => simp only; rw [h1 _ (onem _)]
    all_goals first | rfl | (rename_i y; cases y <;> rfl)
  case mupd kk m k x =>
    have h1 := e1 m (by simp [CO.operands]) h
    have h2 := e1 x (by simp [CO.operands]) h
    simp only [zm]
    generalize m.ev ρ = v at h1
    generalize k.ev ρ = v3
    generalize x.ev ρ = v2 at h2
    unfold zmU
    rw [zfZ 30 v2 h2]
    cases v
    case map id =>
      have h0 := h1 _ (onem id)
      cases v3 <;> first | rfl | skip
      cases V.freeze M' false 30 v2 <;> first | rfl | (simp only [h0])
    all_goals (cases v3 <;> rfl)
  case app s b x y =>
    have h1 := e1 x (by simp [CO.operands]) h
    have h2 := e1 y (by simp [CO.operands]) h
    simp only [zm, znV]
    generalize x.ev ρ = v at h1
    generalize y.ev ρ = v2 at h2
    have e2 : zfQ M s v2 = zfQ M' s v2 := by
      unfold zfQ
      cases v2
      case own id => simp only; rw [h2 _ (one _ _ (by simp))]
      all_goals first | rfl | (rename_i y; cases y <;> rfl)
    rw [e2]
    split
    · unfold zsy
      cases v2
      case bown j m _ =>
        simp only
        rw [h2 _ (oneb j m)]
        cases v
        case bown i l => simp only; rw [h1 _ (oneb i l)]
        all_goals rfl
      all_goals rfl
    · cases v
      case own id => simp only; rw [h1 _ (one _ _ (by simp))]
      all_goals first | rfl | (rename_i y; cases y <;> rfl)
  case call => cases hc
  case callv => cases hc
  all_goals rfl
theorem zpZ {M : Nat → Option Ob} {ds : List D} : ∀ (vs : List V), zL M (vs ++ ds.map .d) = zL M vs
  | [] => by
    induction ds with
    | nil => rfl
    | cons d r ih => simpa [zL, V.reach] using ih
  | v :: r => by simp only [List.cons_append, zL, zpZ r]
def zgG (C : zh) : Prop :=
  ∀ (M M' : Nat → Option Ob) (n f : Nat) (vs : List V) (v : V) (u : Upd) (k : Nat), (∀ i ∈ zL M vs, M i = M' i) → C M n f vs v u k → C M' n f vs v u k
theorem zxr {C : zh} (hC : zgG C) {co : CO} {ρ ρ' : Nat → V} {M M' : Nat → Option Ob} {n : Nat} {v : V} {u : Upd} {k : Nat} (hρ : ∀ t ∈ co.slots, ρ t = ρ' t)
    (hM : ∀ i ∈ zaI co ρ M, M i = M' i) (h : (zm co ρ M n).Out C M n v u k) : (zm co ρ' M' n).Out C M' n v u k := by
  rw [← zui co hρ M' n]
  cases hc : co.isCall with
  | false =>
    rw [← zuh hc hM n]
    cases hl : co.isLen with
    | false => exact Eff.nc_out _ (zty hc hl ρ M n) h
    | true =>
      cases co <;> first | (cases hl; done) | skip
      rename_i x
      simp only [zm, zqM] at h ⊢
      split at h
      · exact h
      · split at h
        · rename_i hM; exact h
        · exact h.elim
      · exact h
      · exact h
      · exact h
      · exact h.elim
  | true =>
    cases co <;> first | (cases hc; done) | skip
    case call f xs => exact hC _ _ _ _ _ _ _ _ hM h
    case callv x xs =>
      simp only [zm, zaI] at h hM ⊢
      generalize x.ev ρ = g at h hM
      cases g <;> first | exact h.elim | skip
      case d y =>
        cases y <;> first | exact h.elim | skip
        refine hC _ _ _ _ _ _ _ _ (fun i hi => hM i ?_) h
        simp only [zwG, List.append_nil]
        rwa [zpZ] at hi
      case fn f cs => exact hC _ _ _ _ _ _ _ _ hM h
theorem zvE {P : Program} {o : Oper} {x : Arg} (h : zbC P o = some (.len x)) : ∃ t y, arg P t y = some x := by
  unfold zbC at h
  split at h
  all_goals try (simp only [Option.map_eq_some_iff, Option.pure_def, Option.bind_eq_bind, Option.bind_eq_some_iff, Option.some.injEq, reduceCtorEq, and_false, exists_false] at h; done)
  all_goals try (split at h <;> (simp only [Option.map_eq_some_iff, Option.pure_def, Option.bind_eq_bind, Option.bind_eq_some_iff, Option.some.injEq, reduceCtorEq, and_false, exists_false] at h; done))
  all_goals split at h
  all_goals try (simp only [Option.ite_none_left_eq_some, Option.map_eq_some_iff, Option.pure_def, Option.bind_eq_bind, Option.bind_eq_some_iff, Option.some.injEq, reduceCtorEq, and_false, exists_false] at h; done)
  all_goals split at h
  all_goals try (simp only [Option.ite_none_left_eq_some, Option.map_eq_some_iff, Option.pure_def, Option.bind_eq_bind, Option.bind_eq_some_iff, Option.some.injEq, reduceCtorEq, and_false, exists_false] at h; done)
  obtain ⟨y, hy, e⟩ := Option.map_eq_some_iff.1 h
  cases e
  exact ⟨_, _, hy⟩
theorem znH {P : Program} {B : zx} {ρ : Nat → V} {M : Nat → Option Ob} {F : Nat → Prop} {σ : Nat → Option Nat} {a : Act} {w : World} (h : Sim B ρ M F σ a w) {o : Oper} {co : CO}
    (hc : zbC P o = some co) (n : Nat) : (zm co ρ M n).Given := by
  cases hcl : co.isCall with
  | true =>
    cases co <;> first | (cases hcl; done) | skip
    · trivial
    · simp only [zm]; split <;> trivial
  | false =>
    cases hl : co.isLen with
    | false => exact Eff.nc_given _ (zty hcl hl ρ M n)
    | true =>
      cases co <;> first | (cases hl; done) | skip
      rename_i x
      simp only [zm, zqM]
      split
      · rename_i s xs hx
        refine ⟨?_, trivial⟩
        have : ∃ v, zj (B.X σ M) w (.arr s xs) v := by
          obtain ⟨t, y, hy⟩ := zvE hc
          have := zW h hy
          rw [hx] at this
          cases this with
          | d _ _ hv => exact ⟨_, hv⟩
        obtain ⟨v, hv⟩ := this
        cases hv with
        | arr0 => simp
        | arr _ _ b off cap cv h1 h2 h3 h4 => exact h4
      · split
        · rename_i s xs hM
          refine ⟨?_, trivial⟩
          cases h.mem _ _ hM with
          | nilrow => simp
          | row _ _ b c e h1 h2 h3 h4 => exact h4
        · trivial
      · trivial
      · trivial
      · trivial
      · trivial
end Go.Ab
namespace Go.Ab
open Go
structure Rec where
 dst:Option Nat
 v:V
 u:Upd
 n:Nat
 k:Nat
 foot:zas
def zyc (C:zh) (co:CO) (ρ:Nat→V) (M:Nat→Option Ob) (n:Nat) (v:V) (u:Upd) (k:Nat):Prop :=
 (zm co ρ M n).Out C M n v u k ∨ ∃ s a b t,co = .pick (.t s) a b∧toB (ρ s)=some t∧(zcT (cond t (a.ev ρ) (b.ev ρ))).Out C M n v u k
def zc1 (g:Option (Nat×Bool)) (ρ:Nat→V):Option Bool :=
 match g with
 | none=>some true
 | some (s,b)=>match ρ s with
  | .tup []=>some false
  | v=>(toB v).map (· == b)
def ze7 (C:zh) (o:COp) (ρ:Nat→V) (M:Nat→Option Ob) (r:Rec):Prop :=
 r.dst=o.dst∧((zc1 o.guard ρ=some true∧zyc C o.op ρ M r.n r.v r.u r.k∧r.foot=⟨zaI o.op ρ M,r.u.map Prod.fst,zbm o.op ρ r.v,r.u⟩) ∨
  (zc1 o.guard ρ=some false∧r.v = .tup []∧r.u=[]∧r.k=0∧r.foot=⟨[],[],none,[]⟩))
inductive zcK (C:zh):List COp→(Nat→V)→(Nat→Option Ob)→Nat→List Rec→(Nat→V)→(Nat→Option Ob)→Nat→Prop where
 | nil (ρ M n):zcK C [] ρ M n [] ρ M n
 | cons {o l ρ M n r rs ρ' M' n'} : ze7 C o ρ M r→r.n=n→zcK C l (zd4 ρ r.dst r.v) (zq r.u M) (n+r.k) rs ρ' M' n'→zcK C (o::l) ρ M n (r::rs) ρ' M' n'
theorem zpx (dst:Option Nat) (v:V) (env:Env):(zY dst v env).get=zd4 env.get dst v:=by
 cases dst with
 | none=>rfl
 | some d =>
  funext t
  simp only [zY,Env.get,zd4]
  by_cases h:t=d
  ·subst h;simp
  ·have:Nat.beq d t=false:=by
    cases hb:Nat.beq d t
    ·rfl
    ·exact absurd (Nat.eq_of_beq_eq_true hb).symm h
   simp [this,h]
theorem zol (i:Nat) (x:Option Ob) (m:Mem):Mem.get ((i,x)::m)=zg m.get i x:=by
 funext j
 simp only [Mem.get,zg]
 by_cases h:j=i
 ·subst h;simp
 ·have:Nat.beq i j=false:=by
   cases hb:Nat.beq i j
   ·rfl
   ·exact absurd (Nat.eq_of_beq_eq_true hb).symm h
  simp [this,h]
theorem zf0 : ∀ (u:Upd) (m:Mem),(zV u m).get=zq u m.get
 | [],m=>rfl
 | (i,x)::r,m=>by
  simp only [zV,zq]
  rw [zf0 r,zol]
def zcu (δ:Dec) (ρ:Nat→V):Prop := ∀ s b,δ.get s=some b→toB (ρ s)=some b
theorem zqt : ∀ {δ:Dec} {d:Option Nat} {s:Nat} {b:Bool},Dec.get (Dec.del d δ) s=some b→d≠some s∧δ.get s=some b∨d=none∧δ.get s=some b
 | [],d,s,b,h=>by simp [Dec.del,Dec.get] at h
 | (k,c)::r,d,s,b,h=>by
  cases d with
  | none=>exact .inr ⟨rfl,h⟩
  | some i =>
   simp only [Dec.del] at h
   cases hk:Nat.beq k i with
   | true =>
    rw [hk,cond_true] at h
    have:=Nat.eq_of_beq_eq_true hk
    subst this
    rcases zqt h with ⟨h1,h2⟩|⟨h1,_⟩
    ·refine .inl ⟨h1,?_⟩
     have:Nat.beq k s=false:=by
      cases hb:Nat.beq k s
      ·rfl
      ·exact absurd (congrArg some (Nat.eq_of_beq_eq_true hb)) h1
     simp only [Dec.get,this,cond_false,h2]
    ·cases h1
   | false =>
    rw [hk,cond_false] at h
    simp only [Dec.get] at h ⊢
    cases hs:Nat.beq k s with
    | true =>
     rw [hs,cond_true] at h
     have:=Nat.eq_of_beq_eq_true hs
     subst this
     refine .inl ⟨fun e=>?_,by simpa using h⟩
     cases e
     simp at hk
    | false =>
     rw [hs,cond_false] at h
     rcases zqt h with ⟨h1,h2⟩|⟨h1,_⟩
     ·exact .inl ⟨h1,by simpa using h2⟩
     ·cases h1
theorem zcu.del {δ:Dec} {ρ:Nat→V} (h:zcu δ ρ) (dst:Option Nat) (v:V):zcu (δ.del dst) (zd4 ρ dst v):=by
 intro s b hs
 rcases zqt hs with ⟨h1,h2⟩|⟨rfl,h2⟩
 ·cases dst with
  | none=>exact h s b h2
  | some d =>
   have hne:s≠d:=fun e=>h1 (by rw [e])
   simp only [zd4,if_neg hne]
   exact h s b h2
 ·exact h s b h2
theorem ztk {δ:Dec} {env:Env} {g:Nat×Bool} {yes no:Dec→Prop} (hδ:zcu δ env.get) (hn:env.get g.1 ≠ .tup []) (h:ze1 δ env g yes no) :
  ∃ b δ',toB (env.get g.1)=some b∧zcu δ' env.get∧(((b==g.2)=true∧yes δ')∨((b==g.2)=false∧no δ')):=by
 obtain ⟨s,c⟩:=g
 unfold ze1 at h
 split at h
 ·rename_i b hb
  refine ⟨b,δ,hδ s b hb,hδ,?_⟩
  dsimp only at h ⊢
  cases hbc:b==c
  ·rw [hbc] at h;exact .inr ⟨rfl,h⟩
  ·rw [hbc] at h;exact .inl ⟨rfl,h⟩
 ·dsimp only at h ⊢
  split at h
  ·rename_i hb
   refine ⟨true,δ,by rw [hb];rfl,hδ,?_⟩
   cases c
   ·exact .inr ⟨rfl,h⟩
   ·exact .inl ⟨rfl,h⟩
  ·rename_i hb
   refine ⟨false,δ,by rw [hb];rfl,hδ,?_⟩
   cases c
   ·exact .inl ⟨rfl,h⟩
   ·exact .inr ⟨rfl,h⟩
  ·rename_i hb
   exact absurd hb hn
  ·rename_i b hb
   have hok:zcu ((s,b)::δ) env.get:=by
    intro t b' ht
    simp only [Dec.get] at ht
    cases hst:Nat.beq s t with
    | true =>
     rw [hst,cond_true] at ht
     have:=Nat.eq_of_beq_eq_true hst
     subst this
     cases ht
     rw [hb];rfl
    | false=>rw [hst,cond_false] at ht;exact hδ t b' ht
   refine ⟨b,(s,b)::δ,by rw [hb];rfl,hok,?_⟩
   cases b
   ·have:=h.2 rfl
    cases c
    ·exact .inl ⟨rfl,this⟩
    ·exact .inr ⟨rfl,this⟩
   ·have:=h.1 rfl
    cases c
    ·exact .inr ⟨rfl,this⟩
    ·exact .inl ⟨rfl,this⟩
  ·exact h.elim
theorem zt6 {g:Nat×Bool} {ρ:Nat→V} {b:Bool} (h:toB (ρ g.1)=some b):zc1 (some g) ρ=some (b==g.2):=by
 obtain ⟨s,c⟩:=g
 simp only [zc1]
 split
 ·rename_i e
  rw [e] at h;cases h
 ·simp only at h;rw [h];rfl
theorem znI {δ:Dec} {env:Env} {g:Nat×Bool} {yes no:Dec→Prop} (hδ:zcu δ env.get) (h:ze1 δ env g yes no) :
  ∃ δ',zcu δ' env.get∧((zc1 (some g) env.get=some true∧yes δ')∨(zc1 (some g) env.get=some false∧no δ')):=by
 by_cases hn:env.get g.1 = .tup []
 ·refine ⟨δ,hδ,.inr ⟨by simp only [zc1,hn],?_⟩⟩
  unfold ze1 at h
  cases hd:δ.get g.1 with
  | some b=>have:=hδ _ _ hd;rw [hn] at this;cases this
  | none=>rw [hd,hn] at h;exact h
 ·obtain ⟨b,δ',hb,hδ',h|h⟩:=ztk hδ hn h
  ·exact ⟨δ',hδ',.inl ⟨by rw [zt6 hb,h.1],h.2⟩⟩
  ·exact ⟨δ',hδ',.inr ⟨by rw [zt6 hb,h.1],h.2⟩⟩
theorem znG (v:V):(zcT v).Given:=by cases v<;>trivial
theorem zsR {C:zh} {δ:Dec} {co:CO} {ρ:Nat→V} {M:Nat→Option Ob} {n:Nat} {K:V→Upd→Nat→Prop} (hδ:zcu δ ρ) (hg:(zm co ρ M n).Given) (h:(zdr δ co ρ M n).wp C M n K) :
  ∃ v u k,zyc C co ρ M n v u k∧K v u k:=by
 unfold zdr at h
 split at h
 ·rename_i s a b
  split at h
  ·rename_i hs
   obtain ⟨v,u,k,h1,h2⟩:=Eff.out_of_wp _ h (znG _)
   exact ⟨v,u,k,.inr ⟨s,a,b,true,rfl,hδ s true hs,h1⟩,h2⟩
  ·rename_i hs
   obtain ⟨v,u,k,h1,h2⟩:=Eff.out_of_wp _ h (znG _)
   exact ⟨v,u,k,.inr ⟨s,a,b,false,rfl,hδ s false hs,h1⟩,h2⟩
  ·obtain ⟨v,u,k,h1,h2⟩:=Eff.out_of_wp _ h hg
   exact ⟨v,u,k,.inl h1,h2⟩
 ·obtain ⟨v,u,k,h1,h2⟩:=Eff.out_of_wp _ h hg
  exact ⟨v,u,k,.inl h1,h2⟩
theorem zue {P:Program} {o:Oper} {c x y:Arg} (h:zbC P o=some (.pick c x y)) :
  ∃ c' x' y',o.op = .pick c' x' y'∧zN P c'=some c∧arg P o.type x'=some x∧arg P o.type y'=some y:=by
 unfold zbC at h
 split at h
 all_goals try (simp only [Option.map_eq_some_iff,Option.pure_def,Option.bind_eq_bind,Option.bind_eq_some_iff,Option.some.injEq,reduceCtorEq,and_false,exists_false] at h;done)
 all_goals try (split at h<;>(simp only [Option.ite_none_left_eq_some,Option.map_eq_some_iff,Option.pure_def,Option.bind_eq_bind,Option.bind_eq_some_iff,Option.some.injEq,reduceCtorEq,and_false,exists_false] at h;done))
 ·rename_i c' x' y' ho
  simp only [Option.pure_def,Option.bind_eq_bind,Option.bind_eq_some_iff] at h
  obtain ⟨c1,h1,x1,h2,y1,h3,e⟩:=h
  cases e
  exact ⟨_,_,_,ho,h1,h2,h3⟩
 all_goals split at h
 all_goals try (simp only [Option.ite_none_left_eq_some,Option.map_eq_some_iff,Option.pure_def,Option.bind_eq_bind,Option.bind_eq_some_iff,Option.some.injEq,reduceCtorEq,and_false,exists_false] at h;done)
 all_goals split at h
 all_goals try (simp only [Option.ite_none_left_eq_some,Option.map_eq_some_iff,Option.pure_def,Option.bind_eq_bind,Option.bind_eq_some_iff,Option.some.injEq,reduceCtorEq,and_false,exists_false] at h;done)
section
variable {P:Program} {C:zh} {B:zx}
theorem zrD (hC:zcJ P B C) {ρ:Nat→V} {M:Nat→Option Ob} {F:Nat→Prop} {σ:Nat→Option Nat} {a:Act} {w:World} (h:Sim B ρ M F σ a w) {o:Oper} {co:CO} {n:Nat} {v:V} {u:Upd} {k:Nat}
  (hn : ∀ i,n≤i→i < n+k→F i) (hc:zbC P o=some co) (hout:zyc C co ρ M n v u k) (cs:List Frame):zsd P cs B ρ M F a w o n v u k:=by
 rcases hout with hout|⟨s,x,y,t,rfl,ht,hout⟩
 ·exact zy3 h hC hn hc hout cs
 ·obtain ⟨c',x',y',ho,h1,h2,h3⟩:=zue hc
  have hd : ∀ c,o.op ≠ .defer c:=by rw [ho];simp
  have hv:=zhG (zO h h1) ht
  have hxs:=zW h h2
  have hys:=zW h h3
  obtain ⟨rfl,rfl,rfl⟩:=zdB hout
  cases t
  ·exact Res.at (Res.val h hd (by simp [execOp,ho,asBool,hv]) hys) cs
  ·exact Res.at (Res.val h hd (by simp [execOp,ho,asBool,hv]) hxs) cs
def zvo (P:Program) (cs:List Frame) (ops:Array Oper) (o:Oper) (a:Act) (w:World) (v:Value) (w':World):Prop :=
 (Region.wanted o (yielded ops a.tmps)=true∧zlv P cs o a w v w')∨(Region.wanted o (yielded ops a.tmps)=false∧v=undef∧w'=w)
theorem zbg.cons' {b:FB} {k:List Item} {cs:List Frame} {ops:Array Oper} {i:Nat} {rest:List Nat} {o:Oper} {a:Act} {w:World} {v:Value} {w1:World} {a':Act} {w':World} (ho:ops[i]? = some o) (h:zvo P (b.at a (.inRegion ops (i::rest)::k)::cs) ops o a w v w1)
  (hr:zbg P b k cs ops rest (a.put o.dst v) w1 a' w'):zbg P b k cs ops (i::rest) a w a' w':=by
 rcases h with ⟨h1,h2⟩|⟨h1,rfl,rfl⟩
 ·exact ⟨o,ho,.inl ⟨h1,v,w1,h2,hr⟩⟩
 ·exact ⟨o,ho,.inr ⟨h1,hr⟩⟩
theorem zem {ops:Array Oper} {o:Oper} {co:COp} {nt:Nat} (h:zbn P ops nt o=some co) :
  zbC P o=some co.op∧co.dst=o.dst∧(∀ d,o.dst=some d→d < nt) ∧
   ((o.guard=none∧co.guard=none) ∨ ∃ j want s,o.guard=some (j,want)∧((ops[j]?).bind fun (o:Oper)=>o.dst)=some s∧co.guard=some (s,want)):=by
 unfold zbn at h
 split at h
 ·rename_i c g hc hg
  cases hd:zvJ nt o.dst with
  | false=>rw [hd] at h;cases h
  | true =>
   rw [hd] at h
   cases h
   refine ⟨hc,rfl,?_,?_⟩
   ·intro d he
    rw [he] at hd
    exact of_decide_eq_true (by simpa [zvJ,Nat.blt_eq] using hd)
   ·unfold zu3 at hg
    split at hg
    ·rename_i hog;cases hg;exact .inl ⟨hog,rfl⟩
    ·rename_i j want hog
     split at hg
     ·rename_i s hs
      cases hg
      exact .inr ⟨j,want,s,hog,hs,rfl⟩
     ·cases hg
 ·cases h
theorem zht {ρ:Nat→V} {M:Nat→Option Ob} {F:Nat→Prop} {σ:Nat→Option Nat} {a:Act} {w:World} (h:Sim B ρ M F σ a w) {ops:Array Oper} {o:Oper} {co:COp} {b:Bool}
  (hc:zbn P ops B.nt o=some co) (hs : ∀ (j s:Nat),((ops[j]?).bind fun (o:Oper)=>o.dst)=some s→s < B.nt) (hw:zc1 co.guard ρ=some b):Region.wanted o (yielded ops a.tmps)=b:=by
 obtain ⟨-,-,-,hg⟩:=zem hc
 rcases hg with ⟨h1,h2⟩|⟨j,want,s,h1,h2,h3⟩
 ·rw [h2] at hw;cases hw
  simp [Region.wanted,h1]
 ·rw [h3] at hw
  have hlt0:s < zc:=Nat.lt_of_lt_of_le (hs j s h2) B.small
  have hlt:s < a.tmps.size:=by rw [h.nt.1];exact hs j s h2
  have henv:=h.env s
  simp only [zx.look,if_pos hlt0] at henv
  simp only [zc1] at hw
  split at hw
  ·rename_i e
   cases hw
   rw [e] at henv
   generalize hx:a.tmps.getD s undef=x at henv
   cases henv with
   | tup _ vs hl _ =>
    have e:a.tmps[s]? = some (.tuple vs):=by
     rw [Array.getD_eq_getD_getElem?,Array.getElem?_eq_getElem hlt] at hx
     rw [Array.getElem?_eq_getElem hlt];exact congrArg some hx
    simp only [Region.wanted,h1,yielded,h2,Option.bind_some,e]
    cases want<;>rfl
  ·simp only [Option.map_eq_some_iff] at hw
   obtain ⟨c,hc,rfl⟩:=hw
   have hv:=zhG henv hc
   have e:a.tmps[s]? = some (.bool c):=by
    rw [Array.getD_eq_getD_getElem?,Array.getElem?_eq_getElem hlt] at hv
    rw [Array.getElem?_eq_getElem hlt];exact congrArg some hv
   simp only [Region.wanted,h1,yielded,h2,Option.bind_some,e]
   cases c<;>cases want<;>rfl
theorem znB (hC:zcJ P B C) {ρ:Nat→V} {M:Nat→Option Ob} {F:Nat→Prop} {σ:Nat→Option Nat} {a:Act} {w:World} (h:Sim B ρ M F σ a w) {ops:Array Oper} {o:Oper} {co:COp} {r:Rec}
  (hc:zbn P ops B.nt o=some co) (hs : ∀ (j s:Nat),((ops[j]?).bind fun (o:Oper)=>o.dst)=some s→s < B.nt) (hn : ∀ i,r.n≤i→i < r.n+r.k→F i) (hf:ze7 C co ρ M r) (cs:List Frame) :
  ∃ v w' σ',zvo P cs ops o a w v w'∧Sim B (zd4 ρ r.dst r.v) (zq r.u M) (zbN F r.n r.k) σ' (a.put o.dst v) w':=by
 obtain ⟨hdst,hf⟩:=hf
 obtain ⟨h1,h2,h3,-⟩:=zem hc
 have hd : ∀ d,r.dst=some d→d < B.nt:=fun d e=>h3 d (by rw [← h2,← hdst];exact e)
 rcases hf with ⟨hw,hout,-⟩|⟨hw,hv,hu,hk,-⟩
 ·obtain ⟨v,w',σ',g1,g2,g3⟩:=zrD hC h hn h1 hout cs
  refine ⟨v,w',σ',.inl ⟨zht h hc hs hw,g1⟩,?_⟩
  rw [show o.dst=r.dst by rw [hdst,h2]]
  exact g2.put hd g3
 ·refine ⟨undef,w,σ,.inr ⟨zht h hc hs hw,rfl,rfl⟩,?_⟩
  rw [show o.dst=r.dst by rw [hdst,h2],hu,hk,zca,hv]
  exact h.put hd (.tup [] #[] rfl (fun i hi=>absurd hi (Nat.not_lt_zero i)))
theorem zrS (hC:zcJ P B C) (b:FB) (k:List Item) (cs:List Frame) {ops:Array Oper} (hs : ∀ (j s:Nat),((ops[j]?).bind fun (o:Oper)=>o.dst)=some s→s < B.nt) {K:Env→Mem→Nat→List zas→Prop} :
  ∀ (l:List COp) (is:List Nat) (hlen:is.length=l.length) (hl : ∀ (j:Nat) (co:COp),l[j]? = some co → ∃ (i:Nat) (o:Oper),is[j]? = some i∧ops[i]? = some o∧zbn P ops B.nt o=some co) (δ:Dec) (env:Env) (mem:Mem) (n:Nat) (log:List zas) (σ:Nat→Option Nat) (a:Act) (w:World),
   zeM C K l δ env mem n log→zcu δ env.get→Sim B env.get mem.get (fun i=>n≤i) σ a w →
   ∃ rs env' mem' n' σ' a' w',zcK C l env.get mem.get n rs env'.get mem'.get n'∧K env' mem' n' (log++rs.map Rec.foot) ∧
    zbg P b k cs ops is a w a' w'∧Sim B env'.get mem'.get (fun i=>n'≤i) σ' a' w'
 | [],[],hlen,hl,δ,env,mem,n,log,σ,a,w,h,hδ,hsim=>⟨[],env,mem,n,σ,a,w,.nil _ _ _,by simpa [zeM] using h,⟨rfl,rfl⟩,hsim⟩
 | [],_::_,hlen,_,_,_,_,_,_,_,_,_,_,_,_=>by simp at hlen
 | _::_,[],hlen,_,_,_,_,_,_,_,_,_,_,_,_=>by simp at hlen
 | co::l,i::is,hlen,hl,δ,env,mem,n,log,σ,a,w,h,hδ,hsim=>by
  obtain ⟨i',o,hi',ho,hco⟩:=hl 0 co rfl
  simp only [List.getElem?_cons_zero,Option.some.injEq] at hi'
  subst hi'
  have hl' : ∀ (j:Nat) (co:COp),l[j]? = some co → ∃ (i:Nat) (o:Oper),is[j]? = some i∧ops[i]? = some o∧zbn P ops B.nt o=some co:=fun j co hj=>by
   have:=hl (j+1) co (by simpa using hj)
   simpa using this
  obtain ⟨h1,h2,h3,-⟩:=zem hco
  have takeF_ge : ∀ m,zbN (fun i=>n≤i) n m=fun i=>n+m≤i:=fun m=>by
   funext j;simp only [zbN];apply propext;omega
  have next : ∀ (r:Rec),ze7 C co env.get mem.get r→r.n=n → ∀ (δ:Dec),zcu δ env.get →
    zeM C K l (δ.del co.dst) (zY co.dst r.v env) (zV r.u mem) (n+r.k) (log++[r.foot]) →
    ∃ rs env' mem' n' σ' a' w',zcK C (co::l) env.get mem.get n rs env'.get mem'.get n'∧K env' mem' n' (log++rs.map Rec.foot) ∧
     zbg P b k cs ops (i::is) a w a' w'∧Sim B env'.get mem'.get (fun i=>n'≤i) σ' a' w':=by
   intro r hr hrn δ hδ hw
   obtain ⟨v,w1,σ1,g1,g2⟩:=znB hC hsim hco hs (fun j hj _=>by rw [← hrn];exact hj) hr (b.at a (.inRegion ops (i::is)::k)::cs)
   rw [hrn,takeF_ge,hr.1] at g2
   have e1:=zpx co.dst r.v env
   have e2:=zf0 r.u mem
   rw [← e1,← e2] at g2
   obtain ⟨rs,env',mem',n',σ',a',w',k1,k2,k3,k4⟩:=zrS hC b k cs hs l is (by simpa using hlen) hl' _ _ _ _ _ σ1 (a.put o.dst v) w1 hw (by rw [e1];exact hδ.del _ _) g2
   refine ⟨r::rs,env',mem',n',σ',a',w',.cons hr hrn ?_,?_,?_,k4⟩
   ·rw [hr.1,← e1,← e2];exact k1
   ·simpa using k2
   ·exact zbg.cons' ho g1 k3
  have fire : ∀ (δ:Dec),zcu δ env.get→zc1 co.guard env.get=some true →
    ((zdr δ co.op env.get mem.get n).wp C mem.get n fun v u k =>
     zeM C K l (δ.del co.dst) (zY co.dst v env) (zV u mem) (n+k) (log++[⟨zaI co.op env.get mem.get,u.map Prod.fst,zbm co.op env.get v,u⟩])) →
    ∃ rs env' mem' n' σ' a' w',zcK C (co::l) env.get mem.get n rs env'.get mem'.get n'∧K env' mem' n' (log++rs.map Rec.foot) ∧
     zbg P b k cs ops (i::is) a w a' w'∧Sim B env'.get mem'.get (fun i=>n'≤i) σ' a' w':=by
   intro δ hδ hw h
   obtain ⟨v,u,m,g1,g2⟩:=zsR hδ (znH hsim h1 n) h
   exact next ⟨co.dst,v,u,n,m,⟨zaI co.op env.get mem.get,u.map Prod.fst,zbm co.op env.get v,u⟩⟩ ⟨rfl,.inl ⟨hw,g1,rfl⟩⟩ rfl δ hδ g2
  unfold zeM at h
  split at h
  ·rename_i hg
   exact fire δ hδ (by rw [hg];rfl) h
  ·rename_i g hg
   obtain ⟨δ',hδ',h|h⟩:=znI hδ h
   ·exact fire δ' hδ' (by rw [hg];exact h.1) h.2
   ·exact next ⟨co.dst,.tup [],[],n,0,⟨[],[],none,[]⟩⟩ ⟨rfl,.inr ⟨by rw [hg];exact h.1,rfl,rfl,rfl,rfl⟩⟩ rfl δ' hδ' h.2
end
end Go.Ab
namespace Go.Ab
open Go
structure St where
  ρ : Nat → V
  M : Nat → Option Ob
  F : Nat → Prop
def St.app (r : Rec) (s : St) : St := ⟨zd4 s.ρ r.dst r.v, zq r.u s.M, zbN s.F r.n r.k⟩
def St.of (S : Nat → Bool) : Nat → List Rec → St → St
  | _, [], s => s
  | i, r :: rs, s => St.of S (i + 1) rs (cond (S i) (s.app r) s)
structure Far (r r' : Rec) : Prop where
  dst : ∀ d, r.dst = some d → r'.dst ≠ some d
  chg : ∀ i, i ∈ r.u.map Prod.fst → i ∉ r'.u.map Prod.fst
theorem za4 : ∀ (u : Upd) (M : Nat → Option Ob) (i : Nat), i ∉ u.map Prod.fst → zq u M i = M i
  | [], M, i, _ => rfl
  | (j, x) :: r, M, i, h => by
    simp only [List.map_cons, List.mem_cons, not_or] at h
    simp only [zq]
    rw [za4 r _ i h.2]
    simp [zg, h.1]
theorem zkf : ∀ (u : Upd) (M M' : Nat → Option Ob) (i : Nat), i ∈ u.map Prod.fst → zq u M i = zq u M' i
  | [], M, M', i, h => by cases h
  | (j, x) :: r, M, M', i, h => by
    simp only [zq]
    by_cases hr : i ∈ r.map Prod.fst
    · exact zkf r _ _ i hr
    · simp only [List.map_cons, List.mem_cons] at h
      have hj : i = j := h.resolve_right hr
      rw [za4 r _ i hr, za4 r _ i hr]
      simp [zg, hj]
theorem zx2 {u u' : Upd} (M : Nat → Option Ob) (h : ∀ i, i ∈ u.map Prod.fst → i ∉ u'.map Prod.fst) : zq u (zq u' M) = zq u' (zq u M) := by
  funext i
  by_cases h1 : i ∈ u.map Prod.fst
  · rw [za4 u' (zq u M) i (h i h1)]
    exact zkf u _ _ i h1
  · rw [za4 u _ i h1]
    by_cases h2 : i ∈ u'.map Prod.fst
    · exact zkf u' _ _ i h2
    · rw [za4 u' M i h2, za4 u' _ i h2, za4 u M i h1]
theorem zxt {d d' : Option Nat} (ρ : Nat → V) (v v' : V) (h : ∀ t, d = some t → d' ≠ some t) : zd4 (zd4 ρ d' v') d v = zd4 (zd4 ρ d v) d' v' := by
  cases d with
  | none => rfl
  | some t =>
    cases d' with
    | none => rfl
    | some t' =>
      have hne : t ≠ t' := fun e => h t rfl (by rw [e])
      funext x
      simp only [zd4]
      by_cases h1 : x = t
      · subst h1; simp [hne]
      · by_cases h2 : x = t'
        · subst h2; simp [h1]
        · simp [h1, h2]
theorem St.app_comm {r r' : Rec} (h : Far r r') (s : St) : (s.app r').app r = (s.app r).app r' := by
  simp only [St.app, zxt s.ρ r.v r'.v h.dst, zx2 s.M h.chg]
  congr 1
  funext i
  simp only [zbN]
  apply propext
  constructor
  · rintro ⟨⟨h1, h2⟩, h3⟩; exact ⟨⟨h1, h3⟩, h2⟩
  · rintro ⟨⟨h1, h2⟩, h3⟩; exact ⟨⟨h1, h3⟩, h2⟩
theorem St.of_congr {S S' : Nat → Bool} : ∀ (rs : List Rec) (b : Nat) (s : St), (∀ i, b ≤ i → i < b + rs.length → S i = S' i) → St.of S b rs s = St.of S' b rs s
  | [], b, s, h => rfl
  | r :: rs, b, s, h => by
    simp only [St.of]
    rw [h b (Nat.le_refl b) (by simp)]
    exact of_congr rs (b + 1) _ fun i h1 h2 => h i (by omega) (by simp at h2 ⊢; omega)
theorem St.of_none {S : Nat → Bool} : ∀ (rs : List Rec) (b : Nat) (s : St), (∀ i, b ≤ i → S i = false) → St.of S b rs s = s
  | [], b, s, h => rfl
  | r :: rs, b, s, h => by
    simp only [St.of, h b (Nat.le_refl b), cond_false]
    exact of_none rs (b + 1) s fun i hi => h i (by omega)
theorem St.of_late {S : Nat → Bool} {r : Rec} : ∀ (rs : List Rec) (b : Nat) (s : St), (∀ i r', rs[i]? = some r' → S (b + i) = true → Far r' r) → St.of S b rs (s.app r) = (St.of S b rs s).app r
  | [], b, s, h => rfl
  | r' :: rs, b, s, h => by
    simp only [St.of]
    have h' : ∀ i r'', rs[i]? = some r'' → S (b + 1 + i) = true → Far r'' r := fun i r'' hi hs => h (i + 1) r'' (by simpa using hi) (by rwa [show b + (i + 1) = b + 1 + i by omega])
    cases hb : S b with
    | false => simp only [cond_false]; exact of_late rs (b + 1) s h'
    | true =>
      simp only [cond_true]
      rw [St.app_comm (h 0 r' rfl (by simpa using hb)) s]
      exact of_late rs (b + 1) (s.app r') h'
def zlw (S : Nat → Bool) (j : Nat) : Nat → Bool := fun i => i == j || S i
theorem St.of_add {S : Nat → Bool} {r : Rec} : ∀ (rs : List Rec) (b j : Nat) (s : St), rs[j]? = some r → S (b + j) = false → (∀ i r', j < i → rs[i]? = some r' → S (b + i) = true → Far r' r) →
    St.of (zlw S (b + j)) b rs s = (St.of S b rs s).app r
  | [], b, j, s, hj, _, _ => by cases hj
  | r' :: rs, b, 0, s, hj, hS, h => by
    cases hj
    simp only [St.of, Nat.add_zero] at hS ⊢
    have e : zlw S b b = true := by simp [zlw]
    rw [e, hS]
    simp only [cond_true, cond_false]
    rw [St.of_congr (S' := S) rs (b + 1) _ fun i h1 h2 => by simp only [zlw]; rw [show (i == b) = false by simp; omega]; rfl]
    exact St.of_late rs (b + 1) s fun i r'' hi hs => h (i + 1) r'' (by omega) (by simpa using hi) (by rwa [show b + (i + 1) = b + 1 + i by omega])
  | r' :: rs, b, j + 1, s, hj, hS, h => by
    simp only [St.of]
    have e : zlw S (b + (j + 1)) b = S b := by simp only [zlw]; rw [show (b == b + (j + 1)) = false by simp]; rfl
    rw [e, show b + (j + 1) = b + 1 + j by omega]
    exact of_add rs (b + 1) j _ (by simpa using hj) (by rwa [show b + 1 + j = b + (j + 1) by omega]) fun i r'' h1 h2 h3 => h (i + 1) r'' (by omega) (by simpa using h2) (by rwa [show b + (i + 1) = b + 1 + i by omega])
theorem St.of_ρ {S S' : Nat → Bool} {t : Nat} : ∀ (rs : List Rec) (b : Nat) (s s' : St), s.ρ t = s'.ρ t → (∀ i r, rs[i]? = some r → S (b + i) ≠ S' (b + i) → r.dst ≠ some t) →
    (St.of S b rs s).ρ t = (St.of S' b rs s').ρ t
  | [], b, s, s', h, _ => h
  | r :: rs, b, s, s', h, hr => by
    simp only [St.of]
    refine of_ρ rs (b + 1) _ _ ?_ fun i r' hi hs => hr (i + 1) r' (by simpa using hi) (by rwa [show b + (i + 1) = b + 1 + i by omega])
    have hput : ∀ (s s' : St), s.ρ t = s'.ρ t → (s.app r).ρ t = (s'.app r).ρ t := by
      intro s s' h
      simp only [St.app]
      cases hd : r.dst with
      | none => exact h
      | some d => simp only [zd4]; split
                  · rfl
                  · exact h
    have hkeep : r.dst ≠ some t → ∀ s : St, (s.app r).ρ t = s.ρ t := by
      intro hne s
      simp only [St.app]
      cases hd : r.dst with
      | none => rfl
      | some d => simp only [zd4]; rw [if_neg]; rintro rfl; exact hne hd
    cases h1 : S b <;> cases h2 : S' b <;> simp only [cond_true, cond_false]
    · exact h
    · rw [hkeep (hr 0 r rfl (by simp [h1, h2])), h]
    · rw [hkeep (hr 0 r rfl (by simp [h1, h2])), h]
    · exact hput _ _ h
theorem St.of_M {S S' : Nat → Bool} {t : Nat} : ∀ (rs : List Rec) (b : Nat) (s s' : St), s.M t = s'.M t → (∀ i r, rs[i]? = some r → S (b + i) ≠ S' (b + i) → t ∉ r.u.map Prod.fst) →
    (St.of S b rs s).M t = (St.of S' b rs s').M t
  | [], b, s, s', h, _ => h
  | r :: rs, b, s, s', h, hr => by
    simp only [St.of]
    refine of_M rs (b + 1) _ _ ?_ fun i r' hi hs => hr (i + 1) r' (by simpa using hi) (by rwa [show b + (i + 1) = b + 1 + i by omega])
    have hput : ∀ (s s' : St), s.M t = s'.M t → (s.app r).M t = (s'.app r).M t := by
      intro s s' h
      simp only [St.app]
      by_cases ht : t ∈ r.u.map Prod.fst
      · exact zkf _ _ _ _ ht
      · rw [za4 _ _ _ ht, za4 _ _ _ ht]; exact h
    have hkeep : t ∉ r.u.map Prod.fst → ∀ s : St, (s.app r).M t = s.M t := fun hne s => za4 _ _ _ hne
    cases h1 : S b <;> cases h2 : S' b <;> simp only [cond_true, cond_false]
    · exact h
    · rw [hkeep (hr 0 r rfl (by simp [h1, h2])), h]
    · rw [hkeep (hr 0 r rfl (by simp [h1, h2])), h]
    · exact hput _ _ h
def zdl (off : Nat × Option Nat) (v : V) (x : Option Ob) : Prop := ∃ cs, x = some (.box cs) ∧ rdC cs off = v
theorem zmB {t : Nat} {off : Nat × Option Nat} {v : V} : ∀ (u : Upd) (M : Nat → Option Ob), (∀ p, p ∈ u → p.1 = t → zdl off v p.2) → (zdl off v (M t) ∨ t ∈ u.map Prod.fst) → zdl off v (zq u M t)
  | [], M, _, h => h.resolve_right (by simp)
  | (j, x) :: r, M, hu, h => by
    simp only [zq]
    refine zmB r _ (fun p hp => hu p (List.mem_cons_of_mem _ hp)) ?_
    by_cases hj : t = j
    · subst hj; exact .inl (by simpa [zg] using hu (t, x) (List.mem_cons_self ..) rfl)
    · rcases h with h | h
      · exact .inl (by simpa [zg, hj] using h)
      · simp only [List.map_cons, List.mem_cons] at h; exact .inr (h.resolve_left hj)
theorem St.of_cell {S S' : Nat → Bool} {t : Nat} {off : Nat × Option Nat} {v : V} : ∀ (rs : List Rec) (b : Nat) (s s' : St), (zdl off v (s.M t) → zdl off v (s'.M t)) →
    (∀ i r, rs[i]? = some r → S (b + i) = true → S' (b + i) = true) → (∀ i r, rs[i]? = some r → S (b + i) = false → S' (b + i) = true → ∀ p, p ∈ r.u → p.1 = t → zdl off v p.2) →
    zdl off v ((St.of S b rs s).M t) → zdl off v ((St.of S' b rs s').M t)
  | [], b, s, s', h, _, _ => h
  | r :: rs, b, s, s', h, h1, h2 => by
    simp only [St.of]
    refine of_cell rs (b + 1) _ _ ?_ (fun i r' hi => by simpa [show b + 1 + i = b + (i + 1) by omega] using h1 (i + 1) r' (by simpa using hi)) (fun i r' hi => by simpa [show b + 1 + i = b + (i + 1) by omega] using h2 (i + 1) r' (by simpa using hi))
    cases hb : S b with
    | true =>
      have hb' : S' b = true := by simpa using h1 0 r rfl (by simpa using hb)
      rw [hb']
      simp only [cond_true, St.app]
      by_cases ht : t ∈ r.u.map Prod.fst
      · rw [zkf _ s.M s'.M _ ht]; exact id
      · rw [za4 _ _ _ ht, za4 _ _ _ ht]; exact h
    | false =>
      cases hb' : S' b with
      | false => exact h
      | true =>
        simp only [cond_true, cond_false, St.app]
        have hu := h2 0 r rfl (by simpa using hb) (by simpa using hb')
        intro hc
        by_cases ht : t ∈ r.u.map Prod.fst
        · exact zmB _ _ hu (.inr ht)
        · exact zmB _ _ hu (.inl (h hc))
theorem St.of_F {S : Nat → Bool} : ∀ (rs : List Rec) (b : Nat) (s : St) (x : Nat), (St.of S b rs s).F x ↔ s.F x ∧ ∀ i r, rs[i]? = some r → S (b + i) = true → ¬ (r.n ≤ x ∧ x < r.n + r.k)
  | [], b, s, x => by simp [St.of]
  | r :: rs, b, s, x => by
    simp only [St.of]
    rw [of_F rs (b + 1)]
    constructor
    · rintro ⟨h1, h2⟩
      refine ⟨?_, fun i r' hi hs => ?_⟩
      · cases hb : S b <;> rw [hb] at h1
        · exact h1
        · exact h1.1
      · cases i with
        | zero =>
          simp only [List.getElem?_cons_zero, Option.some.injEq, Nat.add_zero] at hi hs
          subst hi
          rw [hs] at h1
          exact h1.2
        | succ i => exact h2 i r' (by simpa using hi) (by rwa [show b + 1 + i = b + (i + 1) by omega])
    · rintro ⟨h1, h2⟩
      refine ⟨?_, fun i r' hi hs => h2 (i + 1) r' (by simpa using hi) (by rwa [show b + (i + 1) = b + 1 + i by omega])⟩
      cases hb : S b
      · exact h1
      · exact ⟨h1, h2 0 r rfl (by simpa using hb)⟩
theorem zcK.len {C : zh} {l : List COp} {ρ : Nat → V} {M : Nat → Option Ob} {n : Nat} {rs : List Rec} {ρ' : Nat → V} {M' : Nat → Option Ob} {n' : Nat} (h : zcK C l ρ M n rs ρ' M' n') : rs.length = l.length := by
  induction h with
  | nil => rfl
  | cons _ _ _ ih => simp [ih]
theorem zcK.at {C : zh} {l : List COp} {ρ : Nat → V} {M : Nat → Option Ob} {n : Nat} {rs : List Rec} {ρ' : Nat → V} {M' : Nat → Option Ob} {n' : Nat} (h : zcK C l ρ M n rs ρ' M' n') :
    ∀ (b j : Nat) (o : COp) (r : Rec) (F : Nat → Prop), l[j]? = some o → rs[j]? = some r →
      ze7 C o (St.of (fun i => decide (i < b + j)) b rs ⟨ρ, M, F⟩).ρ (St.of (fun i => decide (i < b + j)) b rs ⟨ρ, M, F⟩).M r := by
  induction h with
  | nil => intro b j o r F h1 _; cases h1
  | @cons o l ρ M n r rs ρ' M' n' h1 h2 h3 ih =>
    intro b j o' r' F hj hr
    cases j with
    | zero =>
      cases hj; cases hr
      rw [St.of_none _ b _ fun i hi => by simp; omega]
      exact h1
    | succ j =>
      simp only [List.getElem?_cons_succ] at hj hr
      have := ih (b + 1) j o' r' (zbN F r.n r.k) hj hr
      simp only [St.of]
      rw [show decide (b < b + (j + 1)) = true by simp]
      simp only [cond_true, St.app]
      rwa [show b + (j + 1) = b + 1 + j by omega]
theorem zcK.ns {C : zh} {l : List COp} {ρ : Nat → V} {M : Nat → Option Ob} {n : Nat} {rs : List Rec} {ρ' : Nat → V} {M' : Nat → Option Ob} {n' : Nat} (h : zcK C l ρ M n rs ρ' M' n') :
    n ≤ n' ∧ (∀ (j : Nat) (r : Rec), rs[j]? = some r → n ≤ r.n ∧ r.n + r.k ≤ n') ∧ ∀ (i j : Nat) (r r' : Rec), i < j → rs[i]? = some r → rs[j]? = some r' → r.n + r.k ≤ r'.n := by
  induction h with
  | nil => exact ⟨Nat.le_refl _, fun j r h => by simp at h, fun i j r r' _ h => by simp at h⟩
  | @cons o l ρ M n r rs ρ' M' n' h1 h2 h3 ih =>
    obtain ⟨i1, i2, i3⟩ := ih
    refine ⟨by omega, fun j r' hj => ?_, fun i j r1 r2 hij hi hj => ?_⟩
    · cases j with
      | zero => cases hj; omega
      | succ j => have := i2 j r' (by simpa using hj); omega
    · cases j with
      | zero => omega
      | succ j =>
        have hj' : rs[j]? = some r2 := by simpa using hj
        cases i with
        | zero => cases hi; have := i2 j r2 hj'; omega
        | succ i => exact i3 i j r1 r2 (by omega) (by simpa using hi) hj'
theorem zcK.cover {C : zh} {l : List COp} {ρ : Nat → V} {M : Nat → Option Ob} {n : Nat} {rs : List Rec} {ρ' : Nat → V} {M' : Nat → Option Ob} {n' : Nat} (h : zcK C l ρ M n rs ρ' M' n') :
    ∀ (x : Nat), n ≤ x → (∀ (i : Nat) (r : Rec), rs[i]? = some r → ¬ (r.n ≤ x ∧ x < r.n + r.k)) → n' ≤ x := by
  induction h with
  | nil => exact fun x h _ => h
  | @cons o l ρ M n r rs ρ' M' n' h1 h2 h3 ih =>
    intro x hx h
    refine ih x ?_ fun i r' hi => h (i + 1) r' (by simpa using hi)
    have := h 0 r rfl
    omega
theorem zcK.end {C : zh} {l : List COp} {ρ : Nat → V} {M : Nat → Option Ob} {n : Nat} {rs : List Rec} {ρ' : Nat → V} {M' : Nat → Option Ob} {n' : Nat} (h : zcK C l ρ M n rs ρ' M' n') :
    ∀ (b : Nat) (F : Nat → Prop) (S : Nat → Bool), (∀ i, b ≤ i → i < b + rs.length → S i = true) → (St.of S b rs ⟨ρ, M, F⟩).ρ = ρ' ∧ (St.of S b rs ⟨ρ, M, F⟩).M = M' := by
  induction h with
  | nil => intro b F S _; exact ⟨rfl, rfl⟩
  | @cons o l ρ M n r rs ρ' M' n' h1 h2 h3 ih =>
    intro b F S hS
    simp only [St.of, hS b (Nat.le_refl b) (by simp), cond_true, St.app]
    exact ih (b + 1) _ S fun i h1 h2 => hS i (by omega) (by simp at h2 ⊢; omega)
structure zmF (a b : COp) (f g : zas) : Prop where
  r1 : ∀ d, a.dst = some d → d ∉ b.reads
  r2 : ∀ d, b.dst = some d → d ∉ a.reads
  ww : ∀ d, a.dst = some d → b.dst ≠ some d
  m1 : (∀ i, i ∈ f.named → i ∉ g.changed) ∨ zmY f g
  m2 : ∀ i, i ∈ f.changed → i ∉ g.named
  cc : ∀ i, i ∈ f.changed → i ∉ g.changed
theorem zcM {a b : List Nat} (h : zd1 a b = true) : ∀ i, i ∈ a → i ∉ b := by
  intro i hi hb
  have := List.all_eq_true.1 h i hi
  simp [hb] at this
theorem zrN {f g : zas} (h : zkY f g = true) : f.changed = [] := by
  unfold zkY at h
  split at h
  · simp only [Bool.and_eq_true, List.isEmpty_iff] at h; exact h.1
  · cases h
theorem zwc {a b : V} (h : V.refEq a b = true) : a = b := by
  unfold V.refEq at h
  split at h
  all_goals try (simp only [Bool.and_eq_true] at h)
  all_goals first | (have := Nat.eq_of_beq_eq_true h; subst this; rfl) | (have h1 := Nat.eq_of_beq_eq_true h.1; have h2 := Nat.eq_of_beq_eq_true h.2; subst h1; subst h2; rfl) | cases h
theorem zvl {f g : zas} (h : zkY f g = true) : zmY f g := by
  have e := zrN h
  unfold zkY at h
  split at h
  · rename_i id off v hc
    simp only [Bool.and_eq_true, List.all_eq_true] at h
    refine ⟨e, id, off, v, hc, fun p hp hpi => ?_⟩
    have hm := h.2 p hp
    have hb : Nat.beq p.1 id = true := by rw [hpi]; exact Nat.beq_refl id
    rw [hb] at hm
    simp only [Bool.not_true, Bool.false_or] at hm
    split at hm
    · rename_i cs hcs; exact ⟨cs, hcs, (zwc hm).symm⟩
    · cases hm
  · cases h
theorem zi4 {a b : COp} {f g : zas} (h : zjk a b = true) (h3 : zjj f g = true ∨ zmY f g) : zmF a b f g := by
  simp only [zjk, Bool.and_eq_true] at h
  obtain ⟨h1, h2⟩ := h
  have r1 : ∀ d, a.dst = some d → d ∉ b.reads := fun d hd hc => by rw [hd] at h1; simp [hc] at h1
  have r2 : ∀ d, b.dst = some d → d ∉ a.reads := fun d hd hc => by rw [hd] at h2; simp [hc] at h2
  have ww : ∀ d, a.dst = some d → b.dst ≠ some d := fun d hd he => by rw [hd] at h1; simp [he] at h1
  rcases h3 with h3 | h3
  · simp only [zjj, Bool.and_eq_true] at h3
    exact ⟨r1, r2, ww, .inl (zcM h3.1.1), zcM h3.1.2, zcM h3.2⟩
  · have e := h3.1
    exact ⟨r1, r2, ww, .inr h3, fun i hi => by rw [e] at hi; (cases hi), fun i hi => by rw [e] at hi; (cases hi)⟩
theorem zvs {a b : COp} {f g : zas} (h : (zjk a b && (zjj f g || zkY f g)) = true) : zmF a b f g := by
  simp only [zjk, Bool.and_eq_true] at h
  obtain ⟨⟨h1, h2⟩, h3⟩ := h
  have r1 : ∀ d, a.dst = some d → d ∉ b.reads := fun d hd hc => by rw [hd] at h1; simp [hc] at h1
  have r2 : ∀ d, b.dst = some d → d ∉ a.reads := fun d hd hc => by rw [hd] at h2; simp [hc] at h2
  have ww : ∀ d, a.dst = some d → b.dst ≠ some d := fun d hd he => by rw [hd] at h1; simp [he] at h1
  rcases Bool.or_eq_true _ _ ▸ h3 with h3 | h3
  · simp only [zjj, Bool.and_eq_true] at h3
    exact ⟨r1, r2, ww, .inl (zcM h3.1.1), zcM h3.1.2, zcM h3.2⟩
  · have e := zrN h3
    exact ⟨r1, r2, ww, .inr (zvl h3), fun i hi => by rw [e] at hi; (cases hi), fun i hi => by rw [e] at hi; (cases hi)⟩
theorem ztF {ops : List COp} {bef : List Nat} {l : List zas} (h : zhB ops bef l = true) {i j : Nat} (hij : i < j) (hj : j < ops.length) :
    (bef.getD j 0).testBit i = true ∨ zmF (ops.getD i default) (ops.getD j default) (l.getD i ⟨[], [], none, []⟩) (l.getD j ⟨[], [], none, []⟩) := by
  simp only [zhB, List.all_eq_true, List.mem_range] at h
  have := h j hj i hij
  rcases (Bool.or_eq_true _ _ ▸ this) with h1 | h1
  · exact .inl h1
  · exact .inr (zvs h1)
theorem zpU {ops : List COp} {bef : List Nat} {l : List zas} (h : zsc ops bef l) {i j : Nat} (hij : i < j) (hj : j < ops.length) :
    (bef.getD j 0).testBit i = true ∨ zmF (ops.getD i default) (ops.getD j default) (l.getD i ⟨[], [], none, []⟩) (l.getD j ⟨[], [], none, []⟩) := by
  rcases h with h | ⟨E, h, hE⟩
  · exact ztF h hij hj
  · simp only [zkR, List.all_eq_true, List.mem_range] at h
    have := h j hj i hij
    rcases (Bool.or_eq_true _ _ ▸ this) with h1 | h1
    · exact .inl h1
    · simp only [Bool.and_eq_true, Bool.or_eq_true] at h1
      obtain ⟨h2, (h3 | h3) | h3⟩ := h1
      · exact .inr (zi4 h2 (.inl h3))
      · exact .inr (zi4 h2 (.inr (zvl h3)))
      · exact .inr (zi4 h2 (.inr (hE (i, j) (List.contains_iff_mem.1 h3))))
theorem zuJ (n i : Nat) : (2 ^ n).testBit i = true ↔ n = i := by
  rw [Nat.testBit_two_pow]; simp
def zse (ops : Array Oper) (π acc : List Nat) (j : Nat) : Nat := match ops[j]? with
  | some o => o.after.toList.foldl (fun s e => cond (Region.binds .any e) (s ||| 2 ^ (π.idxOf e.on) ||| acc.getD (π.idxOf e.on) 0) s) 0
  | none => 0
theorem zpt {π acc : List Nat} {i : Nat} : ∀ (es : List Edge) (s : Nat), (es.foldl (fun s e => cond (Region.binds .any e) (s ||| 2 ^ (π.idxOf e.on) ||| acc.getD (π.idxOf e.on) 0) s) s).testBit i = true →
    s.testBit i = true ∨ ∃ e, e ∈ es ∧ Region.binds .any e = true ∧ (π.idxOf e.on = i ∨ (acc.getD (π.idxOf e.on) 0).testBit i = true)
  | [], s, h => .inl h
  | e :: es, s, h => by
    simp only [List.foldl_cons] at h
    rcases zpt es _ h with h | ⟨e', h1, h2⟩
    · cases hb : Region.binds .any e with
      | false => rw [hb, cond_false] at h; exact .inl h
      | true =>
        rw [hb, cond_true] at h
        simp only [Nat.testBit_or, Bool.or_eq_true] at h
        rcases h with (h | h) | h
        · exact .inl h
        · exact .inr ⟨e, by simp, hb, .inl ((zuJ _ _).1 h)⟩
        · exact .inr ⟨e, by simp, hb, .inr h⟩
    · exact .inr ⟨e', by simp [h1], h2⟩
theorem zkr (ops : Array Oper) (π : List Nat) (j : Nat) (r acc : List Nat) : zgw ops π (j :: r) acc = zgw ops π r (acc ++ [zse ops π acc j]) := rfl
theorem zks (ops : Array Oper) (π : List Nat) : ∀ (r acc : List Nat) (i : Nat), i < acc.length → (zgw ops π r acc).getD i 0 = acc.getD i 0
  | [], acc, i, _ => rfl
  | j :: r, acc, i, hi => by
    rw [zkr, zks ops π r _ i (by simp; omega)]
    simp [List.getD, List.getElem?_append_left hi]
theorem zq7 (ops : Array Oper) (π : List Nat) : ∀ (r acc : List Nat) (k j : Nat), r[k]? = some j →
    ∃ acc', acc'.length = acc.length + k ∧ (∀ i, i < acc'.length → acc'.getD i 0 = (zgw ops π r acc).getD i 0) ∧ (zgw ops π r acc).getD (acc.length + k) 0 = zse ops π acc' j
  | [], acc, k, j, h => by simp at h
  | x :: r, acc, 0, j, h => by
    cases h
    rw [zkr]
    refine ⟨acc, rfl, fun i hi => ?_, ?_⟩
    · rw [zks _ _ _ _ i (by simp; omega)]; simp [List.getD, List.getElem?_append_left hi]
    · rw [zks _ _ _ _ _ (by simp)]; simp [List.getD]
  | x :: r, acc, k + 1, j, h => by
    rw [zkr]
    obtain ⟨acc', h1, h2, h3⟩ := zq7 ops π r (acc ++ [zse ops π acc x]) k j (by simpa using h)
    simp only [List.length_append, List.length_cons, List.length_nil] at h1 h3
    exact ⟨acc', by omega, h2, by rw [show acc.length + (k + 1) = acc.length + (0 + 1) + k by omega]; exact h3⟩
structure znQ (ops : Array Oper) (π : List Nat) : Prop where
  len : π.length = ops.size
  nd : π.Nodup
  lt : ∀ i ∈ π, i < ops.size
  edge : ∀ (k i : Nat) (o : Oper), π[k]? = some i → ops[i]? = some o → ∀ e ∈ o.after, Region.binds .any e = true → e.on ∈ π.take k
theorem znN {ops : Array Oper} : ∀ (r acc : List Nat), zqc ops acc r = true → acc.Nodup → (∀ i ∈ acc, i < ops.size) →
    (∀ (k i : Nat) (o : Oper), acc[k]? = some i → ops[i]? = some o → ∀ e ∈ o.after, Region.binds .any e = true → e.on ∈ acc.take k) → znQ ops (acc ++ r)
  | [], acc, h, h1, h2, h3 => by
    rw [List.append_nil]
    exact ⟨Nat.eq_of_beq_eq_true h, h1, h2, h3⟩
  | j :: r, acc, h, h1, h2, h3 => by
    simp only [zqc, Bool.and_eq_true] at h
    obtain ⟨⟨⟨hj, hn⟩, hf⟩, hr⟩ := h
    have hj : j < ops.size := by simpa [Nat.blt_eq] using hj
    have hn : j ∉ acc := by simpa using hn
    rw [show acc ++ j :: r = (acc ++ [j]) ++ r by simp]
    refine znN r (acc ++ [j]) hr ?_ ?_ ?_
    · rw [List.nodup_append]
      refine ⟨h1, by simp, fun a ha b hb => ?_⟩
      simp at hb; subst hb
      exact fun e => hn (e ▸ ha)
    · intro i hi
      rcases List.mem_append.1 hi with hi | hi
      · exact h2 i hi
      · simp at hi; subst hi; exact hj
    · intro k i o hk ho e he hb
      by_cases hka : k < acc.length
      · rw [List.getElem?_append_left hka] at hk
        have := h3 k i o hk ho e he hb
        rw [List.take_append_of_le_length (by omega)]
        exact this
      · have hk2 := (List.getElem?_eq_some_iff.1 hk).1
        simp at hk2
        have hke : k = acc.length := by omega
        subst hke
        simp at hk; subst hk
        rw [List.take_left' rfl]
        simp only [zti, ho] at hf
        have := List.all_eq_true.1 hf e (by simpa using he)
        rw [hb] at this
        simpa using this
theorem ztD : ∀ (n : Nat) (l : List Nat), l.Nodup → (∀ i ∈ l, i < n) → l.length ≤ n
  | 0, l, _, h => by
    cases l with
    | nil => simp
    | cons x l => exact absurd (h x (by simp)) (by omega)
  | n + 1, l, hn, h => by
    have h1 : (l.erase n).length ≤ n := ztD n (l.erase n) (hn.erase n) fun i hi => by
      have h2 := h i (List.mem_of_mem_erase hi)
      have h3 : i ≠ n := (hn.mem_erase_iff.1 hi).1
      omega
    have h4 := List.length_erase (a := n) (l := l)
    split at h4 <;> omega
theorem znQ.all {ops : Array Oper} {π : List Nat} (h : znQ ops π) {i : Nat} (hi : i < ops.size) : i ∈ π := by
  by_cases hm : i ∈ π
  · exact hm
  · exfalso
    have h1 : (i :: π).Nodup := List.nodup_cons.2 ⟨hm, h.nd⟩
    have h3 := ztD ops.size (i :: π) h1 fun j hj => by
      rcases List.mem_cons.1 hj with rfl | hj
      · exact hi
      · exact h.lt j hj
    simp [h.len] at h3
    omega
theorem zsB {ops : Array Oper} {π : List Nat} (ht : znQ ops π) {S : Nat → Prop} : ∀ (k i : Nat) (o : Oper), π[k]? = some i → ops[i]? = some o →
    (∀ e ∈ o.after, Region.binds .any e = true → S e.on) → (∀ j' o', S j' → ops[j']? = some o' → ∀ e ∈ o'.after, Region.binds .any e = true → S e.on) →
    ∀ q, ((zgw ops π π []).getD k 0).testBit q = true → ∃ i', π[q]? = some i' ∧ S i' := by
  intro k
  induction k using Nat.strongRecOn with
  | _ k ih =>
    intro i o hk ho h1 h2 q hq
    obtain ⟨acc', g1, g2, g3⟩ := zq7 ops π π [] k i hk
    simp only [List.length_nil, Nat.zero_add] at g1 g3
    rw [g3] at hq
    simp only [zse, ho] at hq
    rcases zpt o.after.toList 0 hq with h | ⟨e, k1, k2, k3⟩
    · simp at h
    · have hS := h1 e (by simpa using k1) k2
      have hmem := ht.edge k i o hk ho e (by simpa using k1) k2
      have hidx : π.idxOf e.on < k := by
        have := List.idxOf_lt_length_of_mem hmem
        have h4 : (π.take k).idxOf e.on = π.idxOf e.on := by
          rw [← List.take_append_drop k π, List.idxOf_append]
          rw [List.take_append_drop]; simp [hmem]
        rw [h4] at this
        simp at this; omega
      have hat : π[π.idxOf e.on]? = some e.on := by
        have hm : e.on ∈ π := List.mem_of_mem_take hmem
        rw [List.getElem?_eq_getElem (List.idxOf_lt_length_of_mem hm), List.getElem_idxOf]
      rcases k3 with rfl | k3
      · exact ⟨e.on, hat, hS⟩
      · rw [g2 _ (by omega)] at k3
        obtain ⟨o', ho'⟩ : ∃ o', ops[e.on]? = some o' := ⟨_, Array.getElem?_eq_getElem (ht.lt e.on (List.mem_of_mem_take hmem))⟩
        exact ih (π.idxOf e.on) hidx e.on o' hat ho' (fun e' he' hb' => h2 _ _ hS ho' e' he' hb') h2 q k3
end Go.Ab
namespace Go.Ab
open Go
theorem znz {p q:Nat→Bool} {i:Nat} : ∀ (l:List Nat),(∀ j,q j=true→p j=true)→i∈l→p i=true→q i=false→(l.filter q).length < (l.filter p).length
 | [],_,h,_,_=>by cases h
 | x::l,hpq,h,hp,hq=>by
  have mono : ∀ l:List Nat,(l.filter q).length≤(l.filter p).length:=by
   intro l
   induction l with
   | nil=>simp
   | cons y l ih =>
    simp only [List.filter_cons]
    cases hy:q y
    ·cases p y<;>simp<;>omega
    ·rw [hpq y hy];simpa using ih
  simp only [List.filter_cons]
  rcases List.mem_cons.1 h with rfl|h
  ·rw [hp,hq];have:=mono l;simp;omega
  ·have:=znz l hpq h hp hq
   cases hx:q x
   ·cases p x<;>simp<;>omega
   ·rw [hpq x hx];simpa using this
theorem ze7.agree {C:zh} (hA:zgG C) {o:COp} {ρ ρ':Nat→V} {M M':Nat→Option Ob} {r:Rec} (h:ze7 C o ρ M r) (hρ : ∀ t,t∈o.reads→ρ t=ρ' t)
  (hM : ∀ i,i∈r.foot.named→M i=M' i):ze7 C o ρ' M' { r with foot:=r.foot } ∨ ∃ f,ze7 C o ρ' M' { r with foot:=f } := by
 right
 obtain ⟨h1,h2⟩:=h
 have hw:zc1 o.guard ρ=zc1 o.guard ρ':=by
  unfold zc1
  cases hg:o.guard with
  | none=>rfl
  | some g =>
   obtain ⟨s,b⟩:=g
   simp only
   rw [hρ s (by simp [COp.reads,hg])]
 have hs : ∀ t,t∈o.op.slots→ρ t=ρ' t:=fun t ht=>hρ t (by simp only [COp.reads,List.mem_append];exact .inr ht)
 rcases h2 with ⟨h3,h4,h5⟩|⟨h3,h4,h5,h6,h7⟩
 ·refine ⟨⟨zaI o.op ρ' M',r.u.map Prod.fst,zbm o.op ρ' r.v,r.u⟩,h1,.inl ⟨hw▸h3,?_,rfl⟩⟩
  rw [h5] at hM
  rcases h4 with h4|⟨s,a,b,t,e,ht,h4⟩
  ·exact .inl (zxr hA hs hM h4)
  ·refine .inr ⟨s,a,b,t,e,?_,?_⟩
   ·rw [← hs s (by rw [e];simp [CO.slots,CO.operands,Arg.slots])];exact ht
   ·have ea:a.ev ρ=a.ev ρ':=zeo fun t ht=>hs t (by rw [e];simp only [CO.slots,CO.operands,List.flatMap_cons,List.mem_append];exact .inr (.inl ht))
    have eb:b.ev ρ=b.ev ρ':=zeo fun t ht=>hs t (by rw [e];simp only [CO.slots,CO.operands,List.flatMap_cons,List.mem_append];exact .inr (.inr (.inl ht)))
    rw [← ea,← eb]
    exact Eff.nc_out _ (zfk _) h4
 ·exact ⟨⟨[],[],none,[]⟩,h1,.inr ⟨hw▸h3,h4,h5,h6,rfl⟩⟩
theorem zpj {o:CO} {ρ:Nat→V} {v v':V} {id:Nat} {off:Nat×Option Nat} (h:zbm o ρ v=some (id,off,v')):v'=v ∧ ∃ a,o = .load off.2 a∧a.ev ρ = .ptr id off.1:=by
 unfold zbm at h
 split at h
 ·split at h
  ·rename_i e;cases h;exact ⟨rfl,_,rfl,e⟩
  ·cases h
 ·cases h
theorem ze7.agree_cell {C:zh} {o:COp} {ρ ρ':Nat→V} {M M':Nat→Option Ob} {r:Rec} {id:Nat} {off:Nat×Option Nat} {v:V} (h:ze7 C o ρ M r) (hρ : ∀ t,t∈o.reads→ρ t=ρ' t) (hc:r.foot.cell=some (id,off,v))
  (hM:zdl off v (M id)→zdl off v (M' id)) : ∃ f,ze7 C o ρ' M' { r with foot:=f } := by
 obtain ⟨h1,h2⟩:=h
 have hw:zc1 o.guard ρ=zc1 o.guard ρ':=by
  unfold zc1
  cases hg:o.guard with
  | none=>rfl
  | some g =>
   obtain ⟨s,b⟩:=g
   simp only
   rw [hρ s (by simp [COp.reads,hg])]
 rcases h2 with ⟨h3,h4,h5⟩|⟨h3,h4,h5,h6,h7⟩
 ·refine ⟨⟨zaI o.op ρ' M',r.u.map Prod.fst,zbm o.op ρ' r.v,r.u⟩,h1,.inl ⟨hw▸h3,?_,rfl⟩⟩
  rw [h5] at hc
  obtain ⟨rfl,a,ea,ev⟩:=zpj hc
  obtain ⟨off,g⟩:=off
  have ev':a.ev ρ' = .ptr id off:=by rw [← ev];exact (zeo fun t ht=>hρ t (by simp only [COp.reads,List.mem_append];exact .inr (by rw [ea];simpa [CO.slots,CO.operands] using ht))).symm
  rw [ea] at h4 ⊢
  rcases h4 with h4|⟨s,x,y,t,e,-⟩
  ·refine .inl ?_
   simp only [zm,ev,zaD] at h4
   split at h4
   ·rename_i cs hcs
    cases g with
    | none =>
     simp only [zaF] at h4
     obtain ⟨e1,e2,e3⟩:=zdB h4
     obtain ⟨cs',g1,g2⟩:=hM ⟨cs,hcs,e1.symm⟩
     simp only [zm,ev',zaD,g1,zaF]
     rw [show cs'.getD off .undef=_ from g2.trans e1]
     exact Eff.nc_out _ (zfk _) h4
    | some m =>
     simp only [zaF] at h4 ⊢
     cases hb:Nat.ble (off+m) cs.length with
     | false=>rw [hb] at h4;exact h4.elim
     | true =>
      rw [hb] at h4
      obtain ⟨e1,e2,e3⟩:=h4
      obtain ⟨cs',g1,g2⟩:=hM ⟨cs,hcs,by rw [rdC,hb];exact e1.symm⟩
      rw [rdC] at g2
      cases hb':Nat.ble (off+m) cs'.length with
      | false =>
       rw [hb',cond_false] at g2
       rw [← g2] at e1
       unfold ziV at e1
       split at e1<;>cases e1
      | true =>
       rw [hb',cond_true] at g2
       simp only [zm,ev',zaD,g1,zaF,hb',cond_true,val]
       exact ⟨g2.symm,e2,e3⟩
   ·exact h4.elim
  ·cases e
 ·rw [h7] at hc;cases hc
section
variable {P:Program} {C:zh} {B:zx}
theorem zyg (hC:zcJ P B C) (hA:zgG C) (b:FB) (kk:List Item) (cs:List Frame) {ops:Array Oper} (hs : ∀ (j s:Nat),((ops[j]?).bind fun (o:Oper)=>o.dst)=some s→s < B.nt) {π:List Nat} (ht:znQ ops π)
  {l:List COp} (hlen:l.length=ops.size) (hl : ∀ (j:Nat) (co:COp),l[j]? = some co → ∃ i o,π[j]? = some i∧ops[i]? = some o∧zbn P ops B.nt o=some co) {ρ:Nat→V} {M:Nat→Option Ob} {n:Nat} {rs:List Rec} {ρ':Nat→V} {M':Nat→Option Ob} {n':Nat}
  (hch:zcK C l ρ M n rs ρ' M' n') (hok:zsc l (zgw ops π π []) (rs.map Rec.foot)) (F:Nat→Prop) (hF : ∀ i,n≤i→F i) :
  ∀ (fuel t:Nat) (listed:Array Bool) (σ:Nat→Option Nat) (a:Act) (w:World),listed.size=ops.size →
   ((List.range ops.size).filter fun j => !listed.getD j false).length≤fuel →
   (∀ (j:Nat) (o:Oper),listed.getD j false=true→ops[j]? = some o → ∀ e∈o.after,Region.binds .any e=true→listed.getD e.on false=true) →
   Sim B (St.of (fun j=>listed.getD (π.getD j 0) false) 0 rs ⟨ρ,M,F⟩).ρ (St.of (fun j=>listed.getD (π.getD j 0) false) 0 rs ⟨ρ,M,F⟩).M (St.of (fun j=>listed.getD (π.getD j 0) false) 0 rs ⟨ρ,M,F⟩).F σ a w →
   ∃ a' w' σ',zbg P b kk cs ops (Region.linearise.go .any ops fuel t listed []) a w a' w'∧Sim B ρ' M' (St.of (fun _=>true) 0 rs ⟨ρ,M,F⟩).F σ' a' w':=by
 have hrl:=hch.len
 obtain ⟨-,hn1,hn2⟩:=hch.ns
 have hπ : ∀ {j i:Nat},π[j]? = some i→π.getD j 0=i:=fun h=>by simp [List.getD,h]
 have hpos : ∀ {i:Nat},i < ops.size → ∃ j,π[j]? = some i:=fun hi=>by
  obtain ⟨j,hj,he⟩:=List.getElem_of_mem (ht.all hi)
  exact ⟨j,by rw [List.getElem?_eq_getElem hj,he]⟩
 have hinj : ∀ {j k i:Nat},π[j]? = some i→π[k]? = some i→j=k:=fun h1 h2=>by
  obtain ⟨g1,e1⟩:=List.getElem?_eq_some_iff.1 h1
  obtain ⟨g2,e2⟩:=List.getElem?_eq_some_iff.1 h2
  exact (List.getElem_inj ht.nd).1 (e1.trans e2.symm)
 have fin : ∀ (listed:Array Bool) (σ:Nat→Option Nat) (a:Act) (w:World),(∀ i,i < ops.size→listed.getD i false=true) →
   Sim B (St.of (fun j=>listed.getD (π.getD j 0) false) 0 rs ⟨ρ,M,F⟩).ρ (St.of (fun j=>listed.getD (π.getD j 0) false) 0 rs ⟨ρ,M,F⟩).M (St.of (fun j=>listed.getD (π.getD j 0) false) 0 rs ⟨ρ,M,F⟩).F σ a w →
   Sim B ρ' M' (St.of (fun _=>true) 0 rs ⟨ρ,M,F⟩).F σ a w:=by
  intro listed σ a w hall h
  rw [St.of_congr (S':=fun _=>true) rs 0 _ fun j _ hj=>by
   obtain ⟨i,hi⟩ : ∃ i,π[j]? = some i:=⟨_,List.getElem?_eq_getElem (by have:=ht.len;omega)⟩
   simp only [hπ hi]
   exact hall i (ht.lt i (List.mem_of_getElem? hi))] at h
  obtain ⟨e1,e2⟩:=hch.end 0 F (fun _=>true) fun _ _ _=>rfl
  rwa [e1,e2] at h
 intro fuel
 induction fuel with
 | zero =>
  intro t listed σ a w hsz hcnt hcl h
  refine ⟨a,w,σ,⟨rfl,rfl⟩,fin listed σ a w (fun j hj=>?_) h⟩
  have h0:=List.eq_nil_of_length_eq_zero (Nat.le_zero.1 hcnt)
  have:=List.filter_eq_nil_iff.1 h0 j (by simpa using hj)
  simpa using this
 | succ fuel ih =>
  intro t listed σ a w hsz hcnt hcl h
  simp only [Region.linearise.go]
  show ∃ a' w' σ',zbg P b kk cs ops (match (Region.ready .any ops listed)[t % (Region.ready .any ops listed).length]? with
   | some i=>Region.linearise.go .any ops fuel (t / (Region.ready .any ops listed).length) (listed.setIfInBounds i true) [i]
   | none=>[].reverse) a w a' w'∧_
  cases hi:(Region.ready .any ops listed)[t % (Region.ready .any ops listed).length]? with
  | none =>
   have hnil:Region.ready .any ops listed=[]:=by
    cases hr:Region.ready .any ops listed with
    | nil=>rfl
    | cons x xs =>
     rw [hr] at hi
     have hlt:t % (x::xs).length < (x::xs).length:=Nat.mod_lt _ (by simp)
     simp at hi
     simp at hlt
     omega
   refine ⟨a,w,σ,⟨rfl,rfl⟩,fin listed σ a w ?_ h⟩
   have key : ∀ (j i:Nat),π[j]? = some i→listed.getD i false=true:=by
    intro j
    induction j using Nat.strongRecOn with
    | _ j ihj =>
     intro i hji
     by_cases hjl:listed.getD i false=true
     ·exact hjl
     ·exfalso
      have hi0:=ht.lt i (List.mem_of_getElem? hji)
      obtain ⟨o,ho⟩ : ∃ o,ops[i]? = some o:=⟨_,Array.getElem?_eq_getElem hi0⟩
      have:i∈Region.ready .any ops listed:=by
       rw [mem_ready]
       refine ⟨?_,o,ho,fun e he hb=>?_⟩
       ·have:i < listed.size:=by omega
        simp [this] at hjl ⊢
        exact hjl
       ·obtain ⟨q,hq,hqe⟩:=List.getElem_of_mem (ht.edge j i o hji ho e he hb)
        have hq':q < j:=by simp at hq;omega
        refine ihj q hq' e.on ?_
        rw [List.getElem_take] at hqe
        rw [List.getElem?_eq_getElem (by simp at hq;omega),hqe]
      rw [hnil] at this
      cases this
   exact fun i hi=>(hpos hi).elim fun j hj=>key j i hj
  | some i =>
   simp only
   rw [linearise_go_acc,List.reverse_singleton,List.singleton_append]
   have hready:=mem_ready.1 (List.mem_of_getElem? hi)
   obtain ⟨hun,o,ho,hall⟩:=hready
   have hi0:i < ops.size:=(Array.getElem?_eq_some_iff.1 ho).1
   obtain ⟨j,hji⟩:=hpos hi0
   have hj:j < ops.size:=by have:=(List.getElem?_eq_some_iff.1 hji).1;rw [ht.len] at this;exact this
   have hjs:i < listed.size:=by omega
   have hun0:listed.getD i false=false:=by simp [hjs] at hun ⊢;exact hun
   have hun':listed.getD (π.getD j 0) false=false:=by rw [hπ hji];exact hun0
   obtain ⟨co,hco⟩ : ∃ co,l[j]? = some co:=⟨_,List.getElem?_eq_getElem (by omega)⟩
   obtain ⟨r,hr⟩ : ∃ r,rs[j]? = some r:=⟨_,List.getElem?_eq_getElem (by omega)⟩
   obtain ⟨i',o',hji',ho',hcomp⟩:=hl j co hco
   rw [hji] at hji';cases hji'
   rw [ho] at ho';cases ho'
   have hfire:=hch.at 0 j co r F hco hr
   simp only [Nat.zero_add] at hfire
   have hbits : ∀ q,((zgw ops π π []).getD j 0).testBit q=true→listed.getD (π.getD q 0) false=true:=fun q hq=>by
    obtain ⟨i',h1,h2⟩:=zsB ht (S:=fun i=>listed.getD i false=true) j i o hji ho hall hcl q hq
    rw [hπ h1];exact h2
   have getl : ∀ (i:Nat) (co:COp),l[i]? = some co→l.getD i default=co:=fun i co h=>by simp [List.getD,h]
   have getr : ∀ (i:Nat) (r:Rec),rs[i]? = some r→(rs.map Rec.foot).getD i ⟨[],[],none,[]⟩=r.foot:=fun i r h=>by simp [List.getD,h]
   have getco : ∀ (i:Nat) (r':Rec),rs[i]? = some r' → ∃ co',l[i]? = some co':=fun i r' h=>⟨_,List.getElem?_eq_getElem (by have:=(List.getElem?_eq_some_iff.1 h).1;omega)⟩
   have early : ∀ (i:Nat) (r':Rec) (co':COp),i < j→rs[i]? = some r'→l[i]? = some co'→listed.getD (π.getD i 0) false=false→zmF co' co r'.foot r.foot:=by
    intro i r' co' hij h1 h2 h3
    rcases zpU hok hij (by omega) with h4|h4
    ·rw [hbits i h4] at h3;cases h3
    ·rwa [getl i co' h2,getl j co hco,getr i r' h1,getr j r hr] at h4
   have late : ∀ (i:Nat) (r':Rec) (co':COp),j < i→rs[i]? = some r'→l[i]? = some co'→listed.getD (π.getD i 0) false=true→zmF co co' r.foot r'.foot:=by
    intro q r' co' hij h1 h2 h3
    rcases zpU hok hij (by have:=(List.getElem?_eq_some_iff.1 h2).1;omega) with h4|h4
    ·exfalso
     obtain ⟨iq,oi,hqi,hoi,-⟩:=hl q co' h2
     rw [hπ hqi] at h3
     obtain ⟨i',g1,g2⟩:=zsB ht (S:=fun i=>listed.getD i false=true) q iq oi hqi hoi (fun e he hb=>hcl iq oi h3 hoi e he hb) hcl j h4
     rw [hji] at g1;cases g1
     rw [hun0] at g2;cases g2
    ·rwa [getl q co' h2,getl j co hco,getr q r' h1,getr j r hr] at h4
   have recs : ∀ (i:Nat) (r':Rec) (co':COp),rs[i]? = some r'→l[i]? = some co'→r'.dst=co'.dst ∧ ∀ x,x∈r'.u.map Prod.fst→x∈r'.foot.changed:=by
    intro i r' co' h1 h2
    obtain ⟨e1,e2⟩:=hch.at 0 i co' r' F h2 h1
    refine ⟨e1,fun x hx=>?_⟩
    rcases e2 with ⟨-,-,e⟩|⟨-,-,e,-⟩
    ·rw [e];exact hx
    ·rw [e] at hx;cases hx
   have hreads : ∀ t,t∈co.reads→(St.of (fun i=>decide (i < j)) 0 rs ⟨ρ,M,F⟩).ρ t=(St.of (fun j=>listed.getD (π.getD j 0) false) 0 rs ⟨ρ,M,F⟩).ρ t:=fun t ht=>St.of_ρ rs 0 _ _ rfl fun i r' hi' hne=>by
     simp only [Nat.zero_add] at hne
     obtain ⟨co',hco'⟩:=getco i r' hi'
     rw [(recs i r' co' hi' hco').1]
     rcases Nat.lt_trichotomy i j with hij|rfl|hij
     ·have hf:listed.getD (π.getD i 0) false=false:=by
       cases hx:listed.getD (π.getD i 0) false
       ·rfl
       ·exact absurd (by rw [hx];simp [hij]) hne
      exact fun e=>(early i r' co' hij hi' hco' hf).r1 t e ht
     ·exact absurd (by rw [hun'];simp) hne
     ·have hf:listed.getD (π.getD i 0) false=true:=by
       cases hx:listed.getD (π.getD i 0) false
       ·exact absurd (by rw [hx];simp;omega) hne
       ·rfl
      exact fun e=>(late i r' co' hij hi' hco' hf).r2 t e ht
   obtain ⟨f,hag⟩ : ∃ f,ze7 C co (St.of (fun j=>listed.getD (π.getD j 0) false) 0 rs ⟨ρ,M,F⟩).ρ (St.of (fun j=>listed.getD (π.getD j 0) false) 0 rs ⟨ρ,M,F⟩).M { r with foot:=f } := by
    cases hcell:r.foot.cell with
    | none =>
     refine (hfire.agree hA hreads (fun x hx=>St.of_M rs 0 _ _ rfl fun i r' hi' hne hmem=>by
      simp only [Nat.zero_add] at hne
      obtain ⟨co',hco'⟩:=getco i r' hi'
      have hch':=(recs i r' co' hi' hco').2 x hmem
      rcases Nat.lt_trichotomy i j with hij|rfl|hij
      ·have hf:listed.getD (π.getD i 0) false=false:=by
        cases hx:listed.getD (π.getD i 0) false
        ·rfl
        ·exact absurd (by rw [hx];simp [hij]) hne
       exact (early i r' co' hij hi' hco' hf).m2 x hch' hx
      ·exact absurd (by rw [hun'];simp) hne
      ·have hf:listed.getD (π.getD i 0) false=true:=by
        cases hx:listed.getD (π.getD i 0) false
        ·exact absurd (by rw [hx];simp;omega) hne
        ·rfl
       rcases (late i r' co' hij hi' hco' hf).m1 with hm|hm
       ·exact hm x hx hch'
       ·obtain ⟨-,_,_,_,hx,-⟩:=hm;rw [hcell] at hx;cases hx)).elim (fun h=>⟨_,h⟩) id
    | some c =>
     obtain ⟨id,off,v⟩:=c
     refine hfire.agree_cell hreads hcell fun hc=>?_
     have hid:id∈r.foot.named:=by
      obtain ⟨-,h2⟩:=hfire
      rcases h2 with ⟨-,-,h5⟩|⟨-,-,-,-,h7⟩
      ·rw [h5] at hcell ⊢
       obtain ⟨-,a,ea,ev⟩:=zpj hcell
       rw [ea]
       simp [zaI,CO.operands,zeh,ev,V.deepIds]
      ·rw [h7] at hcell;cases hcell
     have hc1:zdl off v ((St.of (fun i=>listed.getD (π.getD i 0) false&&decide (i < j)) 0 rs ⟨ρ,M,F⟩).M id):=by
      rw [← St.of_M (S:=fun i=>decide (i < j)) rs 0 ⟨ρ,M,F⟩ ⟨ρ,M,F⟩ rfl fun i r' hi' hne hmem=>by
       simp only [Nat.zero_add] at hne
       obtain ⟨co',hco'⟩:=getco i r' hi'
       have hch':=(recs i r' co' hi' hco').2 id hmem
       by_cases hij:i < j
       ·have hf:listed.getD (π.getD i 0) false=false:=by
         cases hx:listed.getD (π.getD i 0) false
         ·rfl
         ·exact absurd (by rw [hx];simp) hne
        exact (early i r' co' hij hi' hco' hf).m2 id hch' hid
       ·exact absurd (by simp [hij]) hne]
      exact hc
     refine St.of_cell rs 0 _ _ (fun h=>h) (fun i r' hi' hS=>?_) (fun i r' hi' hS hS' p hp hpt=>?_) hc1
     ·simp only [Nat.zero_add,Bool.and_eq_true] at hS ⊢;exact hS.1
     ·simp only [Nat.zero_add] at hS hS'
      rw [hS',Bool.true_and] at hS
      have hij:j < i:=by
       have h1 : ¬ i < j:=by simpa using hS
       have h2:i≠j:=fun e=>by rw [e,hun'] at hS';cases hS'
       omega
      obtain ⟨co',hco'⟩:=getco i r' hi'
      have hap:=late i r' co' hij hi' hco' hS'
      have hru:p∈r'.foot.upd∧p.1∈r'.foot.changed:=by
       obtain ⟨-,e2⟩:=hch.at 0 i co' r' F hco' hi'
       rcases e2 with ⟨-,-,e⟩|⟨-,-,e,-⟩
       ·rw [e];exact ⟨hp,List.mem_map_of_mem hp⟩
       ·rw [e] at hp;cases hp
      rcases hap.m1 with hm|hm
      ·exact absurd (hpt▸hru.2) (hm id hid)
      ·obtain ⟨-,id',off',v',hc',hm⟩:=hm
       rw [hcell] at hc'
       cases hc'
       exact hm p hru.1 hpt
   obtain ⟨v,w1,σ1,g1,g2⟩:=znB hC h hcomp hs (fun x hx1 hx2=>by
    rw [St.of_F]
    refine ⟨hF x (by have:=hn1 j r hr;simp at hx1;omega),fun i r' hi' hS hx3=>?_⟩
    simp only [Nat.zero_add] at hS
    simp at hx1 hx2
    rcases Nat.lt_trichotomy i j with hij|rfl|hij
    ·have:=hn2 i j r' r hij hi' hr;omega
    ·rw [hun'] at hS;cases hS
    ·have:=hn2 j i r r' hij hr hi';omega) hag (b.at a (.inRegion ops (i::Region.linearise.go .any ops fuel (t / (Region.ready .any ops listed).length) (listed.setIfInBounds i true) [])::kk)::cs)
   have hadd:=St.of_add (S:=fun j=>listed.getD (π.getD j 0) false) rs 0 j ⟨ρ,M,F⟩ hr (by rw [Nat.zero_add];exact hun') fun i r' hij hi' hS=>by
    rw [Nat.zero_add] at hS
    obtain ⟨co',hco'⟩:=getco i r' hi'
    have hap:=late i r' co' hij hi' hco' hS
    have hrr:=recs i r' co' hi' hco'
    have hrj:=recs j r co hr hco
    refine ⟨fun d hd he=>?_,fun x hx hx'=>?_⟩
    ·exact hap.ww d (by rw [← hrj.1];exact he) (by rw [← hrr.1];exact hd)
    ·exact hap.cc x (hrj.2 x hx') (hrr.2 x hx)
   have hset : ∀ k,(listed.setIfInBounds i true).getD k false=(k==i||listed.getD k false):=by
    intro k
    by_cases hk:k=i
    ·subst hk;simp [hjs]
    ·rw [getD_set_ne false (Ne.symm hk)];simp [hk]
   have hnew : ∀ (s:St),St.of (fun k=>(listed.setIfInBounds i true).getD (π.getD k 0) false) 0 rs s=St.of (zlw (fun j=>listed.getD (π.getD j 0) false) (0+j)) 0 rs s:=by
    intro s
    refine St.of_congr rs 0 s fun k _ hk=>?_
    simp only [zlw,Nat.zero_add,hset]
    congr 1
    obtain ⟨ik,hik⟩ : ∃ ik,π[k]? = some ik:=⟨_,List.getElem?_eq_getElem (by have:=ht.len;omega)⟩
    rw [hπ hik]
    by_cases hkj:k=j
    ·subst hkj;rw [hji] at hik;cases hik;simp
    ·have:ik≠i:=fun e=>hkj (by subst e;exact hinj hik hji)
     exact (beq_eq_false_iff_ne.2 this).trans (beq_eq_false_iff_ne.2 hkj).symm
   have hsim1:Sim B (St.of (fun k=>(listed.setIfInBounds i true).getD (π.getD k 0) false) 0 rs ⟨ρ,M,F⟩).ρ (St.of (fun k=>(listed.setIfInBounds i true).getD (π.getD k 0) false) 0 rs ⟨ρ,M,F⟩).M (St.of (fun k=>(listed.setIfInBounds i true).getD (π.getD k 0) false) 0 rs ⟨ρ,M,F⟩).F σ1 (a.put o.dst v) w1:=by
    rw [hnew,hadd]
    exact g2
   have hcnt':((List.range ops.size).filter fun k => !(listed.setIfInBounds i true).getD k false).length≤fuel:=by
    have:=znz (p:=fun k => !listed.getD k false) (q:=fun k => !(listed.setIfInBounds i true).getD k false) (i:=i) (List.range ops.size)
     (fun k hk=>by
      rw [hset] at hk
      cases hx:listed.getD k false
      ·rfl
      ·rw [hx] at hk;simp at hk) (by simpa using hi0) (by simp only [hun0];rfl) (by rw [hset];simp)
    omega
   have hcl' : ∀ (k:Nat) (o:Oper),(listed.setIfInBounds i true).getD k false=true→ops[k]? = some o → ∀ e∈o.after,Region.binds .any e=true→(listed.setIfInBounds i true).getD e.on false=true:=by
    intro k ok hk hok' e he hb
    refine getD_set_true ?_
    by_cases hkj:k=i
    ·subst hkj;rw [ho] at hok';cases hok';exact hall e he hb
    ·rw [getD_set_ne false (Ne.symm hkj)] at hk;exact hcl k ok hk hok' e he hb
   obtain ⟨a',w',σ',k1,k2⟩:=ih (t / (Region.ready .any ops listed).length) (listed.setIfInBounds i true) σ1 (a.put o.dst v) w1 (by simp [hsz]) hcnt' hcl' hsim1
   exact ⟨a',w',σ',zbg.cons' ho g1 k1,k2⟩
end
end Go.Ab
namespace Go.Ab
open Go
theorem zgm : ∀ {r:List (Nat×Nat)} {i j:Nat},zbG r i=some j→(i,j)∈r
 | (a,b)::r,i,j,h=>by
  simp only [zbG] at h
  cases hb:Nat.beq a i with
  | true =>
   rw [hb,cond_true] at h
   have:=Nat.eq_of_beq_eq_true hb
   subst this;cases h;simp
  | false=>rw [hb,cond_false] at h;simp [zgm h]
theorem zrz : ∀ {r:List (Nat×Nat)},nodup (r.map Prod.snd)=true → ∀ {i j k:Nat},(i,k)∈r→(j,k)∈r→i=j
 | [],_,i,j,k,h,_=>by cases h
 | (a,b)::r,h,i,j,k,h1,h2=>by
  simp only [List.map_cons,nodup,Bool.and_eq_true,Bool.not_eq_true'] at h
  have hnb : ∀ x,(x,b)∈r→False:=fun x hx=>by
   have:(r.map Prod.snd).contains b=true:=by
    simp only [List.contains_eq_mem,decide_eq_true_eq,List.mem_map]
    exact ⟨(x,b),hx,rfl⟩
   rw [this] at h;exact absurd h.1 (by simp)
  rcases List.mem_cons.1 h1 with e1|h1<;>rcases List.mem_cons.1 h2 with e2|h2
  ·cases e1;cases e2;rfl
  ·cases e1;exact (hnb j h2).elim
  ·cases e2;exact (hnb i h1).elim
  ·exact zrz h.2 h1 h2
theorem zaw {r:List (Nat×Nat)} {nl:List Nat} {mem:Mem} {n':Nat} : ∀ {mem':Mem},zkm r nl mem n' mem' → ∀ {i:Nat} {ob:Ob},mem'.get i=some ob →
  i < n'∧(match zbG r i with
   | some j => ∃ ob',mem.get j=some ob'∧zcB r nl ob ob'
   | none=>nl.contains i=true ∧ ∃ s,ob = .row s [])
 | [],_,i,ob,h=>by cases h
 | (a,none)::rest,hm,i,ob,h=>by
  simp only [Mem.get] at h
  cases hb:Nat.beq a i with
  | true=>rw [hb,cond_true] at h;cases h
  | false=>rw [hb,cond_false] at h;exact zaw hm.2 h
 | (a,some o)::rest,hm,i,ob,h=>by
  simp only [Mem.get] at h
  cases hb:Nat.beq a i with
  | true =>
   rw [hb,cond_true] at h
   have:=Nat.eq_of_beq_eq_true hb
   subst this;cases h
   exact ⟨hm.1,hm.2.1⟩
  | false=>rw [hb,cond_false] at h;exact zaw hm.2.2 h
theorem zra {r:List (Nat×Nat)} {nl:List Nat} {env:Env} : ∀ {env':Env},ziw r nl env env' → ∀ t,env'.get t = .undef∨VLe r nl 30 (env'.get t) (env.get t)
 | [],_,t => .inl rfl
 | (a,v)::rest,h,t=>by
  simp only [Env.get]
  cases hb:Nat.beq a t with
  | true =>
   have:=Nat.eq_of_beq_eq_true hb
   subst this
   exact .inr h.1
  | false=>exact zra h.2 t
theorem zoL {r:List (Nat×Nat)} {nl:List Nat} : ∀ {k:Nat} {cs xs:List V},VLes r nl k cs xs→cs.length=xs.length ∧ ∀ i,i < cs.length → ∃ k',k' < k∧VLe r nl k' (cs.getD i .undef) (xs.getD i .undef)
 | 0,_,_,h=>by simp [VLes] at h
 | k+1,[],xs,h=>by simp only [VLes] at h;subst h;exact ⟨rfl,fun i hi=>by simp at hi⟩
 | k+1,v::vs,[],h=>by simp [VLes] at h
 | k+1,v::vs,x::xs,h=>by
  simp only [VLes] at h
  obtain ⟨h1,h2⟩:=zoL h.2
  refine ⟨by simp [h1],fun i hi=>?_⟩
  cases i with
  | zero=>exact ⟨k,by omega,h.1⟩
  | succ i =>
   obtain ⟨k',h3,h4⟩:=h2 i (by simpa using hi)
   exact ⟨k',by omega,by simpa using h4⟩
section
variable {B:zx} {env env':Env} {mem mem':Mem} {n n':Nat} {r:List (Nat×Nat)} {nl:List Nat} {σ:Nat→Option Nat} {a:Act} {w:World}
def reσ (r:List (Nat×Nat)) (σ:Nat→Option Nat):Nat→Option Nat:=fun i=>(zbG r i).bind σ
theorem zxh (hm:zkm r nl mem n' mem') {b:Nat} (h:B.X (reσ r σ) mem'.get b):B.X σ mem.get b:=by
 rcases h with h|⟨id,h1,h2⟩
 ·exact .inl h
 ·obtain ⟨ob,hob⟩:=Option.ne_none_iff_exists'.1 h1
  have:=(zaw hm hob).2
  unfold reσ at h2
  split at this
  ·rename_i j hj
   obtain ⟨ob',h3,-⟩:=this
   rw [hj] at h2
   exact .inr ⟨j,by rw [h3];simp,h2⟩
  ·rename_i hj;rw [hj] at h2;cases h2
theorem zjV (hle:Le env mem n env' mem' n' r nl) : ∀ (k:Nat) (v x:V) (u:Value),VLe r nl k v x→VSim σ mem.get (fun i=>n≤i) (B.X σ mem.get) w x u →
  VSim (reσ r σ) mem'.get (fun i=>n'≤i) (B.X (reσ r σ) mem'.get) w v u:=by
 have hX : ∀ b,B.X (reσ r σ) mem'.get b→B.X σ mem.get b:=fun b=>zxh hle.m
 have hlt : ∀ {i j:Nat},zbG r i=some j→i < n':=fun {i j} h=>by
  have:=List.all_eq_true.1 hle.lt _ (zgm h)
  exact of_decide_eq_true (by simpa [Nat.blt_eq] using this)
 have hnl : ∀ {i:Nat},nl.contains i=true→i < n':=fun {i} h=>by
  have:=List.all_eq_true.1 hle.nlt i (by simpa using h)
  have h2:=(Bool.and_eq_true _ _▸this).1
  exact of_decide_eq_true (by simpa [Nat.blt_eq] using h2)
 have hd : ∀ {d:D} {u:Value},zj (B.X σ mem.get) w d u→zj (B.X (reσ r σ) mem'.get) w d u:=fun h=>h.mono (fun _ _ _=>rfl) (fun b _ hb=>hX b hb)
 have hlist : ∀ (k:Nat) (cs xs:List V),VLes r nl k cs xs→(∀ k',k' < k → ∀ (v x:V) (u:Value),VLe r nl k' v x→VSim σ mem.get (fun i=>n≤i) (B.X σ mem.get) w x u →
   VSim (reσ r σ) mem'.get (fun i=>n'≤i) (B.X (reσ r σ) mem'.get) w v u) → ∀ (us:Array Value),(∀ i,i < xs.length→VSim σ mem.get (fun i=>n≤i) (B.X σ mem.get) w (xs.getD i .undef) (us.getD i undef)) →
   cs.length=xs.length ∧ ∀ i,i < cs.length→VSim (reσ r σ) mem'.get (fun i=>n'≤i) (B.X (reσ r σ) mem'.get) w (cs.getD i .undef) (us.getD i undef):=by
  intro k cs xs h ih us hu
  obtain ⟨h1,h2⟩:=zoL h
  refine ⟨h1,fun i hi=>?_⟩
  obtain ⟨k',h3,h4⟩:=h2 i hi
  exact ih k' h3 _ _ _ h4 (hu i (by omega))
 intro k
 induction k using Nat.strongRecOn with
 | _ k ih =>
  intro v x u h hx
  cases k with
  | zero=>simp [VLe] at h
  | succ k =>
   cases v with
   | undef=>exact .undef u
   | d y =>
    have key:x = .d y→VSim (reσ r σ) mem'.get (fun i=>n'≤i) (B.X (reσ r σ) mem'.get) w (.d y) u:=by
     rintro rfl
     cases hx with
     | d _ _ h=>exact .d _ _ (hd h)
    cases y with
    | bool b =>
     simp only [VLe] at h
     rcases h with h|⟨rfl,rfl⟩|⟨rfl,rfl⟩
     ·exact key h
     ·cases hx;exact .d _ _ (.bool _)
     ·cases hx;exact .d _ _ (.bool _)
    | _=>exact key (by simpa only [VLe] using h)
   | bt=>simp only [VLe] at h;subst h;cases hx;exact .bt
   | bf=>simp only [VLe] at h;subst h;cases hx;exact .bf
   | nils s=>simp only [VLe] at h;subst h;cases hx;exact .nils s
   | own i =>
    simp only [VLe] at h
    cases hm:mem'.get i with
    | none =>
     have hi:i < n':=by
      split at h
      ·rename_i j hj;exact hlt hj
      ·exact hnl h.1
     have : ∃ ad l c,u = .slice ad l c:=by
      split at h
      ·subst h;cases hx<;>exact ⟨_,_,_,rfl⟩
      ·obtain ⟨-,s,rfl⟩:=h;cases hx;exact ⟨_,_,_,rfl⟩
     obtain ⟨ad,l,c,rfl⟩:=this
     exact .ownDead i ad l c hm (by omega)
    | some ob =>
     have hg:=(zaw hle.m hm).2
     split at h
     ·rename_i j hj
      subst h
      simp only [hj] at hg
      obtain ⟨ob',h3,h4⟩:=hg
      cases hx with
      | ownDead _ ad l c h5 h6=>rw [h5] at h3;cases h3
      | own _ s xs b cap c e h5 h6 h7 h8 h9 =>
       rw [h5] at h3;cases h3
       cases ob with
       | row s' xs'=>simp only [zcB,Ob.row.injEq] at h4;obtain ⟨rfl,rfl⟩:=h4;exact .own i s xs b cap c e hm (by simp [reσ,hj,h6]) h7 h8 h9
       | _=>simp [zcB] at h4
      | ownNil _ s h5 h6 =>
       rw [h5] at h3;cases h3
       cases ob with
       | row s' xs'=>simp only [zcB,Ob.row.injEq] at h4;obtain ⟨rfl,rfl⟩:=h4;exact .ownNil i s hm (by simp [reσ,hj,h6])
       | _=>simp [zcB] at h4
     ·rename_i hj
      simp only [hj] at hg
      obtain ⟨-,s,rfl⟩:=h
      obtain ⟨-,s',rfl⟩:=hg
      cases hx
      exact .ownNil i s' hm (by simp [reσ,hj])
   | ptr i o =>
    simp only [VLe] at h
    obtain ⟨j,hj,rfl⟩:=h
    cases hm:mem'.get i with
    | none =>
     have : ∃ ad,u = .pointer (some ad):=by cases hx<;>exact ⟨_,rfl⟩
     obtain ⟨ad,rfl⟩:=this
     exact .ptrDead i o ad hm (by have:=hlt hj;omega)
    | some ob =>
     have hg:=(zaw hle.m hm).2
     simp only [hj] at hg
     obtain ⟨ob',h3,h4⟩:=hg
     cases hx with
     | ptrDead _ _ ad h5 h6=>rw [h5] at h3;cases h3
     | ptr _ _ cs b h5 h6 =>
      rw [h5] at h3;cases h3
      cases ob with
      | box cs'=>exact .ptr i o cs' b hm (by simp [reσ,hj,h6])
      | _=>simp [zcB] at h4
   | eptr i c o =>
    simp only [VLe] at h
    obtain ⟨j,hj,rfl⟩:=h
    cases hm:mem'.get i with
    | none =>
     have : ∃ ad,u = .pointer (some ad):=by cases hx<;>exact ⟨_,rfl⟩
     obtain ⟨ad,rfl⟩:=this
     exact .eptrDead i c o ad hm (by have:=hlt hj;omega)
    | some ob =>
     have hg:=(zaw hle.m hm).2
     simp only [hj] at hg
     obtain ⟨ob',h3,h4⟩:=hg
     cases hx with
     | eptrDead _ _ _ ad h5 h6=>rw [h5] at h3;cases h3
     | eptr _ _ _ s xs b h5 h6 h7 =>
      rw [h5] at h3;cases h3
      cases ob with
      | row s' xs'=>simp only [zcB,Ob.row.injEq] at h4;obtain ⟨rfl,rfl⟩:=h4;exact .eptr i c o s xs b hm (by simp [reσ,hj,h6]) h7
      | _=>simp [zcB] at h4
   | dptr s y o =>
    simp only [VLe] at h
    subst h
    cases hx with
    | dptr _ _ _ b off cv h1 h2 h3 h4 h5=>exact .dptr s y o b off cv (fun hb=>h1 (hX b hb)) h2 h3 h4 fun j hj=>hd (h5 j hj)
   | map i =>
    simp only [VLe] at h
    obtain ⟨j,hj,rfl⟩:=h
    cases hm:mem'.get i with
    | none =>
     have : ∃ ad,u = .map (some ad):=by cases hx<;>exact ⟨_,rfl⟩
     obtain ⟨ad,rfl⟩:=this
     exact .mapDead i ad hm (by have:=hlt hj;omega)
    | some ob =>
     have hg:=(zaw hle.m hm).2
     simp only [hj] at hg
     obtain ⟨ob',h3,h4⟩:=hg
     cases hx with
     | mapDead _ _ h5 h6=>rw [h5] at h3;cases h3
     | map _ es b h5 h6 =>
      rw [h5] at h3;cases h3
      cases ob with
      | map es'=>exact .map i es' b hm (by simp [reσ,hj,h6])
      | _=>simp [zcB] at h4
   | iter i =>
    simp only [VLe] at h
    obtain ⟨j,hj,rfl⟩:=h
    cases hm:mem'.get i with
    | none =>
     have : ∃ ad,u = .pointer (some ad):=by cases hx<;>exact ⟨_,rfl⟩
     obtain ⟨ad,rfl⟩:=this
     exact .iterDead i ad hm (by have:=hlt hj;omega)
    | some ob =>
     have hg:=(zaw hle.m hm).2
     simp only [hj] at hg
     obtain ⟨ob',h3,h4⟩:=hg
     cases hx with
     | iterDead _ _ h5 h6=>rw [h5] at h3;cases h3
     | iter _ l c b h5 h6 =>
      rw [h5] at h3;cases h3
      cases ob with
      | iter l' c'=>exact .iter i l' c' b hm (by simp [reσ,hj,h6])
      | _=>simp [zcB] at h4
   | bown i l =>
    simp only [VLe] at h
    obtain ⟨j,hj,rfl⟩:=h
    cases hm:mem'.get i with
    | none =>
     have : ∃ ad cap,u = .slice ad l cap:=by cases hx<;>exact ⟨_,_,rfl⟩
     obtain ⟨ad,cap,rfl⟩:=this
     exact .bownDead i l ad cap hm (by have:=hlt hj;omega)
    | some ob =>
     have hg:=(zaw hle.m hm).2
     simp only [hj] at hg
     obtain ⟨ob',h3,h4⟩:=hg
     cases hx with
     | bownDead _ _ _ _ h5 h6=>rw [h5] at h3;cases h3
     | bown _ _ cs b cap c e h5 h6 h7 h8 h9 =>
      rw [h5] at h3;cases h3
      cases ob with
      | box cs'=>exact .bown i l cs' b cap c e hm (by simp [reσ,hj,h6]) h7 h8 h9
      | _=>simp [zcB] at h4
   | view i o l =>
    simp only [VLe] at h
    obtain ⟨j,hj,rfl⟩:=h
    cases hm:mem'.get i with
    | none =>
     have : ∃ ad cap,u = .slice ad l cap:=by cases hx<;>exact ⟨_,_,rfl⟩
     obtain ⟨ad,cap,rfl⟩:=this
     exact .viewDead i o l ad cap hm (by have:=hlt hj;omega)
    | some ob =>
     have hg:=(zaw hle.m hm).2
     simp only [hj] at hg
     obtain ⟨ob',h3,h4⟩:=hg
     cases hx with
     | viewDead _ _ _ _ _ h5 h6=>rw [h5] at h3;cases h3
     | view0 _ _ ad cap=>exact .view0 i o ad cap (.inl (by rw [hm];simp))
     | view _ _ _ s xs b cap h5 h6 h7 h8 =>
      rw [h5] at h3;cases h3
      cases ob with
      | row s' xs'=>simp only [zcB,Ob.row.injEq] at h4;obtain ⟨rfl,rfl⟩:=h4;exact .view i o l s xs b cap hm (by simp [reσ,hj,h6]) h7 h8
      | _=>simp [zcB] at h4
   | agg cs =>
    simp only [VLe] at h
    obtain ⟨xs,rfl,h⟩:=h
    cases hx with
    | agg _ us h1 h2 h3 =>
     obtain ⟨h4,h5⟩:=hlist k cs xs h (fun k' hk=>ih k' (by omega)) us h3
     exact .agg cs us (by omega) (fun i hi=>h2 i (by omega)) h5
   | tup cs =>
    simp only [VLe] at h
    obtain ⟨xs,rfl,h⟩:=h
    cases hx with
    | tup _ us h1 h3 =>
     obtain ⟨h4,h5⟩:=hlist k cs xs h (fun k' hk=>ih k' (by omega)) us h3
     exact .tup cs us (by omega) h5
   | yld l=>simp only [VLe] at h;subst h;cases hx;exact .yld l
   | fn f cs =>
    simp only [VLe] at h
    obtain ⟨xs,rfl,h⟩:=h
    cases hx with
    | fn _ _ us h1 h3 =>
     obtain ⟨h4,h5⟩:=hlist k cs xs h (fun k' hk=>ih k' (by omega)) us h3
     exact .fn f cs us (by omega) h5
theorem zjU (hle:Le env mem n env' mem' n' r nl) (h:Sim B env.get mem.get (fun i=>n≤i) σ a w):Sim B env'.get mem'.get (fun i=>n'≤i) (reσ r σ) a w:=by
 have hX : ∀ b,B.X (reσ r σ) mem'.get b→B.X σ mem.get b:=fun b=>zxh hle.m
 have hd : ∀ {d:D} {u:Value},zj (B.X σ mem.get) w d u→zj (B.X (reσ r σ) mem'.get) w d u:=fun h=>h.mono (fun _ _ _=>rfl) (fun b _ hb=>hX b hb)
 have old : ∀ {id b:Nat},mem'.get id≠none→reσ r σ id=some b → ∃ j,zbG r id=some j∧mem.get j≠none∧σ j=some b:=by
  intro id b h1 h2
  obtain ⟨ob,hob⟩:=Option.ne_none_iff_exists'.1 h1
  have hg:=(zaw hle.m hob).2
  unfold reσ at h2
  cases hj:zbG r id with
  | none=>rw [hj] at h2;cases h2
  | some j =>
   rw [hj] at h2
   simp only [hj] at hg
   obtain ⟨ob',h3,-⟩:=hg
   exact ⟨j,rfl,by rw [h3];simp,h2⟩
 refine ⟨fun t=>?_,fun id ob hid=>?_,fun i j b h1 h2 h3 h4=>?_,fun id b h1 h2=>?_,fun id hf=>?_,h.kept,h.nt,h.olt,h.pins,fun id l hl=>?_⟩
 ·rcases zra hle.e t with h1|h1
  ·rw [h1];exact .undef _
  ·exact zjV hle 30 _ _ _ h1 (h.env t)
 ·have hg:=(zaw hle.m hid).2
  cases hj:zbG r id with
  | none =>
   simp only [hj] at hg
   obtain ⟨-,s,rfl⟩:=hg
   exact .nilrow s (by simp [reσ,hj])
  | some j =>
   simp only [hj] at hg
   obtain ⟨ob',h3,h4⟩:=hg
   cases ob with
   | row s xs =>
    simp only [zcB] at h4;subst h4
    cases h.mem j _ h3 with
    | nilrow _ h5=>exact .nilrow s (by simp [reσ,hj,h5])
    | row _ _ b c e h5 h6 h7 h8 h9 h10=>exact .row s xs b c e (by simp [reσ,hj,h5]) h6 h7 h8 h9 fun i k hi hk=>hd (h10 i k hi hk)
   | box cs =>
    simp only [zcB] at h4
    obtain ⟨xs,rfl,h4⟩:=h4
    cases h.mem j _ h3 with
    | box _ b c e h5 h6 h7 h8 h9 =>
     obtain ⟨k1,k2⟩:=zoL h4
     refine .box cs b c e (by simp [reσ,hj,h5]) h6 (by omega) (fun i hi=>h8 i (by omega)) fun i hi=>?_
     obtain ⟨k',-,k3⟩:=k2 i hi
     exact zjV hle k' _ _ _ k3 (h9 i (by omega))
   | map es =>
    simp only [zcB] at h4;subst h4
    cases h.mem j _ h3 with
    | map _ b ents clock h5 h6 h7 h8 h9 h10=>exact .map es b ents clock (by simp [reσ,hj,h5]) h6 h7 h8 (fun i hi=>hd (h9 i hi)) fun i hi=>hd (h10 i hi)
   | iter l c =>
    simp only [zcB] at h4;subst h4
    cases h.mem j _ h3 with
    | iterNil b since seen last h5 h6=>exact .iterNil b since seen last (by simp [reσ,hj,h5]) h6
    | iter _ _ b m ents clock seen h5 h6 h7 h8 h9 h10 h11 h12 h13 h14 =>
     exact .iter l c b m ents clock seen (by simp [reσ,hj,h5]) h6 (fun hb=>h7 (hX m hb)) h8 h9 h10 h11 (fun i hi=>hd (h12 i hi)) (fun i hi=>hd (h13 i hi)) (h14.mono (fun _ _ _=>rfl) (fun b _ hb=>hX b hb))
   | todo l =>
    simp only [zcB] at h4;subst h4
    cases h.mem j _ h3 with
    | todo _ h5=>exact .todo l (by simp [reσ,hj,h5])
 ·obtain ⟨i',e1,e2,e3⟩:=old h1 h3
  obtain ⟨j',f1,f2,f3⟩:=old h2 h4
  have:=h.inj i' j' b e2 f2 e3 f3
  subst this
  exact zrz hle.inj (zgm e1) (zgm f1)
 ·obtain ⟨i',e1,e2,e3⟩:=old h1 h2
  exact h.mine i' b e2 e3
 ·cases hm:mem'.get id with
  | none=>rfl
  | some ob=>have:=(zaw hle.m hm).1;exact absurd hf (by omega)
 ·have hg:=(zaw hle.m hl).2
  cases hj:zbG r id with
  | none =>
   simp only [hj] at hg
   obtain ⟨-,s,h1⟩:=hg
   cases h1
  | some j =>
   simp only [hj] at hg
   obtain ⟨ob',h3,h4⟩:=hg
   simp only [zcB] at h4;subst h4
   exact B.stab _ _ _ l w w (h.todo j l h3) ⟨rfl,rfl,rfl⟩ (Nat.le_refl _) (fun _ _ _=>rfl) (fun b c e hc=>⟨c,hc,rfl⟩) fun b hb=>by
    obtain ⟨id,h5,h6⟩:=hb
    obtain ⟨j,-,h7,h8⟩:=old h5 h6
    obtain ⟨o,ho⟩:=zaV h h7 h8
    exact ⟨.inl ⟨j,h7,h8⟩,zz ho⟩
end
end Go.Ab
namespace Go.Ab
open Go
def zcm (D:Nat):Deferred := { target := .collected D,args := #[] }
structure Ext (B B':zx):Prop where
 w0:B'.w0=B.w0
 R:B'.R=B.R
 nt:B'.nt=B.nt
 ghost:B'.ghost=B.ghost
 inv:B'.inv=B.inv
 O : ∀ b,B.O b→B'.O b
 pin : ∀ b o,B.pin b o→B'.pin b o
 dfr : ∃ Ds:List Nat,B'.dfr=Ds.map zcm++B.dfr∧Ds.Nodup ∧ ∀ D∈Ds,B'.pin D (.deferred (some []))∧B.w0.heap.size≤D ∧ ¬ B.O D
theorem Ext.refl (B:zx):Ext B B:=⟨rfl,rfl,rfl,rfl,rfl,fun _ h=>h,fun _ _ h=>h,[],rfl,List.nodup_nil,fun _ h=>by cases h⟩
def Has (T:Nat→Obj→Prop) (B:zx):Prop := ∀ b o,T b o→B.pin b o
theorem Ext.has {T:Nat→Obj→Prop} {B B':zx} (h:Ext B B') (hT:Has T B):Has T B':=fun b o ht=>h.pin b o (hT b o ht)
theorem Ext.trans {B B' B'':zx} (h:Ext B B') (h':Ext B' B''):Ext B B'':=by
 obtain ⟨Ds,e1,n1,p1⟩:=h.dfr
 obtain ⟨Ds',e2,n2,p2⟩:=h'.dfr
 refine ⟨h'.w0.trans h.w0,h'.R.trans h.R,h'.nt.trans h.nt,h'.ghost.trans h.ghost,h'.inv.trans h.inv,fun b hb=>h'.O b (h.O b hb),fun b o hb=>h'.pin b o (h.pin b o hb),Ds'++Ds,by rw [e2,e1];simp,?_,?_⟩
 ·rw [List.nodup_append]
  refine ⟨n2,n1,fun a ha b hb e=>?_⟩
  subst e
  exact (p2 a ha).2.2 (B'.pinO _ _ (p1 a hb).1)
 ·intro D hD
  rcases List.mem_append.1 hD with hD|hD
  ·obtain ⟨q1,q2,q3⟩:=p2 D hD
   exact ⟨q1,by rw [← h.w0];exact q2,fun hb=>q3 (h.O D hb)⟩
  ·obtain ⟨q1,q2,q3⟩:=p1 D hD
   exact ⟨h'.pin _ _ q1,q2,q3⟩
structure zeg (B B':zx):Prop where
 ext:Ext B B'
 dfr:B'.dfr=B.dfr
 pin:B'.pin=B.pin
theorem zeg.refl (B:zx):zeg B B:=⟨.refl B,rfl,rfl⟩
theorem zeg.trans {B B' B'':zx} (h:zeg B B') (h':zeg B' B''):zeg B B'':=⟨h.ext.trans h'.ext,h'.dfr.trans h.dfr,h'.pin.trans h.pin⟩
def zoR (P:Program) (B:zx) (Y:zc3):Prop :=
 ∀ (env:Env) (mem:Mem) (n:Nat) (σ:Nat→Option Nat) (a:Act) (w:World) (l:Nat) (vs:List V) (args:Array Value) (K:Bool→Mem→Nat→Prop),
  Sim B env.get mem.get (fun i=>n≤i) σ a w→Y l vs mem n K→args.size=vs.length →
  (∀ i,i < vs.length→VSim σ mem.get (fun i=>n≤i) (B.X σ mem.get) w (vs.getD i .undef) (args.getD i undef)) →
  ∀ cs,∃ b B' mem' n' σ' w',K b mem' n'∧zeg B B'∧zuL P cs l args w b w'∧Sim B' env.get mem'.get (fun i=>n'≤i) σ' a w'
theorem zmE (P:Program) (B:zx):zoR P B noY:=fun _ _ _ _ _ _ _ _ _ _ _ h=>h.elim
theorem zud {P:Program} {o:Oper} {x:Arg} (h:zbC P o=some (.next x)) : ∃ x',o.op = .next x' false∧zN P x'=some x:=by
 unfold zbC at h
 split at h
 all_goals try (simp only [Option.map_eq_some_iff,Option.pure_def,Option.bind_eq_bind,Option.bind_eq_some_iff,Option.some.injEq,reduceCtorEq,and_false,exists_false] at h;done)
 all_goals try (split at h<;>(simp only [Option.ite_none_left_eq_some,Option.map_eq_some_iff,Option.pure_def,Option.bind_eq_bind,Option.bind_eq_some_iff,Option.some.injEq,reduceCtorEq,and_false,exists_false] at h;done))
 ·rename_i x' ho
  obtain ⟨y,hy,e⟩:=Option.map_eq_some_iff.1 h
  cases e
  exact ⟨x',ho,hy⟩
 all_goals split at h
 all_goals try (simp only [Option.ite_none_left_eq_some,Option.map_eq_some_iff,Option.pure_def,Option.bind_eq_bind,Option.bind_eq_some_iff,Option.some.injEq,reduceCtorEq,and_false,exists_false] at h;done)
 all_goals split at h
 all_goals try (simp only [Option.ite_none_left_eq_some,Option.map_eq_some_iff,Option.pure_def,Option.bind_eq_bind,Option.bind_eq_some_iff,Option.some.injEq,reduceCtorEq,and_false,exists_false] at h;done)
theorem zvD {P:Program} {o:Oper} {neg:Bool} {x y:Arg} (h:zbC P o=some (.eqN neg x y)) :
  ∃ t e u x' y',o.op = .binOp (cond neg .neq .eql) t x' y' u∧P.underlying t=some (.slice e)∧arg P t x'=some x∧arg P t y'=some y:=by
 unfold zbC at h
 split at h
 all_goals try (simp only [Option.map_eq_some_iff,Option.pure_def,Option.bind_eq_bind,Option.bind_eq_some_iff,Option.some.injEq,reduceCtorEq,and_false,exists_false] at h;done)
 all_goals try (split at h<;>(simp only [Option.ite_none_left_eq_some,Option.map_eq_some_iff,Option.pure_def,Option.bind_eq_bind,Option.bind_eq_some_iff,Option.some.injEq,reduceCtorEq,and_false,exists_false] at h;done))
 ·rename_i op t x' y' u ho
  split at h
  all_goals try (simp only [Option.map_eq_some_iff,Option.pure_def,Option.bind_eq_bind,Option.bind_eq_some_iff,Option.some.injEq,reduceCtorEq,and_false,exists_false] at h;done)
  ·rename_i e ht
   simp only [Option.pure_def,Option.bind_eq_bind,Option.bind_eq_some_iff] at h
   obtain ⟨x1,hx,y1,hy,e1⟩:=h
   cases e1
   exact ⟨t,e,u,x',y',ho,ht,hx,hy⟩
  ·rename_i e ht
   simp only [Option.pure_def,Option.bind_eq_bind,Option.bind_eq_some_iff] at h
   obtain ⟨x1,hx,y1,hy,e1⟩:=h
   cases e1
   exact ⟨t,e,u,x',y',ho,ht,hx,hy⟩
 all_goals split at h
 all_goals try (simp only [Option.ite_none_left_eq_some,Option.map_eq_some_iff,Option.pure_def,Option.bind_eq_bind,Option.bind_eq_some_iff,Option.some.injEq,reduceCtorEq,and_false,exists_false] at h;done)
 all_goals split at h
 all_goals try (simp only [Option.ite_none_left_eq_some,Option.map_eq_some_iff,Option.pure_def,Option.bind_eq_bind,Option.bind_eq_some_iff,Option.some.injEq,reduceCtorEq,and_false,exists_false] at h;done)
theorem zp9 {P:Program} {w:World} {t e:TypeId} (ht:P.underlying t=some (.slice e)) (ad:Option Addr) (l c:Nat):(Op.equal t (.slice ad l c) (.slice none 0 0)).run P w = .ok ad.isNone w:=by
 have : ∀ d,(Op.equalIn (d+1) t (.slice ad l c) (.slice none 0 0)).run P w = .ok ad.isNone w:=fun d=>by
  cases ad<;>simp [Op.equalIn,run_underlying ht]
 exact this 9999
theorem zrM {P:Program} {B:zx} {ρ:Nat→V} {M:Nat→Option Ob} {F:Nat→Prop} {σ:Nat→Option Nat} {a:Act} {w:World} (h:Sim B ρ M F σ a w) {o:Oper} {neg:Bool} {x y:Arg} {s:Nat} (hc:zbC P o=some (.eqN neg x y)) (hy:y.ev ρ = .nils s)
  {xs:List D} (hx : ∀ v,VSim σ M F (B.X σ M) w (x.ev ρ) v → ∃ ad l c,v = .slice ad l c∧(ad.isNone=true→xs=[])) (cs:List Frame) :
  ∃ b:Bool,(b=true→xs=[])∧zlv P cs o a w (.bool (b != neg)) w:=by
 obtain ⟨t,e,u,x',y',ho,ht,hx',hy'⟩:=zvD hc
 obtain ⟨ad,l,c,ev,hb⟩:=hx _ (zW h hx')
 have hys:=zW h hy'
 rw [hy] at hys
 have e2:=zox hys
 refine ⟨ad.isNone,hb,.inl ?_⟩
 have hd : ∀ c,o.op ≠ .defer c:=by rw [ho];simp
 exact ⟨hd,.inl (zdF (P:=P) (a:=a) (w:=w) ho (v := .bool (ad.isNone != neg)) (by rw [ev,e2];unfold eqGuard;cases neg<;>rfl) (by
  have hr:=zp9 (w:=w) ht ad l c
  rw [ev,e2]
  cases neg<;>simp [binOp,hr,bne]))⟩
theorem zsL {P:Program} {o:Oper} {g:Arg} {ys:List Arg} (h:zbC P o=some (.callv g ys)) :
  ∃ g' args ts,o.op = .call { callee := .value g',args,argTypes:=ts } ∧ args.size=ts.size∧zN P g'=some g∧(args.toList.zip ts.toList).mapM (fun (x,t)=>arg P t x)=some ys:=by
 unfold zbC at h
 split at h
 all_goals try (simp only [Option.map_eq_some_iff,Option.pure_def,Option.bind_eq_bind,Option.bind_eq_some_iff,Option.some.injEq,reduceCtorEq,and_false,exists_false] at h;done)
 all_goals try (split at h<;>(simp only [Option.ite_none_left_eq_some,Option.map_eq_some_iff,Option.pure_def,Option.bind_eq_bind,Option.bind_eq_some_iff,Option.some.injEq,reduceCtorEq,and_false,exists_false] at h;done))
 all_goals split at h
 all_goals try (simp only [Option.ite_none_left_eq_some,Option.map_eq_some_iff,Option.pure_def,Option.bind_eq_bind,Option.bind_eq_some_iff,Option.some.injEq,reduceCtorEq,and_false,exists_false] at h;done)
 all_goals try (split at h<;>(simp only [Option.ite_none_left_eq_some,Option.map_eq_some_iff,Option.pure_def,Option.bind_eq_bind,Option.bind_eq_some_iff,Option.some.injEq,reduceCtorEq,and_false,exists_false] at h;done))
 ·rename_i g' args ts hnf ho hsz
  simp only [Option.pure_def,Option.bind_eq_bind,Option.bind_eq_some_iff] at h
  obtain ⟨g1,hg,ys',hys,e⟩:=h
  cases e
  exact ⟨g',args,ts,ho,hsz,hg,hys⟩
section
variable {P:Program} {C:zh} {Y:zc3}
theorem zqX {o:Oper} {g:Operand} {args:Array Operand} {ts:Array TypeId} {a:Act} {w:World} {l:Nat} {r:Loop} (ho:o.op = .call { callee := .value g,args,argTypes:=ts }) (hg:a.eval g = .func (.yield l) #[] #[])
  (hl:w.heap[l]? = some (.loop r)) (hs:(args.map a.eval).size=r.params.size) :
  (execOp a.eval o).run P w = .ok (.round l r.fn ((r.params.zip (args.map a.eval)).foldl (fun tmps (t,a)=>tmps.setIfInBounds t a) r.tmps) r.assign r.body) w:=by
 rw [show (execOp a.eval o).run P w=(Instr.yield l (args.map a.eval)).run P w by simp [execOp,ho,resolve,hg,Deferred.ofValue,invoke]]
 exact run_yield (P:=P) hl hs
theorem zug {B:zx} (hY:zoR P B Y) {env:Env} {mem:Mem} {n:Nat} {σ:Nat→Option Nat} {a:Act} {w:World} (h:Sim B env.get mem.get (fun i=>n≤i) σ a w) {o:Oper} {co:CO} (hc:zbC P o=some co)
  {f:(V→Mem→Nat→Prop)→Prop} (hd:zcv Y co env mem n=some f) {K:V→Mem→Nat→Prop} (hf:f K) (cs:List Frame) :
  ∃ v B' mem' n' σ' v' w',K v mem' n'∧zeg B B'∧zlv P cs o a w v' w'∧Sim B' env.get mem'.get (fun i=>n'≤i) σ' a w'∧VSim σ' mem'.get (fun i=>n'≤i) (B'.X σ' mem'.get) w' v v':=by
 unfold zcv at hd
 split at hd
 ·rename_i g xs
  split at hd
  ·rename_i l hg
   cases hd
   obtain ⟨g',args,ts,ho,hsz,hgu,hys⟩:=zsL hc
   have hgs:=zO h hgu
   rw [hg] at hgs
   have hge:a.eval g' = .func (.yield l) #[] #[]:=by
    generalize a.eval g'=ge at hgs
    cases hgs;rfl
   obtain ⟨h1,h2⟩:=zjg h (by simpa using hsz) hys
   have ea:(args.toList.map a.eval).toArray=args.map a.eval:=by apply Array.ext';simp
   rw [ea] at h2
   obtain ⟨b,B',mem',n',σ',w',k1,k2,⟨r,k3,k4,k5⟩,k6⟩:=hY env mem n σ a w l (evs env.get xs) (args.map a.eval) _ h hf (by simp [h1]) (fun i hi=>h2 i (by omega)) cs
   refine ⟨_,B',mem',n',σ',.bool b,w',k1,k2,.inr ⟨by rw [ho];simp,.inr ⟨l,r.fn,_,r.assign,r.body,w,zqX ho hge k3 k4,k5⟩⟩,k6,.d _ _ (.bool b)⟩
  ·cases hd
 ·rename_i it
  split at hd
  ·rename_i id hid
   cases hd
   split at hf
   ·rename_i left cur hm
    obtain ⟨x',ho,hx⟩:=zud hc
    rcases zzA h ho hx hid hm with ⟨h0,v',w',k1,k2,k3⟩|⟨i,kd,vd,hi,v',w',k1,k2,k3⟩
    ·exact ⟨_,B,mem,n,σ,v',w',hf.1 h0,(.refl B),.inl k1,k2,k3⟩
    ·refine ⟨_,B,_,n,σ,v',w',hf.2 i kd vd hi,(.refl B),.inl k1,?_,?_⟩
     ·rw [zol];exact k2
     ·rw [zol];exact k3
   ·exact hf.elim
  ·cases hd
 ·rename_i neg x y
  split at hd
  ·rename_i s xs s' hx hy
   cases hd
   obtain ⟨b,hb,hop⟩:=zrM (xs:=xs) h hc hy (fun v hv=>by
    rw [hx] at hv
    cases hv with
    | d _ _ hv =>
     cases hv with
     | arr0=>exact ⟨_,_,_,rfl,fun _=>rfl⟩
     | arr=>exact ⟨_,_,_,rfl,nofun⟩) cs
   exact ⟨_,B,mem,n,σ,_,w,hf b hb,.refl B,hop,h,.d _ _ (.bool _)⟩
  ·rename_i id s hx hy
   split at hd
   ·rename_i s' xs hm
    cases hd
    obtain ⟨b,hb,hop⟩:=zrM (xs:=xs) h hc hy (fun v hv=>by
     rw [hx] at hv
     cases hv with
     | ownDead _ _ _ _ h1=>rw [hm] at h1;cases h1
     | own=>exact ⟨_,_,_,rfl,nofun⟩
     | ownNil _ _ h1 =>
      rw [hm] at h1;cases h1
      exact ⟨_,_,_,rfl,fun _=>rfl⟩) cs
    exact ⟨_,B,mem,n,σ,_,w,hf b hb,.refl B,hop,h,.d _ _ (.bool _)⟩
   ·cases hd
  ·cases hd
 ·cases hd
theorem zi9 (id len:Nat) : ∀ (env:Env) (t:Nat),(zgt id len env).get t=match env.get t with
  | .own j=>cond (Nat.beq j id) (.view id 0 len) (.own j)
  | v=>v
 | [],t=>rfl
 | (k,v)::r,t=>by
  simp only [zgt,Env.get]
  cases Nat.beq k t with
  | true=>rfl
  | false=>exact zi9 id len r t
theorem zz6 (o:CO) (u:Upd) (mem:Mem) (env:Env) (k:Env→Prop):zfR o u mem env k=k (zky o u mem env):=by
 unfold zfR zky
 split
 ·split
  ·split
   ·split<;>rfl
   ·rfl
  ·rfl
 ·rfl
theorem zxK {B:zx} {env:Env} {mem:Mem} {F F':Nat→Prop} {σ σ':Nat→Option Nat} {a:Act} {w w':World} {o:CO} {u:Upd} (h:Sim B env.get mem.get F σ a w) (hF : ∀ i,F' i→F i)
  (h':Sim B env.get (zV u mem).get F' σ' a w'):Sim B (zky o u mem env).get (zV u mem).get F' σ' a w':=by
 unfold zky
 split
 ·split
  ·rename_i id rest
   split
   ·rename_i s xs hm
    split
    ·rename_i hd
     have hnF : ¬ F' id:=fun hf=>by
      have:=h.free id (hF id hf);rw [hm] at this;cases this
     refine { h' with env:=fun t=>?_ }
     rw [zi9]
     have h1:=h'.env t
     have h0:=h.env t
     generalize env.get t=v at h0 h1
     cases v with
     | own j =>
      show VSim _ _ _ _ _ (cond (Nat.beq j id) (.view id 0 xs.length) (.own j)) _
      cases hj:Nat.beq j id with
      | false=>exact h1
      | true =>
       obtain rfl:=Nat.eq_of_beq_eq_true hj
       simp only [cond_true]
       generalize B.look a t=val at h0 h1
       cases h0 with
       | ownDead _ _ _ _ g1=>rw [hm] at g1;cases g1
       | own _ s' xs' b cap c e g1 g2 g3 g4 =>
        rw [hm] at g1;cases g1
        exact .viewDead _ _ _ _ _ hd hnF
       | ownNil _ s' g1 =>
        rw [hm] at g1;cases g1
        exact .viewDead _ _ _ _ _ hd hnF
     | _=>exact h1
    ·exact h'
   ·exact h'
  ·exact h'
 ·exact h'
theorem zuf {δ:Dec} {env:Env} {o:CO} {u:Upd} {mem:Mem} (h:zcu δ env.get):zcu δ (zky o u mem env).get:=by
 have key : ∀ id len,zcu δ (zgt id len env).get:=fun id len s b hs=>by
  have h1:=h s b hs
  rw [zi9]
  generalize env.get s=v at h1
  cases v<;>first|exact h1|(cases h1)
 unfold zky
 split
 ·split
  ·split
   ·split
    ·exact key _ _
    ·exact h
   ·exact h
  ·exact h
 ·exact h
theorem zrU {T:Nat→Obj→Prop} (hC : ∀ B,Has T B→zcJ P B C) (b:FB) (k:List Item) (cs:List Frame) {ops:Array Oper} {K:Env→Mem→Nat→Prop} :
  ∀ (l:List COp) (i:Nat) (B:zx) (hT:Has T B) (hY : ∀ B',zeg B B'→zoR P B' Y) (hs : ∀ (j s:Nat),((ops[j]?).bind fun (o:Oper)=>o.dst)=some s→s < B.nt)
   (hl : ∀ j co,l[j]? = some co → ∃ o,ops[i+j]? = some o∧zbn P ops B.nt o=some co) (δ:Dec) (env:Env) (mem:Mem) (n:Nat) (σ:Nat→Option Nat) (a:Act) (w:World),
   zdk C Y K l δ env mem n→zcu δ env.get→Sim B env.get mem.get (fun i=>n≤i) σ a w →
   ∃ B' env' mem' n' σ' a' w',zeg B B'∧K env' mem' n'∧zbg P b k cs ops (List.range' i l.length) a w a' w'∧Sim B' env'.get mem'.get (fun i=>n'≤i) σ' a' w'
 | [],i,B,hT,hY,hs,hl,δ,env,mem,n,σ,a,w,h,hδ,hsim=>⟨B,env,mem,n,σ,a,w,(.refl B),by simpa [zdk] using h,⟨rfl,rfl⟩,hsim⟩
 | co::l,i,B,hT,hY,hs,hl,δ,env,mem,n,σ,a,w,h,hδ,hsim=>by
  obtain ⟨o,ho,hco⟩:=hl 0 co rfl
  rw [Nat.add_zero] at ho
  have hl' : ∀ j co,l[j]? = some co → ∃ o,ops[i+1+j]? = some o∧zbn P ops B.nt o=some co:=fun j co hj=>by
   have:=hl (j+1) co (by simpa using hj)
   rwa [show i+(j+1)=i+1+j by omega] at this
  obtain ⟨h1,h2,h3,-⟩:=zem hco
  have takeF_ge : ∀ m,zbN (fun i=>n≤i) n m=fun i=>n+m≤i:=fun m=>by
   funext j;simp only [zbN];apply propext;omega
  have next : ∀ (env1:Env) (B1:zx) (δ:Dec) (v:V) (mem1:Mem) (n1:Nat) (σ1:Nat→Option Nat) (v':Value) (w1:World),zeg B B1→zcu δ env1.get →
    zdk C Y K l (δ.del co.dst) (zY co.dst v env1) mem1 n1→zvo P (b.at a (.inRegion ops (i::List.range' (i+1) l.length)::k)::cs) ops o a w v' w1 →
    Sim B1 (zd4 env1.get co.dst v) mem1.get (fun i=>n1≤i) σ1 (a.put o.dst v') w1 →
    ∃ B' env' mem' n' σ' a' w',zeg B B'∧K env' mem' n'∧zbg P b k cs ops (List.range' i (co::l).length) a w a' w'∧Sim B' env'.get mem'.get (fun i=>n'≤i) σ' a' w':=by
   intro env1 B1 δ v mem1 n1 σ1 v' w1 hext hδ hw hone hs1
   have e1:=zpx co.dst v env1
   rw [← e1] at hs1
   obtain ⟨B',env',mem',n',σ',a',w',k1,k2,k3,k4⟩:=zrU hC b k cs l (i+1) B1 (hext.ext.has hT) (fun B' h=>hY B' (hext.trans h)) (by rw [hext.ext.nt];exact hs) (by rw [hext.ext.nt];exact hl') _ _ _ _ σ1 (a.put o.dst v') w1 hw (by rw [e1];exact hδ.del _ _) hs1
   refine ⟨B',env',mem',n',σ',a',w',hext.trans k1,k2,?_,k4⟩
   simp only [List.length_cons,List.range'_succ]
   exact zbg.cons' ho hone k3
  have fire : ∀ (δ:Dec),zcu δ env.get→zc1 co.guard env.get=some true →
    (match zcv Y co.op env mem n with
     | some f=>f fun v mem n=>zdk C Y K l (δ.del co.dst) (zY co.dst v env) mem n
     | none=>(zdr δ co.op env.get mem.get n).wp C mem.get n fun v u m=>zfR co.op u mem env fun env=>zdk C Y K l (δ.del co.dst) (zY co.dst v env) (zV u mem) (n+m)) →
    ∃ B' env' mem' n' σ' a' w',zeg B B'∧K env' mem' n'∧zbg P b k cs ops (List.range' i (co::l).length) a w a' w'∧Sim B' env'.get mem'.get (fun i=>n'≤i) σ' a' w':=by
   intro δ hδ hw h
   have hwant:=zht hsim hco hs hw
   have hd : ∀ d,co.dst=some d→d < B.nt:=fun d e=>h3 d (by rw [← h2];exact e)
   split at h
   ·rename_i f hdem
    obtain ⟨v,B1,mem1,n1,σ1,v',w1,g1,g2,g3,g4,g5⟩:=zug (hY B (.refl B)) hsim h1 hdem h (b.at a (.inRegion ops (i::List.range' (i+1) l.length)::k)::cs)
    refine next env B1 δ v mem1 n1 σ1 v' w1 g2 hδ g1 (.inl ⟨hwant,g3⟩) ?_
    rw [← h2]
    exact g4.put (by rw [g2.ext.nt];exact hd) g5
   ·obtain ⟨v,u,m,g1,g2⟩:=zsR hδ (znH hsim h1 n) h
    obtain ⟨v',w1,σ1,g3,g4,g5⟩:=zrD (hC B hT) hsim (fun j hj _=>hj) h1 g1 (b.at a (.inRegion ops (i::List.range' (i+1) l.length)::k)::cs)
    rw [takeF_ge,← zf0] at g4 g5
    rw [zz6] at g2
    refine next (zky co.op u mem env) B δ v (zV u mem) (n+m) σ1 v' w1 (.refl B) (zuf hδ) g2 (.inl ⟨hwant,g3⟩) ?_
    rw [← h2]
    exact (zxK hsim (fun i hi=>by omega) g4).put hd g5
  unfold zdk at h
  split at h
  ·rename_i hg
   exact fire δ hδ (by rw [hg];rfl) h
  ·rename_i g hg
   obtain ⟨δ',hδ',h|h⟩:=znI hδ h
   ·exact fire δ' hδ' (by rw [hg];exact h.1) h.2
   ·have hd : ∀ d,co.dst=some d→d < B.nt:=fun d e=>h3 d (by rw [← h2];exact e)
    refine next env B δ' (.tup []) mem n σ undef w (.refl B) hδ' h.2 (.inr ⟨zht hsim hco hs (by rw [hg];exact h.1),rfl,rfl⟩) ?_
    rw [← h2]
    exact hsim.put hd (.tup [] #[] rfl (fun i hi=>absurd hi (Nat.not_lt_zero i)))
end
end Go.Ab
namespace Go.Ab
open Go
abbrev Inv := (O Z : Nat → Prop) → Option (List (List D)) → World → Prop
def zgH (w w' : World) : Prop := ∀ (b : Nat) (c : Array Value) (e : TypeId), w.heap[b]? = some (.cells c e (0, 0)) → ∃ c' : Array Value, w'.heap[b]? = some (.cells c' e (0, 0)) ∧ c'.size = c.size
def zhv (P : Program) (w0 : World) (R : Nat → Prop) (pin : Nat → Obj → Prop) (J : Inv) (l : Nat) : Prop :=
  ∀ (O Z : Nat → Prop) (x : List D) (rest : List (List D)) (w : World) (args : Array Value), J O Z (some (x :: rest)) w → (∀ b, Z b → ¬ O b) → (∀ b, O b → b < w.heap.size) → w0.heap.size ≤ w.heap.size → args.size = x.length →
    (∀ i, i < x.length → zj (fun b => O b ∨ Z b) w (x.getD i .nil) (args.getD i undef)) →
    ∀ cs, ∃ b w', zuL P cs l args w b w' ∧ zbh w w' ∧ w.heap.size ≤ w'.heap.size ∧ (∀ k, k < w.heap.size → ¬ O k → w'.heap[k]? = w.heap[k]?) ∧ (∀ k, k < w0.heap.size → ¬ R k → w'.heap[k]? = w.heap[k]?) ∧
      (∀ k o, pin k o → w.heap[k]? = some o → w'.heap[k]? = some o) ∧ zgH w w' ∧ J (fun k => O k ∨ (w.heap.size ≤ k ∧ k < w'.heap.size)) Z (if b then some rest else none) w'
structure zzF (J : Inv) : Prop where
  stab : ∀ (O Z Z' : Nat → Prop) (l : Option (List (List D))) (w w' : World), J O Z l w → w'.os = w.os ∧ w'.tape = w.tape ∧ w'.output = w.output → w.heap.size ≤ w'.heap.size →
    (∀ b, b < w.heap.size → ¬ Z b → w'.heap[b]? = w.heap[b]?) → zgH w w' → (∀ b, Z' b → (Z b ∨ w.heap.size ≤ b) ∧ b < w'.heap.size) → J O Z' l w'
  mono : ∀ (O O' Z : Nat → Prop) (l : Option (List (List D))) (w : World), J O Z l w → (∀ b, O b → O' b) → J O' Z l w
def zlu (P : Program) (B : zx) (I : zcF) : Prop :=
  ∀ (ρ : Nat → V) (M : Nat → Option Ob) (F : Nat → Prop) (σ : Nat → Option Nat) (a : Act) (w : World) (n g : Nat) (cs : List V) (xs : List (List D)) (u : Upd) (fin : Bool) (caps : Array Value),
    Sim B ρ M F σ a w → I M n g cs xs u fin → caps.size = cs.length → (∀ i, i < cs.length → VSim σ M F (B.X σ M) w (cs.getD i .undef) (caps.getD i undef)) →
    zc5 P g ∧ (∀ p ∈ u, p.2 = none) ∧ ∃ O0 Z0 : Nat → Prop, (∀ b, Z0 b → own σ M b ∧ ¬ own σ (zq u M) b) ∧ (∀ b, own σ (zq u M) b ∨ B.O b → O0 b) ∧ (∀ b, O0 b → b < w.heap.size ∧ ¬ Z0 b) ∧
      ∀ (w1 : World) (l : Nat) (J : Inv), zzF J → zbh w w1 → w.heap.size ≤ w1.heap.size → (∀ b, b < w.heap.size → w1.heap[b]? = w.heap[b]?) →
        J (fun b => O0 b ∨ (w.heap.size ≤ b ∧ b < w1.heap.size)) Z0 (some xs) w1 → zhv P w1 (fun b => O0 b ∨ (w.heap.size ≤ b ∧ b < w1.heap.size)) B.pin J l → (fin = false → ∀ O Z w, ¬ J O Z (some []) w) →
        ∀ cs', ∃ v' w', zgf P cs' g (#[.func (.yield l) #[] #[]] ++ caps) w1 v' w' ∧ ∃ O' Z' l', (l' = some [] ∨ l' = none) ∧ J O' Z' l' w'
def zx.withO (B : zx) (Z : Nat → Prop) : zx := { B with O := fun b => B.O b ∨ Z b, pinO := fun b o h => .inl (B.pinO b o h) }
def zbc (B : zx) : Prop := ∀ O Z l w, B.inv O Z l w
section
variable {B : zx} {ρ : Nat → V} {M : Nat → Option Ob} {F : Nat → Prop} {σ : Nat → Option Nat} {a : Act} {w w' : World}
theorem zmC : ∀ (u : Upd) (M : Nat → Option Ob) (i : Nat), (∀ p ∈ u, p.2 = none) → i ∈ u.map Prod.fst → zq u M i = none
  | [], M, i, _, h => by cases h
  | (j, x) :: r, M, i, hu, h => by
    simp only [zq]
    by_cases hr : i ∈ r.map Prod.fst
    · exact zmC r _ i (fun p hp => hu p (by simp [hp])) hr
    · rw [za4 r _ i hr]
      simp only [List.map_cons, List.mem_cons] at h
      have hj : i = j := h.resolve_right hr
      have hx : x = none := hu (j, x) (by simp)
      simp [zg, hj, hx]
theorem zxM (ht : zbc B) {Z Z' : Nat → Prop} (h : Sim (B.withO Z) ρ M F σ a w) (hs : zbh w w') (hsz : w.heap.size ≤ w'.heap.size) (hh : ∀ b, b < w.heap.size → ¬ Z b → w'.heap[b]? = w.heap[b]?) (hc : zgH w w')
    (hZ : ∀ b, Z' b → (Z b ∨ w.heap.size ≤ b) ∧ b < w'.heap.size) (hZR : ∀ b, Z b → B.R b ∨ B.w0.heap.size ≤ b) (hZp : ∀ b o, B.pin b o → ¬ Z b) : Sim (B.withO Z') ρ M F σ a w' := by
  have hblk : ∀ {id b : Nat}, M id ≠ none → σ id = some b → b < w.heap.size := fun h1 h2 => by obtain ⟨o, ho⟩ := zaV h h1 h2; exact zz ho
  have hownZ : ∀ {id b : Nat}, M id ≠ none → σ id = some b → ¬ Z b := fun {id b} h1 h2 hz => (h.mine id b h1 h2).1 (.inr hz)
  have hownS : ∀ {id b : Nat}, M id ≠ none → σ id = some b → w'.heap[b]? = w.heap[b]? := fun h1 h2 => hh _ (hblk h1 h2) (hownZ h1 h2)
  have t : zdn σ σ M M F F ((B.withO Z).X σ M) ((B.withO Z').X σ M) w w' := by
    refine ⟨fun id ob hi => .inr ⟨rfl, ob, hi, zaB h hi⟩, fun id h1 h2 => ⟨h1, h2⟩, hsz, fun b hb hlt => hh b hlt fun hz => hb (.inl (.inr hz)), fun b hlt hb => ?_, fun id b c e h1 h2 hcb => ⟨c, by rw [hownS h1 h2]; exact hcb, rfl⟩⟩
    rcases hb with (hb | hb) | hb
    · exact .inl (.inl hb)
    · rcases (hZ b hb).1 with h1 | h1
      · exact .inl (.inr h1)
      · omega
    · exact .inr hb
  refine ⟨fun x => (h.env x).turn t, fun id ob hi => (h.mem id ob hi).turn t rfl fun b hb => hownS (by simp [hi]) hb, h.inj, fun id b h1 h2 => ?_, h.free, ?_, h.nt, fun b hb => ?_, fun b o hp => ?_, fun id l hl => ht _ _ _ _⟩
  · obtain ⟨g1, g2⟩ := h.mine id b h1 h2
    refine ⟨fun hb => ?_, g2⟩
    rcases hb with hb | hb
    · exact g1 (.inl hb)
    · rcases (hZ b hb).1 with h3 | h3
      · exact g1 (.inr h3)
      · have := hblk h1 h2; omega
  · have k := h.kept
    refine ⟨hs.os.trans k.os, hs.tape.trans k.tape, hs.output.trans k.output, Nat.le_trans k.size hsz, fun b hb hr => ?_, fun b c e hcb => ?_⟩
    · have hlt : b < w.heap.size := Nat.lt_of_lt_of_le hb k.size
      rw [hh b hlt (fun hz => by rcases hZR b hz with h1 | h1
                                 · exact hr h1
                                 · exact absurd hb (Nat.not_lt.2 h1))]
      exact k.block b hb hr
    · obtain ⟨c', h1, h2⟩ := k.cells b c e hcb
      obtain ⟨c2, h3, h4⟩ := hc b c' e h1
      exact ⟨c2, h3, by omega⟩
  · rcases hb with hb | hb
    · exact Nat.lt_of_lt_of_le (h.olt b (.inl hb)) hsz
    · exact (hZ b hb).2
  · have h1 := h.pins b o hp
    rw [hh b (zz h1) (hZp b o hp)]; exact h1
def ztQ (B : zx) (σ : Nat → Option Nat) (M : Nat → Option Ob) (a : Act) (w : World) (l : Nat) (hl : B.O l) (o : Obj) : zx :=
  { B with w0 := w, R := fun b => own σ M b ∨ b = l, ghost := fun t => B.look a t, dfr := [], pin := fun b o' => B.pin b o' ∨ (b = l ∧ o' = o), pinO := fun b o' h => h.elim (B.pinO b o') (fun h => h.1 ▸ hl) }
def zwr (B : zx) (l : Nat) (hl : B.O l) (o : Obj) : zx :=
  { B with pin := fun b o' => (b ≠ l ∧ B.pin b o') ∨ (b = l ∧ o' = o), pinO := fun b o' h => h.elim (fun h => B.pinO b o' h.2) (fun h => h.1 ▸ hl) }
theorem zxL (ht : zbc B) (h : Sim B ρ M F σ a w) {l : Nat} (hl : B.O l) (hR : B.R l) {o : Obj} (hnc : ∀ c e, w.heap[l]? ≠ some (.cells c e (0, 0))) : Sim (zwr B l hl o) ρ M F σ a (w.putObj l o) := by
  have hother : ∀ k, k ≠ l → (w.putObj l o).heap[k]? = w.heap[k]? := fun k hk => World.putObj_heap_other hk
  have hne : ∀ id b, M id ≠ none → σ id = some b → b ≠ l := fun id b h1 h2 e => (h.mine id b h1 h2).1 (e ▸ hl)
  have t : zdn σ σ M M F F (B.X σ M) ((zwr B l hl o).X σ M) w (w.putObj l o) :=
    ⟨fun id ob hi => .inr ⟨rfl, ob, hi, zaB h hi⟩, fun id h1 h2 => ⟨h1, h2⟩, by simp, fun b hb _ => hother b fun e => hb (.inl (e ▸ hl)), fun b _ hb => hb, fun id b c e h1 h2 hc => ⟨c, by rw [hother b (hne id b h1 h2)]; exact hc, rfl⟩⟩
  refine ⟨fun x => (h.env x).turn t, fun id ob hi => (h.mem id ob hi).turn t rfl fun b hb => hother b (hne id b (by simp [hi]) hb), h.inj, h.mine, h.free, ?_, h.nt, fun b hb => by simp; exact h.olt b hb, fun b o' hp => ?_, fun id l hl => ht _ _ _ _⟩
  · have k := h.kept
    refine ⟨k.os, k.tape, k.output, by simp; exact k.size, fun b hb hr => ?_, fun b c e hcb => ?_⟩
    · rw [hother b fun e => hr (e ▸ hR)]; exact k.block b hb hr
    · obtain ⟨c', h1, h2⟩ := k.cells b c e hcb
      exact ⟨c', by rw [hother b fun e => hnc _ _ (by rw [← e]; exact h1)]; exact h1, h2⟩
  · rcases hp with ⟨h1, h2⟩ | ⟨rfl, rfl⟩
    · rw [hother b h1]; exact h.pins b o' h2
    · exact World.putObj_heap_same (h.olt b hl)
theorem Env.get_append (l m : Env) (t : Nat) (h : ∀ p ∈ l, p.1 ≠ t) : Env.get (l ++ m) t = Env.get m t := by
  induction l with
  | nil => rfl
  | cons p r ih =>
    obtain ⟨k, v⟩ := p
    have hk : k ≠ t := h (k, v) (by simp)
    have : Nat.beq k t = false := by
      cases hb : Nat.beq k t
      · rfl
      · exact absurd (Nat.eq_of_beq_eq_true hb) hk
    simp only [List.cons_append, Env.get, this, cond_false]
    exact ih fun p hp => h p (by simp [hp])
theorem Env.get_left (l m : Env) (t : Nat) : Env.get (l ++ m) t = Env.get l t ∨ (∀ p ∈ l, p.1 ≠ t) := by
  induction l with
  | nil => exact .inr fun p hp => by cases hp
  | cons p r ih =>
    obtain ⟨k, v⟩ := p
    cases hb : Nat.beq k t with
    | true => left; simp only [List.cons_append, Env.get, hb, cond_true]
    | false =>
      rcases ih with h | h
      · left; simp only [List.cons_append, Env.get, hb, cond_false]; exact h
      · right
        intro p hp
        rcases List.mem_cons.1 hp with rfl | hp
        · intro e; simp at e; subst e; simp at hb
        · exact h p hp
theorem zv2 (E : Env) (t : Nat) (ht : t < zc) : (zdY E).get t = E.get t := by
  induction E with
  | nil => rfl
  | cons p r ih =>
    obtain ⟨k, v⟩ := p
    simp only [zdY, Env.get]
    cases hb : Nat.blt k zc with
    | true => simp only [cond_true, Env.get, ih]
    | false =>
      simp only [cond_false]
      have hk : ¬ k < zc := by
        intro h
        rw [show Nat.blt k zc = true from Nat.blt_eq ▸ h] at hb; cases hb
      have : Nat.beq k t = false := by
        cases hb : Nat.beq k t
        · rfl
        · have := Nat.eq_of_beq_eq_true hb; omega
      rw [this, cond_false, ih]
theorem zuD (E : Env) (t : Nat) (ht : ¬ t < zc) : ∀ p ∈ zdY E, p.1 ≠ t := by
  induction E with
  | nil => intro p hp; cases hp
  | cons p r ih =>
    obtain ⟨k, v⟩ := p
    intro q hq
    simp only [zdY] at hq
    cases hb : Nat.blt k zc with
    | true =>
      rw [hb, cond_true] at hq
      rcases List.mem_cons.1 hq with rfl | hq
      · have : k < zc := by rw [Nat.blt_eq] at hb; exact hb
        intro e; simp at e; omega
      · exact ih q hq
    | false => rw [hb, cond_false] at hq; exact ih q hq
theorem ztW (E : Env) (t : Nat) : (zct E).get (zc + t) = E.get t := by
  induction E with
  | nil => rfl
  | cons p r ih =>
    obtain ⟨k, v⟩ := p
    simp only [zct, Env.get, ih]
    cases hb : Nat.beq k t with
    | true => have := Nat.eq_of_beq_eq_true hb; subst this; simp
    | false =>
      have : Nat.beq (zc + k) (zc + t) = false := by
        cases h : Nat.beq (zc + k) (zc + t)
        · rfl
        · have := Nat.eq_of_beq_eq_true h
          have : k = t := by omega
          subst this; simp at hb
      rw [this, cond_false]
theorem ztX (E : Env) (t : Nat) (ht : t < zc) : (zct E).get t = .undef := by
  induction E with
  | nil => rfl
  | cons p r ih =>
    obtain ⟨k, v⟩ := p
    simp only [zct, Env.get]
    have : Nat.beq (zc + k) t = false := by
      cases h : Nat.beq (zc + k) t
      · rfl
      · have := Nat.eq_of_beq_eq_true h; omega
    rw [this, cond_false, ih]
theorem zuK (E : Env) (t : Nat) : (zbH E).get t = E.get (zc + t) := by
  induction E with
  | nil => rfl
  | cons p r ih =>
    obtain ⟨k, v⟩ := p
    simp only [zbH, Env.get]
    cases hb : Nat.ble zc k with
    | true =>
      have hk := Nat.le_of_ble_eq_true hb
      simp only [cond_true, Env.get, ih]
      cases h : Nat.beq (k - zc) t with
      | true => have := Nat.eq_of_beq_eq_true h; rw [show Nat.beq k (zc + t) = true by rw [show k = zc + t by omega]; simp]
      | false =>
        rw [show Nat.beq k (zc + t) = false by
          cases h2 : Nat.beq k (zc + t)
          · rfl
          · have := Nat.eq_of_beq_eq_true h2
            rw [show k - zc = t by omega] at h; simp at h]
    | false =>
      have hk : ¬ zc ≤ k := fun h => by rw [Nat.ble_eq_true_of_le h] at hb; cases hb
      rw [cond_false, ih, show Nat.beq k (zc + t) = false by
          cases h2 : Nat.beq k (zc + t)
          · rfl
          · have := Nat.eq_of_beq_eq_true h2; omega]
      rfl
theorem zoV : ∀ (ps : List Nat) (x : List D) (args : List Value) (E : Env) (tmps : Array Value) (X : Nat → Prop), x.length = ps.length → args.length = ps.length → (∀ p ∈ ps, p < tmps.size) →
    (∀ i, i < x.length → zj X w (x.getD i .nil) (args.getD i undef)) → (∀ t, t < zc → VSim σ M F X w (E.get t) (tmps.getD t undef)) →
    (∀ t, t < zc → VSim σ M F X w ((zdQ ps x E).get t) (((ps.zip args).foldl (fun tmps (t, a) => tmps.setIfInBounds t a) tmps).getD t undef)) ∧ ((ps.zip args).foldl (fun tmps (t, a) => tmps.setIfInBounds t a) tmps).size = tmps.size
  | [], [], [], E, tmps, X, _, _, _, _, h => ⟨h, rfl⟩
  | p :: ps, y :: x, v :: args, E, tmps, X, h1, h2, h3, h4, h5 => by
    simp only [zdQ, List.zip_cons_cons, List.foldl_cons]
    have hp := h3 p (by simp)
    obtain ⟨g1, g2⟩ := zoV ps x args ((p, .d y) :: E) (tmps.setIfInBounds p v) X (by simpa using h1) (by simpa using h2) (fun q hq => by simpa using h3 q (by simp [hq])) (fun i hi => by have := h4 (i + 1) (by simpa using hi); simpa using this) (fun t ht => by
      simp only [Env.get]
      by_cases e : p = t
      · subst e
        have h0 := h4 0 (by simp)
        simp only [List.getD_cons_zero] at h0
        simpa [Array.getD, hp] using VSim.d (σ := σ) (M := M) (F := F) y v h0
      · rw [show Nat.beq p t = false by
          cases h : Nat.beq p t
          · rfl
          · exact absurd (Nat.eq_of_beq_eq_true h) e, cond_false]
        have := h5 t ht
        rwa [show (tmps.setIfInBounds p v).getD t undef = tmps.getD t undef by
          simp only [Array.getD_eq_getD_getElem?]; rw [Array.getElem?_setIfInBounds_ne e]])
    exact ⟨g1, by rw [g2]; simp⟩
  | [], _ :: _, _, _, _, _, h, _, _, _, _ => by simp at h
  | [], [], _ :: _, _, _, _, _, h, _, _, _ => by simp at h
  | _ :: _, [], _, _, _, _, h, _, _, _, _ => by simp at h
  | _ :: _, _ :: _, [], _, _, _, _, h, _, _, _ => by simp at h
theorem zns : ∀ (ps : List Nat) (x : List D) (E : Env) (t : Nat), (∀ p ∈ ps, p ≠ t) → (zdQ ps x E).get t = E.get t
  | [], _, _, _, _ => rfl
  | p :: ps, [], _, _, _ => rfl
  | p :: ps, y :: x, E, t, h => by
    simp only [zdQ]
    rw [zns ps x _ t fun q hq => h q (by simp [hq])]
    simp only [Env.get]
    rw [show Nat.beq p t = false by
      cases hb : Nat.beq p t
      · rfl
      · exact absurd (Nat.eq_of_beq_eq_true hb) (h p (by simp)), cond_false]
theorem zk3 : ∀ (ps : List Nat) (x : List D) (E G : Env), zdQ ps x (E ++ G) = zdQ ps x E ++ G
  | [], _, _, _ => rfl
  | p :: ps, [], _, _ => rfl
  | p :: ps, y :: x, E, G => by simp only [zdQ]; rw [← List.cons_append, zk3 ps x]
theorem zzd (ht : zbc B) {E : Env} {mem : Mem} {n : Nat} (h : Sim B E.get mem.get (fun i => n ≤ i) σ a w) {ps : Array Nat} {x : List D} {args : Array Value} (hx : x.length = ps.size) (ha : args.size = ps.size) (hps : ∀ p ∈ ps.toList, p < B.nt)
    (hd : ∀ i, i < x.length → zj (B.X σ mem.get) w (x.getD i .nil) (args.getD i undef)) {l : Nat} (hl : B.O l) {o : Obj} (ho : w.heap[l]? = some o) :
    Sim (ztQ B σ mem.get a w l hl o) (zdQ ps.toList x (zdY E) ++ zct E).get mem.get (fun i => n ≤ i) σ { tmps := (ps.zip args).foldl (fun tmps (t, a) => tmps.setIfInBounds t a) a.tmps, defers := [] } w := by
  have hfold : (ps.zip args).foldl (fun tmps (t, a) => tmps.setIfInBounds t a) a.tmps = (ps.toList.zip args.toList).foldl (fun tmps (t, a) => tmps.setIfInBounds t a) a.tmps := by
    rw [← Array.foldl_toList, Array.toList_zip]
  have hbase := zoV (w := w) (σ := σ) (M := mem.get) (F := fun i => n ≤ i) ps.toList x args.toList (zdY E ++ zct E) a.tmps (B.X σ mem.get) (by simpa using hx) (by simpa using ha) (fun p hp => by rw [h.nt.1]; exact hps p hp)
    (fun i hi => by have := hd i hi; rwa [show args.toList.getD i undef = args.getD i undef by simp [List.getD, Array.getD_eq_getD_getElem?]]) (fun t htt => by
      have := h.env t
      simp only [zx.look, if_pos htt] at this
      rcases Env.get_left (zdY E) (zct E) t with e | e
      · rw [e, zv2 E t htt]; exact this
      · rw [Env.get_append _ _ _ e, ztX E t htt]; exact .undef _)
  refine ⟨fun t => ?_, h.mem, h.inj, fun id b h1 h2 => ⟨(h.mine id b h1 h2).1, .inl (.inl ⟨id, h1, h2⟩)⟩, h.free, ⟨rfl, rfl, rfl, Nat.le_refl _, fun _ _ _ => rfl, fun b c e hc => ⟨c, hc, rfl⟩⟩, ⟨by rw [hfold, hbase.2]; exact h.nt.1, rfl⟩, h.olt, fun b o' hp => hp.elim (h.pins b o') (fun hp => by rw [hp.1, hp.2]; exact ho), fun id l hl => ht _ _ _ _⟩
  rw [← zk3]
  by_cases htt : t < zc
  · have := hbase.1 t htt
    simp only [zx.look, if_pos htt, hfold]
    exact this
  · simp only [zx.look, if_neg htt, ztQ]
    rw [zns _ _ _ _ fun p hp => by have := hps p hp; have := B.small; omega, Env.get_append _ _ _ (zuD E t htt)]
    obtain ⟨q, rfl⟩ : ∃ q, t = zc + q := ⟨t - zc, by omega⟩
    rw [ztW, Nat.add_sub_cancel_left]
    exact h.env q
theorem zxB (ht : zbc B) {M0 : Nat → Option Ob} {σ0 : Nat → Option Nat} {w0 : World} {ρ0 : Nat → V} {F0 : Nat → Prop} (h0 : Sim B ρ0 M0 F0 σ0 a w0) {l : Nat} {B' : zx} (hw0 : B'.w0 = w0) (hR : B'.R = fun b => own σ0 M0 b ∨ b = l)
    (hgh : B'.ghost = fun t => B.look a t) (hO : ∀ b, B.O b → B'.O b) {env : Env} {a' : Act}
    (h : Sim B' env.get M F σ a' w) (hlO : B.O l) (hlp : ∀ o, ¬ B.pin l o) (hl0 : B.w0.heap.size ≤ l) {o : Obj} (hnc : ∀ c e, w.heap[l]? ≠ some (.cells c e (0, 0))) :
    Sim B (zbH env).get M F σ a (w.putObj l o) ∧ zbh w0 w ∧ w0.heap.size ≤ w.heap.size ∧ (∀ k, k < w0.heap.size → ¬ own σ0 M0 k → k ≠ l → w.heap[k]? = w0.heap[k]?) ∧ zgH w0 (w.putObj l o) ∧ (∀ b, own σ M b → own σ0 M0 b ∨ w0.heap.size ≤ b) := by
  have hkept : zyb (fun b => own σ0 M0 b ∨ b = l) w0 w := by
    have := h.kept
    rw [hw0, hR] at this
    exact this
  have hother : ∀ k, k ≠ l → (w.putObj l o).heap[k]? = w.heap[k]? := fun k hk => World.putObj_heap_other hk
  have t : zdn σ σ M M F F (B'.X σ M) (B.X σ M) w (w.putObj l o) := by
    refine ⟨fun id ob hi => .inr ⟨rfl, ob, hi, zaB h hi⟩, fun id h1 h2 => ⟨h1, h2⟩, by simp, fun b hb _ => hother b fun e => hb (.inl (by rw [e]; exact hO l hlO)), fun b _ hb => ?_, fun id b c e h1 h2 hc => ⟨c, ?_, rfl⟩⟩
    · rcases hb with hb | hb
      · exact .inl (hO b hb)
      · exact .inr hb
    · rw [hother b fun e => (h.mine id b h1 h2).1 (by rw [e]; exact hO l hlO)]; exact hc
  have hck : zgH w0 (w.putObj l o) := fun b c e hc => by
    obtain ⟨c', h1, h2⟩ := hkept.cells b c e hc
    exact ⟨c', by rw [hother b fun e => hnc _ _ (by rw [← e]; exact h1)]; exact h1, h2⟩
  have hmine : ∀ id b, M id ≠ none → σ id = some b → ¬ B.O b ∧ (own σ0 M0 b ∨ w0.heap.size ≤ b) := fun id b h1 h2 => by
    obtain ⟨g1, g2⟩ := h.mine id b h1 h2
    rw [hw0, hR] at g2
    refine ⟨fun hb => g1 (hO b hb), ?_⟩
    rcases g2 with (g2 | rfl) | g2
    · exact .inl g2
    · exact absurd (hO _ hlO) g1
    · exact .inr g2
  refine ⟨⟨fun x => ?_, fun id ob hi => (h.mem id ob hi).turn t rfl fun b hb => hother b fun e => (h.mine id b (by simp [hi]) hb).1 (by rw [e]; exact hO l hlO), h.inj, fun id b h1 h2 => ?_, h.free, ?_, h0.nt, fun b hb => ?_, fun b ob hp => ?_, fun id l hl => ht _ _ _ _⟩,
    ⟨hkept.os, hkept.tape, hkept.output⟩, hkept.size, fun k hk hn hnl => hkept.block k hk fun h => h.elim hn hnl, hck, ?_⟩
  · rw [zuK]
    have := (h.env (zc + x)).turn t
    have e : B'.look a' (zc + x) = B.look a x := by
      simp only [zx.look]
      rw [if_neg (by omega), hgh, Nat.add_sub_cancel_left]
      rfl
    rwa [e] at this
  · obtain ⟨g1, g2⟩ := hmine id b h1 h2
    refine ⟨g1, ?_⟩
    rcases g2 with ⟨q, q1, q2⟩ | g2
    · exact (h0.mine q b q1 q2).2
    · exact .inr (Nat.le_trans h0.kept.size g2)
  · have k := h0.kept
    refine ⟨hkept.os.trans k.os, hkept.tape.trans k.tape, hkept.output.trans k.output, by simp; exact Nat.le_trans k.size hkept.size, fun b hb hr => ?_, fun b c e hcb => ?_⟩
    · rw [hother b (by omega), hkept.block b (Nat.lt_of_lt_of_le hb k.size) fun hx => by
        rcases hx with ⟨q, q1, q2⟩ | rfl
        · rcases (h0.mine q b q1 q2).2 with h1 | h1
          · exact hr h1
          · exact absurd hb (Nat.not_lt.2 h1)
        · omega]
      exact k.block b hb hr
    · obtain ⟨c', h1, h2⟩ := k.cells b c e hcb
      obtain ⟨c2, h3, h4⟩ := hck b c' e h1
      exact ⟨c2, h3, by omega⟩
  · simp only [World.putObj_size]
    exact Nat.lt_of_lt_of_le (h0.olt b hb) hkept.size
  · have h1 := h0.pins b ob hp
    have hbl : b ≠ l := fun e => hlp ob (by rw [← e]; exact hp)
    rw [hother b hbl, hkept.block b (zz h1) fun hx => by
      rcases hx with ⟨q, q1, q2⟩ | hx
      · exact (h0.mine q b q1 q2).1 (B.pinO b ob hp)
      · exact hbl hx]
    exact h1
  · rintro b ⟨id, h1, h2⟩
    exact (hmine id b h1 h2).2
theorem zxJ (ht : zbc B) (h : Sim B ρ M F σ a w) {u : Upd} (hu : ∀ p ∈ u, p.2 = none) {Z : Nat → Prop} (hZ : ∀ b, Z b → own σ M b ∧ ¬ own σ (zq u M) b) : Sim (B.withO Z) ρ (zq u M) F σ a w := by
  have hM : ∀ id, zq u M id = none ∨ zq u M id = M id := by
    intro id
    by_cases hm : id ∈ u.map Prod.fst
    · left
      obtain ⟨⟨i, x⟩, hp, e⟩ := List.mem_map.1 hm
      simp only at e; subst e
      exact zmC u M i hu hm
    · right; exact za4 u M id hm
  have hne : ∀ {id}, zq u M id ≠ none → zq u M id = M id := fun {id} h1 => (hM id).resolve_left h1
  have hblk : ∀ {id b : Nat}, M id ≠ none → σ id = some b → b < w.heap.size := fun h1 h2 => by obtain ⟨o, ho⟩ := zaV h h1 h2; exact zz ho
  have t : zdn σ σ M (zq u M) F F (B.X σ M) ((B.withO Z).X σ (zq u M)) w w := by
    refine ⟨fun id ob hi => ?_, fun id h1 h2 => ⟨?_, h2⟩, Nat.le_refl _, fun _ _ _ => rfl, fun b _ hb => ?_, fun id b c e _ _ hc => ⟨c, hc, rfl⟩⟩
    · rcases hM id with e | e
      · exact .inl ⟨e, fun hf => by have := h.free id hf; rw [hi] at this; cases this⟩
      · exact .inr ⟨rfl, ob, by rw [e]; exact hi, zaB h hi⟩
    · rcases hM id with e | e
      · exact e
      · rw [e]; exact h1
    · rcases hb with (hb | hb) | ⟨id, h1, h2⟩
      · exact .inl hb
      · exact .inr (hZ b hb).1
      · exact .inr ⟨id, by rw [← hne h1]; exact h1, h2⟩
  refine ⟨fun x => (h.env x).turn t, fun id ob hi => ?_, fun i j b h1 h2 => h.inj i j b (by rw [← hne h1]; exact h1) (by rw [← hne h2]; exact h2), fun id b h1 h2 => ?_, fun id hf => ?_, h.kept, h.nt, fun b hb => ?_, h.pins, fun id l hl => ht _ _ _ _⟩
  · have := hne (show zq u M id ≠ none by rw [hi]; simp)
    rw [hi] at this
    exact (h.mem id ob this.symm).turn t rfl fun _ _ => rfl
  · obtain ⟨g1, g2⟩ := h.mine id b (by rw [← hne h1]; exact h1) h2
    refine ⟨fun hb => ?_, g2⟩
    rcases hb with hb | hb
    · exact g1 hb
    · exact (hZ b hb).2 ⟨id, h1, h2⟩
  · rcases hM id with e | e
    · exact e
    · rw [e]; exact h.free id hf
  · rcases hb with hb | hb
    · exact h.olt b hb
    · obtain ⟨id, h1, h2⟩ := (hZ b hb).1
      exact hblk h1 h2
end
end Go.Ab
namespace Go.Ab
open Go
def zsp (B:zx) (Q:zac):Ex→Act→World→Prop:=fun e a w => ∃ B' env mem n σ,Ext B B'∧Q e env mem n∧Sim B' env.get mem.get (fun i=>n≤i) σ a w
def zcq:Ex→Option Code
 | .normal=>none
 | .exit id=>some (.exit id)
 | .ret=>some .ret
def Loop.ended (r:Loop) (j:Option Code):Loop := { r with state:=if j.isNone then .ready else .done,pending:=j }
section
variable {P:Program} {T:Nat→Obj→Prop}
def zoN (P:Program) (T:Nat→Obj→Prop) (fn:FuncId) (nt:Nat) (c:Code) (W:zac→Env→Mem→Nat→Prop):Prop :=
 ∀ (l:Nat) (B:zx) (Q:zac) (env:Env) (mem:Mem) (n:Nat) (σ:Nat→Option Nat) (a:Act) (w:World),Has T B→zbc B→B.nt=nt→W Q env mem n→Sim B env.get mem.get (fun i=>n≤i) σ a w →
  Wp P ⟨fn,.normal,some l⟩ c (zsp B Q) a w
theorem zxC {fn:FuncId} {nt:Nat} {x y:Code} {Wx Wy:zac→Env→Mem→Nat→Prop} (hx:zoN P T fn nt x Wx) (hy:zoN P T fn nt y Wy) {B1:zx} (hT:Has T B1) (htr:zbc B1) (hnt:B1.nt=nt) {Q:zac} {env:Env} {mem:Mem} {n:Nat} {σ:Nat→Option Nat} {a:Act} {w:World}
  (h:Wx (fun e env mem n=>match e with | .normal=>Wy Q env mem n|e=>Q e env mem n) env mem n) (hs:Sim B1 env.get mem.get (fun i=>n≤i) σ a w) {l:Nat} (hl:B1.O l) (hR:B1.R l) (hTl : ∀ o,¬ T l o) {r:Loop} (hpin:B1.pin l (.loop r)) (hready:r.state = .ready) (cs:List Frame) :
  ∃ (e:Ex) (B':zx) (env':Env) (mem':Mem) (n':Nat) (σ':Nat→Option Nat) (a':Act) (w':World) (st:LoopState),Q e env' mem' n'∧Sim B' env'.get mem'.get (fun i=>n'≤i) σ' a' w'∧(B'.w0=B1.w0∧B'.R=B1.R∧B'.ghost=B1.ghost ∧ ∀ b,B1.O b→B'.O b) ∧
   w'.heap[l]? = some (.loop { r with state:=st }) ∧ ∀ c rest,cs=c::rest →
    Steps P (lone ((⟨fn,.normal,some l⟩:FB).at a [.code x,.beginRound,.code y]) cs w) (lone (c.finish (.bool (zcq e).isNone)) rest (w'.putObj l (.loop (Loop.ended { r with state:=st } (zcq e))))):=by
 obtain ⟨e,a1,w1,⟨B',env1,mem1,n1,σ1,hext,hq,hs1⟩,harr⟩:=hx l B1 _ env mem n σ a w hT htr hnt h hs [.beginRound,.code y] cs
 have hl1:=hs1.pins l _ (hext.pin l _ hpin)
 have leave : ∀ (e:Ex) (a1:Act) (w1:World) (st:LoopState),w1.heap[l]? = some (.loop { r with state:=st })→Arr P (lone ((⟨fn,.normal,some l⟩:FB).at a [.code x,.beginRound,.code y]) cs w) ⟨fn,.normal,some l⟩ [] cs e a1 w1 → ∀ c rest,cs=c::rest →
   Steps P (lone ((⟨fn,.normal,some l⟩:FB).at a [.code x,.beginRound,.code y]) cs w) (lone (c.finish (.bool (zcq e).isNone)) rest (w1.putObj l (.loop (Loop.ended { r with state:=st } (zcq e))))):=by
  rintro e a1 w1 st hlw harr c rest rfl
  cases e with
  | normal=>exact Steps.trans harr (.one (go_round_end rfl rfl (run_endRound none hlw)))
  | ret=>obtain ⟨k2,h2⟩:=harr;exact Steps.trans h2 (.one (go_round_ret rfl rfl (run_endRound (some .ret) hlw)))
  | exit id=>obtain ⟨k2,h1,h2⟩:=harr;exact Steps.trans h2 (.one (go_round_exit rfl rfl h1 (run_endRound (some (.exit id)) hlw)))
 have htr' : ∀ {B1 B2:zx},B2.inv=B1.inv→zbc B1→zbc B2:=fun e h O Z l w=>by rw [e];exact h O Z l w
 cases e with
 | normal =>
  simp only [Arr] at harr
  have hO1:=hext.O l hl
  have hstep:=go_beginRound (P:=P) (b:=⟨fn,.normal,some l⟩) (a:=a1) (k:=[.code y]) (cs:=cs) (w:=w1) rfl (run_beginRound hl1 hready)
  have hs2:=zxL (htr' hext.inv htr) hs1 hO1 (by rw [hext.R];exact hR) (o := .loop { r with state := .busy }) (fun c e hc=>by rw [hl1] at hc;cases hc)
  have hT2:Has T (zwr B' l hO1 (.loop { r with state := .busy })):=fun b o ht => .inl ⟨fun e=>hTl o (e▸ht),hext.has hT b o ht⟩
  obtain ⟨e2,a2,w2,⟨B2,env2,mem2,n2,σ2,hext2,hq2,hs3⟩,harr2⟩:=hy l _ Q env1 mem1 n1 σ1 a1 _ hT2 (fun O Z l w=>htr' hext.inv htr O Z l w) (by rw [← hnt,← hext.nt];rfl) hq hs2 [] cs
  have hl2:=hs3.pins l _ (hext2.pin l _ (.inr ⟨rfl,rfl⟩))
  refine ⟨e2,B2,env2,mem2,n2,σ2,a2,w2,.busy,hq2,hs3,⟨hext2.w0.trans hext.w0,hext2.R.trans hext.R,hext2.ghost.trans hext.ghost,fun b hb=>hext2.O b (hext.O b hb)⟩,hl2,leave e2 a2 w2 .busy hl2 ?_⟩
  exact .of_steps (Steps.trans harr (.one hstep)) harr2
 | exit id =>
  refine ⟨.exit id,B',env1,mem1,n1,σ1,a1,w1,r.state,hq,hs1,⟨hext.w0,hext.R,hext.ghost,hext.O⟩,hl1,leave _ a1 w1 r.state hl1 ?_⟩
  simpa [Arr,exitTo] using harr
 | ret=>exact ⟨.ret,B',env1,mem1,n1,σ1,a1,w1,r.state,hq,hs1,⟨hext.w0,hext.R,hext.ghost,hext.O⟩,hl1,leave _ a1 w1 r.state hl1 harr⟩
def zcy (B:zx) (D l:Nat):zx :=
 {B with O:=fun b=>B.O b∨b=D∨b=l,pin:=fun b o=>B.pin b o∨(b=D∧o = .deferred (some [])),pinO:=fun b o h=>h.elim (fun h => .inl (B.pinO b o h)) (fun h => .inr (.inl h.1)),dfr:=zcm D::B.dfr }
def zAT (Q:zac) (xs:List (List D)) {α:Type} (E:Env) (M:α→Mem) (N:Nat) (J:Nat→α→Prop) (l:Nat) (r:Loop) (w:World) (ρ1:Nat→V) (M1:Nat→Option Ob) (F1:Nat→Prop):Option (List (List D))→Prop
 | some rest => ∃ i x,xs.drop i=rest∧i≤xs.length∧J i x∧ρ1=E.get∧M1=(M x).get∧F1=(fun i=>N≤i)∧w.heap[l]? = some (.loop r)
 | none => ∃ e env mem n,e ≠ .normal∧Q e env mem n∧ρ1=env.get∧M1=mem.get∧F1=(fun i=>n≤i) ∧ ∃ st,st ≠ .busy∧w.heap[l]? = some (.loop { r with state:=st,pending:=zcq e })
set_option maxHeartbeats 2000000 in
theorem zxA {I:zcF} (hI : ∀ B,Has T B→zbc B→zlu P B I) {b:FB} (hb:b.rnd=none) {B:zx} (hT:Has T B) (htr:zbc B) {f':Operand} {ps:Array Tmp} {x y:Code} {f:Arg} (hf:zN P f'=some f) (hps : ∀ p∈ps.toList,p < B.nt)
  {Wx Wy:zac→Env→Mem→Nat→Prop} (hx:zoN P T b.fn B.nt x Wx) (hy:zoN P T b.fn B.nt y Wy) {Q:zac} {env:Env} {mem:Mem} {n:Nat} {σ:Nat→Option Nat} {a:Act} {w:World} {g:Nat} {gs:List V} (hfg:f.ev env.get = .fn g gs)
  (h:zwe I (fun Q env mem n=>Wx (fun e env mem n=>match e with | .normal=>Wy Q env mem n|e=>Q e env mem n) env mem n) ps.toList Q env mem n g gs) (hs:Sim B env.get mem.get (fun i=>n≤i) σ a w):Wp P b (.rangeFunc f' ps x y) (zsp B Q) a w:=by
 obtain ⟨xs,u,fin,hiter,α,E,M,N,J,α0,r,nl,hJ0,hle,hround,hend⟩:=h
 have hfs:=zO hs hf
 rw [hfg] at hfs
 generalize hfe:a.eval f'=fe at hfs
 cases hfs with
 | fn _ _ caps hcl hcs =>
 obtain ⟨hcallable,hu,O0,Z0,hZ0,hO0,hO0lt,hcall⟩:=hI B hT htr env.get mem.get (fun i=>n≤i) σ a w n g gs xs u fin caps hs hiter hcl.symm hcs
 have hs1:=zxJ htr hs hu hZ0
 rw [← zf0] at hs1
 have hs2:=zjU hle hs1
 have hown2 : ∀ b,own (reσ r σ) (M α0).get b→own σ (zq u mem.get) b:=by
  rintro q ⟨id,h1,h2⟩
  obtain ⟨ob,hob⟩:=Option.ne_none_iff_exists'.1 h1
  have hg:=(zaw hle.m hob).2
  unfold reσ at h2
  cases hj:zbG r id with
  | none=>rw [hj] at h2;cases h2
  | some j =>
   rw [hj] at h2
   simp only [hj] at hg
   obtain ⟨ob',h3,-⟩:=hg
   rw [zf0] at h3
   exact ⟨j,by rw [h3];simp,h2⟩
 obtain ⟨rec0,hrec⟩ : ∃ r0:Loop,r0 = { state := .ready,pending:=none,fn:=b.fn,tmps:=a.tmps,params:=ps,assign:=x,body:=y,defers:=w.heap.size } := ⟨_,rfl⟩
 obtain ⟨D,hD⟩ : ∃ D,D=w.heap.size:=⟨_,rfl⟩
 obtain ⟨l,hl⟩ : ∃ l,l=w.heap.size+1:=⟨_,rfl⟩
 obtain ⟨w1,hw1⟩ : ∃ w1,w1=(w.alloc (.deferred (some []))).alloc (.loop rec0):=⟨_,rfl⟩
 have hw1sz:w1.heap.size=w.heap.size+2:=by rw [hw1];simp
 have hw1old : ∀ q,q < w.heap.size→w1.heap[q]? = w.heap[q]? := fun q hq=>by
  rw [hw1]
  show ((w.heap.push _).push _)[q]? = _
  rw [Array.getElem?_push,if_neg (by simp;omega),Array.getElem?_push,if_neg (by omega)]
 have hw1l:w1.heap[l]? = some (.loop rec0):=by
  rw [hw1,hl]
  have:=World.alloc_heap_new (w.alloc (.deferred (some []))) (.loop rec0)
  simpa using this
 have hw1D:w1.heap[D]? = some (.deferred (some [])):=by
  rw [hw1,hD]
  show ((w.heap.push _).push _)[w.heap.size]? = _
  rw [Array.getElem?_push,if_neg (by simp),Array.getElem?_push,if_pos rfl]
 have hw1s:zbh w w1:=by rw [hw1];exact ⟨rfl,rfl,rfl⟩
 obtain ⟨a2,ha2⟩ : ∃ a2:Act,a2 = { a with defers:=zcm D::a.defers } := ⟨_,rfl⟩
 have ha2t:a2.tmps=a.tmps:=by rw [ha2]
 have hlook : ∀ (Z:Nat→Prop) t,((zcy B D l).withO Z).look a2 t=B.look a t:=fun Z t=>by simp only [zx.look,ha2t];rfl
 have htr2:zbc (zcy B D l):=fun O Z l w=>htr O Z l w
 have hT2:Has T (zcy B D l):=fun q o ht => .inl (hT q o ht)
 have hBO : ∀ {q},B.O q→q < w.heap.size:=fun hq=>hs.olt _ hq
 have hs3:Sim ((zcy B D l).withO Z0) E.get (M α0).get (fun i=>N≤i) (reσ r σ) a2 w1:=by
  have t:zdn (reσ r σ) (reσ r σ) (M α0).get (M α0).get (fun i=>N≤i) (fun i=>N≤i) ((B.withO Z0).X (reσ r σ) (M α0).get) (((zcy B D l).withO Z0).X (reσ r σ) (M α0).get) w w1:=by
   refine ⟨fun id ob hi => .inr ⟨rfl,ob,hi,zaB hs2 hi⟩,fun id h1 h2=>⟨h1,h2⟩,by rw [hw1sz];omega,fun q _ hlt=>hw1old q hlt,fun q hlt hq=>?_,fun id q c e _ _ hc=>⟨c,by rw [hw1old q (zz hc)];exact hc,rfl⟩⟩
   rcases hq with ((hq|hq|hq)|hq)|hq
   ·exact .inl (.inl hq)
   ·omega
   ·omega
   ·exact .inl (.inr hq)
   ·exact .inr hq
  have hblk : ∀ {id q:Nat},(M α0).get id≠none→reσ r σ id=some q→q < w.heap.size:=fun h1 h2=>by obtain ⟨o,ho⟩:=zaV hs2 h1 h2;exact zz ho
  refine ⟨fun t'=>by rw [hlook];exact (hs2.env t').turn t,fun id ob hi=>(hs2.mem id ob hi).turn t rfl fun q hq=>hw1old q (hblk (by simp [hi]) hq),hs2.inj,fun id q h1 h2=>?_,hs2.free,?_,⟨by rw [ha2t];exact hs.nt.1,by rw [ha2];show zcm D::a.defers=zcm D::B.dfr;rw [show a.defers=B.dfr from hs.nt.2]⟩,fun q hq=>?_,fun q o hp=>?_,fun id l hl=>htr _ _ _ _⟩
  ·obtain ⟨g1,g2⟩:=hs2.mine id q h1 h2
   refine ⟨fun hq=>?_,g2⟩
   have:=hblk h1 h2
   rcases hq with (hq|hq|hq)|hq
   ·exact g1 (.inl hq)
   ·omega
   ·omega
   ·exact g1 (.inr hq)
  ·have k:=hs.kept
   refine ⟨hw1s.os.trans k.os,hw1s.tape.trans k.tape,hw1s.output.trans k.output,by rw [hw1sz];exact Nat.le_trans k.size (by omega),fun q hq hr=>?_,fun q c e hc=>?_⟩
   ·rw [hw1old q (Nat.lt_of_lt_of_le hq k.size)];exact k.block q hq hr
   ·obtain ⟨c',h1,h2⟩:=k.cells q c e hc
    exact ⟨c',by rw [hw1old q (zz h1)];exact h1,h2⟩
  ·rw [hw1sz]
   rcases hq with (hq|hq|hq)|hq
   ·have:=hBO hq;omega
   ·omega
   ·omega
   ·have:=hs2.olt q (.inr hq);omega
  ·rcases hp with hp|⟨rfl,rfl⟩
   ·have:=hs.pins q o hp
    rw [hw1old q (zz this)];exact this
   ·exact hw1D
 let Jv:Inv:=fun O Z rem w'=>(∀ q,(zcy B D l).O q→O q ∧ ¬ Z q)∧(∀ q,Z q→B.R q∨B.w0.heap.size≤q) ∧
  ∃ (σ1:Nat→Option Nat) (ρ1:Nat→V) (M1:Nat→Option Ob) (F1:Nat→Prop),Sim ((zcy B D l).withO Z) ρ1 M1 F1 σ1 a2 w'∧(∀ q,own σ1 M1 q→O q∧(O0 q∨w.heap.size≤q))∧zAT Q xs E M N J l rec0 w' ρ1 M1 F1 rem
 have hJok:zzF Jv:=by
  constructor
  ·rintro O Z Z' rem w2 w3 ⟨h1,h2,σ1,ρ1,M1,F1,h3,h4,h5⟩ hss hsz hh hc hZ'
   have hlZ : ¬ Z l:=(h1 l (.inr (.inr rfl))).2
   have hlt2:l < w2.heap.size:=h3.olt l (.inl (.inr (.inr rfl)))
   have hl23:w3.heap[l]? = w2.heap[l]? := hh l hlt2 hlZ
   refine ⟨fun q hq=>⟨(h1 q hq).1,fun hz=>?_⟩,fun q hz=>?_,σ1,ρ1,M1,F1,zxM htr2 h3 ⟨hss.1,hss.2.1,hss.2.2⟩ hsz hh hc hZ' h2 (fun q o hp hz=>(h1 q ((zcy B D l).pinO q o hp)).2 hz),h4,?_⟩
   ·rcases (hZ' q hz).1 with h6|h6
    ·exact (h1 q hq).2 h6
    ·have:=h3.olt q (.inl hq);omega
   ·rcases (hZ' q hz).1 with h6|h6
    ·exact h2 q h6
    ·exact .inr (Nat.le_trans h3.kept.size h6)
   ·cases rem with
    | some rest =>
     obtain ⟨i,x',g1,g2,g3,g4,g5,g6,g7⟩:=h5
     exact ⟨i,x',g1,g2,g3,g4,g5,g6,by rw [hl23];exact g7⟩
    | none =>
     obtain ⟨e,env',mem',n',g1,g2,g3,g4,g5,st,g6,g7⟩:=h5
     exact ⟨e,env',mem',n',g1,g2,g3,g4,g5,st,g6,by rw [hl23];exact g7⟩
  ·rintro O O' Z rem w2 ⟨h1,h2,σ1,ρ1,M1,F1,h3,h4,h5⟩ hO
   exact ⟨fun q hq=>⟨hO q (h1 q hq).1,(h1 q hq).2⟩,h2,σ1,ρ1,M1,F1,h3,fun q hq=>⟨hO q (h4 q hq).1,(h4 q hq).2⟩,h5⟩
 have hstart:Jv (fun q=>O0 q∨(w.heap.size≤q∧q < w1.heap.size)) Z0 (some xs) w1:=by
  refine ⟨fun q hq=>?_,fun q hz=>?_,reσ r σ,E.get,(M α0).get,fun i=>N≤i,hs3,fun q hq=>⟨.inl (hO0 q (.inl (hown2 q hq))),.inl (hO0 q (.inl (hown2 q hq)))⟩,0,α0,rfl,Nat.zero_le _,hJ0,rfl,rfl,rfl,hw1l⟩
  ·rcases hq with hq|hq|hq
   ·exact ⟨.inl (hO0 q (.inr hq)),fun hz=>(hO0lt q (hO0 q (.inr hq))).2 hz⟩
   ·exact ⟨.inr ⟨by omega,by omega⟩,fun hz=>by obtain ⟨id,h1,h2⟩:=(hZ0 q hz).1;obtain ⟨o,ho⟩:=zaV hs h1 h2;have:=zz ho;omega⟩
   ·exact ⟨.inr ⟨by omega,by omega⟩,fun hz=>by obtain ⟨id,h1,h2⟩:=(hZ0 q hz).1;obtain ⟨o,ho⟩:=zaV hs h1 h2;have:=zz ho;omega⟩
  ·obtain ⟨id,h1,h2⟩:=(hZ0 q hz).1
   exact (hs.mine id q h1 h2).2
 have hrounds:zhv P w1 (fun q=>O0 q∨(w.heap.size≤q∧q < w1.heap.size)) B.pin Jv l:=by
  rintro O Z x' rest w2 args ⟨h1,h2,σ1,ρ1,M1,F1,h3,h4,i,α1,g1,g2,g3,rfl,rfl,rfl,g7⟩ hZO hOlt hsz hax hdx cs
  have hxi:xs[i]? = some x'∧xs.drop (i+1)=rest∧i < xs.length:=by
   have hlt:i < xs.length:=by
    by_cases h0:i < xs.length
    ·exact h0
    ·rw [List.drop_eq_nil_of_le (by omega)] at g1;cases g1
   rw [List.drop_eq_getElem_cons hlt] at g1
   cases g1
   exact ⟨by simp [hlt],rfl,hlt⟩
  obtain ⟨hxl,hwp⟩:=hround i x' α1 hxi.1 g3
  have hlO:((zcy B D l).withO Z).O l := .inl (.inr (.inr rfl))
  have hlpin : ∀ o,¬ ((zcy B D l).withO Z).pin l o:=fun o hp=>by
   rcases hp with hp|⟨hp,-⟩
   ·have:=hBO (B.pinO l o hp);omega
   ·omega
  have hTl : ∀ o,¬ T l o:=fun o ht=>by have:=hBO (B.pinO l o (hT l o ht));omega
  have hxps:x'.length=ps.size:=by simpa using hxl
  have hin:=zzd (B:=(zcy B D l).withO Z) (fun O Z l w=>htr O Z l w) h3 hxps (by omega) hps (fun j hj=>(hdx j hj).mono (fun _ _ _=>rfl) (fun q _ hq=>by
   rcases hq with (hq|hq)|hq
   ·exact .inl (h1 q hq).1
   ·exact .inr hq
   ·exact .inl (h4 q hq).1)) hlO g7
  obtain ⟨e,B',env',mem',n',σ',a',w',st,k1,k2,⟨k3,k4,k5,k6⟩,k7,k8⟩:=zxC hx hy (B1:=ztQ ((zcy B D l).withO Z) σ1 (M α1).get a2 w2 l hlO (.loop rec0)) (fun q o ht => .inl (hT2 q o ht)) (fun O Z l w=>htr O Z l w) rfl hwp hin hlO (.inr rfl) hTl (.inr ⟨rfl,rfl⟩) (by rw [hrec]) cs
  obtain ⟨q1,q2,q3,q4,q5,q6⟩:=zxB (B:=(zcy B D l).withO Z) (fun O Z l w=>htr O Z l w) h3 (l:=l) (B':=B') k3 k4 k5 k6 k2 hlO hlpin (by have:=hs.kept.size;show B.w0.heap.size≤l;omega) (o := .loop (Loop.ended { rec0 with state:=st } (zcq e))) (fun c e hc=>by rw [k7] at hc;cases hc)
  have hlt':l < w'.heap.size:=zz k7
  have hl2:l < w2.heap.size:=zz g7
  have hother : ∀ k,k≠l→(w'.putObj l (.loop (Loop.ended { rec0 with state:=st } (zcq e)))).heap[k]? = w'.heap[k]? := fun k hk=>World.putObj_heap_other hk
  have hsame : ∀ k,k < w2.heap.size → ¬ own σ1 (M α1).get k→k≠l→(w'.putObj l (.loop (Loop.ended { rec0 with state:=st } (zcq e)))).heap[k]? = w2.heap[k]? := fun k hk hn hkl=>by rw [hother k hkl];exact q4 k hk hn hkl
  refine ⟨(zcq e).isNone,w'.putObj l (.loop (Loop.ended { rec0 with state:=st } (zcq e))),⟨rec0,g7,by rw [hrec];simp;omega,fun c rest' hcs=>?_⟩,⟨q2.os,q2.tape,q2.output⟩,by simp;exact q3,fun k hk hn=>?_,fun k hk hn=>?_,fun k o hp hk=>?_,q5,?_⟩
  ·have:=k8 c rest' hcs
   rw [hcs] at this
   have efr:Frame.round l rec0.fn ((rec0.params.zip args).foldl (fun tmps (t,a)=>tmps.setIfInBounds t a) rec0.tmps) rec0.assign rec0.body .normal=(⟨b.fn,.normal,some l⟩:FB).at { tmps:=(ps.zip args).foldl (fun tmps (t,a)=>tmps.setIfInBounds t a) a2.tmps,defers:=[] } [.code x,.beginRound,.code y]:=by
    rw [hrec,ha2t];rfl
   rw [efr];exact this
  ·exact hsame k hk (fun ho=>hn (h4 k ho).1) (fun hkl=>hn (by rw [hkl];exact (h1 l (.inr (.inr rfl))).1))
  ·refine hsame k (Nat.lt_of_lt_of_le hk hsz) (fun ho=>hn ?_) (fun hkl=>hn (.inr ⟨by omega,hk⟩))
   rcases (h4 k ho).2 with h6|h6
   ·exact .inl h6
   ·exact .inr ⟨h6,hk⟩
  ·have hkO:=B.pinO k o hp
   have hkw:=hBO hkO
   rw [hsame k (zz hk) (fun ⟨id,o1,o2⟩=>(h3.mine id k o1 o2).1 (.inl (.inl hkO))) (by omega)]
   exact hk
  ·have hrecl:(w'.putObj l (.loop (Loop.ended { rec0 with state:=st } (zcq e)))).heap[l]? = some (.loop (Loop.ended { rec0 with state:=st } (zcq e))):=World.putObj_heap_same hlt'
   have hsz':(w'.putObj l (.loop (Loop.ended { rec0 with state:=st } (zcq e)))).heap.size=w'.heap.size:=by simp
   have hownlt : ∀ q,own σ' mem'.get q→q < w'.heap.size:=fun q ⟨id,o1,o2⟩=>by obtain ⟨o,ho⟩:=zaV k2 o1 o2;exact zz ho
   have hownNew : ∀ q,own σ' mem'.get q→(O q∨(w2.heap.size≤q∧q < (w'.putObj l (.loop (Loop.ended { rec0 with state:=st } (zcq e)))).heap.size))∧(O0 q∨w.heap.size≤q):=fun q hq=>by
    rcases q6 q hq with h6|h6
    ·exact ⟨.inl (h4 q h6).1,(h4 q h6).2⟩
    ·exact ⟨.inr ⟨h6,by rw [hsz'];exact hownlt q hq⟩,.inr (by omega)⟩
   cases e with
   | normal =>
    obtain ⟨α2,r2,nl2,p1,p2⟩:=k1
    have hs5:=zjU p2 q1
    refine ⟨fun q hq=>⟨.inl (h1 q hq).1,(h1 q hq).2⟩,h2,_,E.get,(M α2).get,fun i=>N≤i,hs5,fun q hq=>?_,i+1,α2,hxi.2.1,by omega,p1,rfl,rfl,rfl,?_⟩
    ·obtain ⟨id,o1,o2⟩:=hq
     obtain ⟨ob,hob⟩:=Option.ne_none_iff_exists'.1 o1
     have hg:=(zaw p2.m hob).2
     unfold reσ at o2
     cases hj:zbG r2 id with
     | none=>rw [hj] at o2;cases o2
     | some j =>
      rw [hj] at o2
      simp only [hj] at hg
      obtain ⟨ob',o3,-⟩:=hg
      exact hownNew q ⟨j,by rw [o3];simp,o2⟩
    ·rw [hrecl,hrec];rfl
   | exit id =>
    refine ⟨fun q hq=>⟨.inl (h1 q hq).1,(h1 q hq).2⟩,h2,σ',(zbH env').get,mem'.get,fun i=>n'≤i,q1,hownNew,.exit id,zbH env',mem',n',by simp,k1,rfl,rfl,rfl,.done,by simp,?_⟩
    rw [hrecl];rfl
   | ret =>
    refine ⟨fun q hq=>⟨.inl (h1 q hq).1,(h1 q hq).2⟩,h2,σ',(zbH env').get,mem'.get,fun i=>n'≤i,q1,hownNew,.ret,zbH env',mem',n',by simp,k1,rfl,rfl,rfl,.done,by simp,?_⟩
    rw [hrecl];rfl
 intro k cs
 have hfin0:fin=false → ∀ O Z w,¬ Jv O Z (some []) w:=by
  rintro hf O Z w' ⟨-,-,σ1,ρ1,M1,F1,-,-,i,α1,g1,g2,g3,-⟩
  have hi:i=xs.length:=by
   have:=congrArg List.length g1
   simp at this;omega
  subst hi
  have:=hend α1 g3
  rw [hf] at this;exact this
 have hcall:=hcall w1 l Jv hJok hw1s (by rw [hw1sz];omega) hw1old hstart hrounds hfin0 (b.at a2 (.inRangeFunc l::k)::cs)
 obtain ⟨v',w',hcalls,O',Z',l',hl',h1,h2,σ1,ρ1,M1,F1,h3,h4,h5⟩:=hcall
 have henter:step P (lone (b.at a (.code (.rangeFunc f' ps x y)::k)) cs w) = .next (lone (Frame.enter P g (#[.func (.yield l) #[] #[]]++caps) .normal) (b.at a2 (.inRangeFunc l::k)::cs) w1):=by
  rw [ha2]
  refine go_rangeFunc (l:=l) (mark:=[zcm D]) (w₁:=w1) (w₁':=w1) (w₂:=w1) (d := { target := .fn (.func g) caps,args := #[.func (.yield l) #[] #[]] }) ?_ ?_ ?_
  ·have:=run_enterLoop_outer (P:=P) (w:=w) b.fn a.tmps ps x y
   rw [hb,this,hw1,hl,hD,hrec];rfl
  ·simp [resolve,hfe,Deferred.ofValue]
   rfl
  ·exact zmu hcallable _ w1
 have hfin:Frame.finish (b.at a2 (.inRangeFunc l::k)) v'=b.at a2 (.endRangeFunc l::k):=by simp [Frame.finish,FB.at]
 have hback:=hcalls.back
 rw [hfin] at hback
 have hlO:((zcy B D l).withO Z').O l := .inl (.inr (.inr rfl))
 have hDl:D≠l:=by omega
 have hextZ:Ext B ((zcy B D l).withO Z'):=by
  refine ⟨rfl,rfl,rfl,rfl,rfl,fun q hq => .inl (.inl hq),fun q o hp => .inl hp,[D],rfl,by simp,fun D' hD'=>?_⟩
  simp at hD'
  subst hD'
  exact ⟨.inr ⟨rfl,rfl⟩,by rw [hD];exact hs.kept.size,fun hq=>by have:=hBO hq;omega⟩
 have hput : ∀ o,(∀ c e,w'.heap[l]? ≠ some (.cells c e (0,0)))→Sim ((zcy B D l).withO Z') ρ1 M1 F1 σ1 a2 (w'.putObj l o):=by
  intro o hnc
  have hother : ∀ k,k≠l→(w'.putObj l o).heap[k]? = w'.heap[k]? := fun k hk=>World.putObj_heap_other hk
  have hne : ∀ id q,M1 id≠none→σ1 id=some q→q≠l:=fun id q g1 g2 e=>(h3.mine id q g1 g2).1 (e▸hlO)
  have t:zdn σ1 σ1 M1 M1 F1 F1 (((zcy B D l).withO Z').X σ1 M1) (((zcy B D l).withO Z').X σ1 M1) w' (w'.putObj l o) :=
   ⟨fun id ob hi => .inr ⟨rfl,ob,hi,zaB h3 hi⟩,fun id g1 g2=>⟨g1,g2⟩,by simp,fun q hq _=>hother q fun e=>hq (.inl (e▸hlO)),fun q _ hq=>hq,fun id q c e g1 g2 hc=>⟨c,by rw [hother q (hne id q g1 g2)];exact hc,rfl⟩⟩
  refine ⟨fun t'=>(h3.env t').turn t,fun id ob hi=>(h3.mem id ob hi).turn t rfl fun q hq=>hother q (hne id q (by simp [hi]) hq),h3.inj,h3.mine,h3.free,?_,h3.nt,fun q hq=>by simp;exact h3.olt q hq,fun q o' hp=>?_,fun id l hl=>htr _ _ _ _⟩
  ·have kk:=h3.kept
   refine ⟨kk.os,kk.tape,kk.output,by simp;exact kk.size,fun q hq hr=>?_,fun q c e hc=>?_⟩
   ·rw [hother q (by have:=hs.kept.size;have hq':q < B.w0.heap.size:=hq;omega)];exact kk.block q hq hr
   ·obtain ⟨c',g1,g2⟩:=kk.cells q c e hc
    exact ⟨c',by rw [hother q fun e=>hnc _ _ (by rw [← e];exact g1)];exact g1,g2⟩
  ·have hq:q≠l:=fun e=>by
    rcases hp with hp|⟨hp,-⟩
    ·have:=hBO (B.pinO q o' hp);omega
    ·omega
   rw [hother q hq];exact h3.pins q o' hp
 rcases hl' with rfl|rfl
 ·obtain ⟨i,α1,g1,g2,g3,rfl,rfl,rfl,g7⟩:=h5
  have hi:i=xs.length:=by
   have:=congrArg List.length g1
   simp at this;omega
  subst hi
  have hend1:Q .normal E (M α1) N:=by
   have:=hend α1 g3
   cases fin with
   | true=>exact this
   | false=>exact this.elim
  have hrun:=run_endLoop (P:=P) g7 (by rw [hrec];simp)
  refine ⟨.normal,a2,_,⟨_,E,M α1,N,σ1,hextZ,hend1,hput (.loop { rec0 with state := .exhausted }) (fun c e hc=>by rw [g7] at hc;cases hc)⟩,?_⟩
  refine .head henter (Steps.trans hback (.one ?_))
  have:=go_endRangeFunc (P:=P) (b:=b) (a:=a2) (k:=k) (cs:=cs) hrun
  rw [hrec] at this ⊢
  exact this
 ·obtain ⟨e,env',mem',n',g1,g2,rfl,rfl,rfl,st,g6,g7⟩:=h5
  have hrun:=run_endLoop (P:=P) g7 g6
  have hgo:=go_endRangeFunc (P:=P) (b:=b) (a:=a2) (k:=k) (cs:=cs) hrun
  refine ⟨e,a2,_,⟨_,env',mem',n',σ1,hextZ,g2,hput (.loop { rec0 with state := .exhausted,pending:=zcq e }) (fun c e hc=>by rw [g7] at hc;cases hc)⟩,?_⟩
  have hsteps:=Steps.trans (Steps.head henter hback) (.one hgo)
  cases e with
  | normal=>exact absurd rfl g1
  | exit id =>
   simp only [Arr]
   cases hx:exitTo id k with
   | some k'=>exact Steps.trans hsteps (.one (go_exit hx))
   | none=>exact ⟨k,hx,hsteps⟩
  | ret=>exact ⟨k,hsteps⟩
end
end Go.Ab
namespace Go.Ab
open Go
section
variable {P : Program} {C : zh} {I : zcF}
theorem zp0 {ops : Array Oper} {l : List COp} {nt : Nat} (h : ops.toList.mapM (zbn P ops nt) = some l) :
    l.length = ops.size ∧ (∀ (j : Nat) (co : COp), l[j]? = some co → ∃ o, ops[j]? = some o ∧ zbn P ops nt o = some co) ∧
      ∀ (j s : Nat), ((ops[j]?).bind fun (o : Oper) => o.dst) = some s → s < nt := by
  obtain ⟨h1, h2⟩ := zcd h
  have hsz : ops.toList.length = ops.size := by simp
  refine ⟨by omega, fun j co hj => ?_, fun j s hs => ?_⟩
  · obtain ⟨hlt, he⟩ := List.getElem?_eq_some_iff.1 hj
    have := h2 j (by omega) hlt
    refine ⟨ops.toList[j]'(by omega), by simp, ?_⟩
    rw [this, he]
  · obtain ⟨o, ho, hd⟩ := Option.bind_eq_some_iff.1 hs
    obtain ⟨hlt, he⟩ := Array.getElem?_eq_some_iff.1 ho
    have := h2 j (by omega) (by omega)
    simp only [Array.getElem_toList, he] at this
    exact (zem this).2.2.1 s hd
theorem zvF {v : V} {u : Value} {p q : Prop} {σ : Nat → Option Nat} {M : Nat → Option Ob} {F X : Nat → Prop} {w : World} (h : zpk v p q) (hv : VSim σ M F X w v u) :
    ∃ b, u = .bool b ∧ ((b = true ∧ p) ∨ (b = false ∧ q)) := by
  cases hv with
  | bt => exact ⟨true, rfl, .inl ⟨rfl, h⟩⟩
  | bf => exact ⟨false, rfl, .inr ⟨rfl, h⟩⟩
  | d x _ hd =>
    cases hd with
    | bool b =>
      refine ⟨b, rfl, ?_⟩
      cases b
      · exact .inr ⟨rfl, h.2 rfl⟩
      · exact .inl ⟨rfl, h.1 rfl⟩
    | _ => exact h.elim
  | _ => exact h.elim
theorem zy6 {ops : Array Oper} {l : List COp} {nt : Nat} (h : ops.toList.mapM (zbn P ops nt) = some l) {π : List Nat} (ht : znQ ops π) :
    (π.map fun j => l.getD j default).length = ops.size ∧ ∀ (j : Nat) (co : COp), (π.map fun j => l.getD j default)[j]? = some co → ∃ i o, π[j]? = some i ∧ ops[i]? = some o ∧ zbn P ops nt o = some co := by
  obtain ⟨h1, h2, h3⟩ := zp0 h
  refine ⟨by simp [ht.len], fun j co hj => ?_⟩
  rw [List.getElem?_map] at hj
  obtain ⟨i, hi, e⟩ := Option.map_eq_some_iff.1 hj
  have hlt := ht.lt i (List.mem_of_getElem? hi)
  have hli : l[i]? = some co := by
    rw [← e]
    simp [List.getD, show i < l.length by omega]
  obtain ⟨o, ho, hc⟩ := h2 i co hli
  exact ⟨i, o, hi, ho, hc⟩
def zhu (nest : Bool) (B : zx) (Q : zac) : Ex → Act → World → Prop := fun e a w => ∃ B' env mem n σ, (Ext B B' ∧ (nest = true → zeg B B')) ∧ Q e env mem n ∧ Sim B' env.get mem.get (fun i => n ≤ i) σ a w
theorem zhu.post {nest : Bool} {B : zx} {Q : zac} {e : Ex} {a : Act} {w : World} (h : zhu nest B Q e a w) : zsp B Q e a w :=
  let ⟨B', env, mem, n, σ, h1, h2, h3⟩ := h; ⟨B', env, mem, n, σ, h1.1, h2, h3⟩
theorem zx4 (hm : P.follows .mixedOrders = true) {T : Nat → Obj → Prop} (hC : ∀ B, Has T B → zcJ P B C) (hA : zgG C) (hI : ∀ B, Has T B → zbc B → zlu P B I) : ∀ (code : Code) (b : FB) (cc : CC) (Y : zc3) (nest : Bool) (B : zx), Has T B →
    (nest = true → ∀ B', zeg B B' → zoR P B' Y) → (nest = false → b.rnd = none ∧ zbc B ∧ Y = noY) → zdD P B.nt code = some cc →
    ∀ (Q : zac) (env : Env) (mem : Mem) (n : Nat) (σ : Nat → Option Nat) (a : Act) (w : World), wpc C I Y nest cc Q env mem n → Sim B env.get mem.get (fun i => n ≤ i) σ a w → Wp P b code (zhu nest B Q) a w := by
  intro code
  induction code with
  | skip =>
    intro b cc Y nest B hT hY hN hcc Q env mem n σ a w h hs
    cases hcc
    exact .skip ⟨B, env, mem, n, σ, ⟨.refl B, fun _ => .refl B⟩, h, hs⟩
  | seq x y ihx ihy =>
    intro b cc Y nest B hT hY hN hcc Q env mem n σ a w h hs
    simp only [zdD, Option.pure_def, Option.bind_eq_bind, Option.bind_eq_some_iff] at hcc
    obtain ⟨cx, hx, cy, hy, e⟩ := hcc
    cases e
    have go : ∀ (Z : Env → Mem → Nat → Prop), (∀ env mem n, Z env mem n → ∀ (B' : zx) (σ : Nat → Option Nat) (a : Act) (w : World), (Ext B B' ∧ (nest = true → zeg B B')) → Sim B' env.get mem.get (fun i => n ≤ i) σ a w →
          ∃ env' mem' n' σ', wpc C I Y nest cy Q env' mem' n' ∧ Sim B' env'.get mem'.get (fun i => n' ≤ i) σ' a w) →
        wpc C I Y nest cx (fun e env mem n => match e with
          | .normal => Z env mem n
          | e => Q e env mem n) env mem n → Wp P b (x.seq y) (zhu nest B Q) a w := by
      intro Z hZ h
      refine .seq ((ihx b cx Y nest B hT hY hN hx _ env mem n σ a w h hs).mono fun e a w hq => ?_)
      obtain ⟨B', env', mem', n', σ', ⟨h0, hd0⟩, h1, h2⟩ := hq
      cases e with
      | normal =>
        obtain ⟨env', mem', n', σ', h1, h2⟩ := hZ env' mem' n' h1 B' σ' a w ⟨h0, hd0⟩ h2
        refine (ihy b cy Y nest B' (h0.has hT) (fun hn B2 h => hY hn B2 ((hd0 hn).trans h)) (fun hn => ⟨(hN hn).1, fun O Z l w => by rw [h0.inv]; exact (hN hn).2.1 O Z l w, (hN hn).2.2⟩) (by rw [h0.nt]; exact hy) Q env' mem' n' σ' a w h1 h2).mono fun e a w hq => ?_
        obtain ⟨B'', env'', mem'', n'', σ'', ⟨g0, gd0⟩, g1, g2⟩ := hq
        have : zhu nest B Q e a w := ⟨B'', env'', mem'', n'', σ'', ⟨h0.trans g0, fun hn => (hd0 hn).trans (gd0 hn)⟩, g1, g2⟩
        exact this
      | exit id => exact ⟨B', env', mem', n', σ', ⟨h0, hd0⟩, h1, h2⟩
      | ret => exact ⟨B', env', mem', n', σ', ⟨h0, hd0⟩, h1, h2⟩
    simp only [wpc] at h
    split at h
    · exact go _ (fun env mem n h B' σ a w _ hs => ⟨env, mem, n, σ, h, hs⟩) h
    · rcases h with h | ⟨α, E, M, N, J, h, hr⟩
      · exact go _ (fun env mem n h B' σ a w _ hs => ⟨env, mem, n, σ, h, hs⟩) h
      · exact go _ (fun env mem n ⟨a', r, nl, h1, h2⟩ B' σ a w _ hs => ⟨E a', M a', N, _, hr a' h1, zjU h2 hs⟩) h
  | region id ops draw =>
    intro b cc Y nest B hT hY hN hcc Q env mem n σ a w h hs
    simp only [zdD, Option.pure_def, Option.bind_eq_bind, Option.bind_eq_some_iff] at hcc
    obtain ⟨l, hl, hcc⟩ := hcc
    obtain ⟨h1, h2, h3⟩ := zp0 hl
    cases draw with
    | false =>
      simp at hcc
      subst hcc
      simp only [wpc] at h
      refine .region fun kk cs => ?_
      obtain ⟨B', env', mem', n', σ', a', w', k0, k2, k3, k4⟩ := zrU hC b kk cs l 0 B hT (by
        cases nest with
        | true => exact hY rfl
        | false => rw [(hN rfl).2.2]; exact fun B' _ => zmE P B') h3 (fun j co hj => by simpa using h2 j co hj) [] env mem n σ a w h (fun s b h => by cases h) hs
      rw [h1, ← List.range_eq_range'] at k3
      exact ⟨a', w', k3, B', env', mem', n', σ', ⟨k0.ext, fun _ => k0⟩, k2, k4⟩
    | true =>
      simp only [if_true] at hcc
      split at hcc
      · rename_i htop
        simp only [Option.some.injEq] at hcc
        subst hcc
        have ht : znQ ops (zqb ops ops.size []) := by
          have := znN _ [] htop List.nodup_nil (fun i hi => by cases hi) (fun k i o hk => by simp at hk)
          simpa using this
        generalize zqb ops ops.size [] = π at ht h
        obtain ⟨g1, g2⟩ := zy6 hl ht
        simp only [wpc] at h
        refine .region_draw hm fun kk cs t => ?_
        have hs' : Sim B env.get mem.get (fun i => n ≤ i) σ a { w with drawn := w.drawn + 1 } := hs.same ⟨rfl, rfl, rfl⟩ rfl
        obtain ⟨rs, env', mem', n', σ', a', w', k1, ⟨k2, k5⟩, k3, k4⟩ := zrS (hC B hT) b kk cs h3 _ π (by rw [g1, ht.len]) g2 [] env mem n [] σ a _ h (fun s b h => by cases h) hs'
        simp only [List.nil_append] at k2
        have hnone : ∀ (j : Nat), (Array.replicate ops.size false).getD j false = false := fun j => by simp [Array.getD_eq_getD_getElem?, Array.getElem?_replicate]; split <;> rfl
        have hst : St.of (fun j => (Array.replicate ops.size false).getD (π.getD j 0) false) 0 rs ⟨env.get, mem.get, fun i => n ≤ i⟩ = ⟨env.get, mem.get, fun i => n ≤ i⟩ := St.of_none _ _ _ fun i _ => hnone _
        obtain ⟨a2, w2, σ2, q1, q2⟩ := zyg (hC B hT) hA b kk cs h3 ht g1 g2 k1 k2 (fun i => n ≤ i) (fun i hi => hi) ops.size t (Array.replicate ops.size false) σ a { w with drawn := w.drawn + 1 } (by simp)
          (Nat.le_trans (List.length_filter_le _ _) (by simp)) (fun j o hj => by rw [hnone] at hj; cases hj) (by rw [hst]; exact hs')
        refine ⟨a2, w2, q1, B, env', mem', n', σ2, ⟨.refl B, fun _ => .refl B⟩, k5, ?_⟩
        have hF : (St.of (fun _ => true) 0 rs ⟨env.get, mem.get, fun i => n ≤ i⟩).F = fun i => n' ≤ i := by
          funext x
          apply propext
          rw [St.of_F]
          constructor
          · rintro ⟨h5, h6⟩
            exact k1.cover x h5 fun i r hi => h6 i r hi rfl
          · intro h5
            obtain ⟨h7, h8, -⟩ := k1.ns
            exact ⟨Nat.le_trans h7 h5, fun i r hi _ hx => by have := (h8 i r hi).2; omega⟩
        rwa [hF] at q2
      · cases hcc
  | cond x c d ihc ihd =>
    intro b cc Y nest B hT hY hN hcc Q env mem n σ a w h hs
    simp only [zdD, Option.pure_def, Option.bind_eq_bind, Option.bind_eq_some_iff] at hcc
    obtain ⟨x', hx, cx, hcx, cy, hcy, e⟩ := hcc
    cases e
    obtain ⟨t, ht, h | h⟩ := zvF h (zO hs hx)
    · obtain ⟨rfl, h⟩ := h
      exact .cond ht (ihc b cx Y nest B hT hY hN hcx Q env mem n σ a w h hs)
    · obtain ⟨rfl, h⟩ := h
      exact .cond ht (ihd b cy Y nest B hT hY hN hcy Q env mem n σ a w h hs)
  | block id c ih =>
    intro b cc Y nest B hT hY hN hcc Q env mem n σ a w h hs
    simp only [zdD, Option.map_eq_some_iff] at hcc
    obtain ⟨cx, hcx, rfl⟩ := hcc
    refine .block ((ih b cx Y nest B hT hY hN hcx _ env mem n σ a w h hs).mono fun e a w hq => ?_)
    obtain ⟨B', env', mem', n', σ', h0, h1, h2⟩ := hq
    cases e with
    | normal => exact ⟨B', env', mem', n', σ', h0, h1, h2⟩
    | exit j =>
      simp only at h1 ⊢
      by_cases hj : j = id
      · subst hj; simp at h1; rw [if_pos rfl]; exact ⟨B', env', mem', n', σ', h0, h1, h2⟩
      · have : Nat.beq j id = false := by
          cases hb : Nat.beq j id
          · rfl
          · exact absurd (Nat.eq_of_beq_eq_true hb) hj
        rw [this] at h1; rw [if_neg hj]; exact ⟨B', env', mem', n', σ', h0, h1, h2⟩
    | ret => exact ⟨B', env', mem', n', σ', h0, h1, h2⟩
  | loop c ih =>
    intro b cc Y nest B hT hY hN hcc Q env mem n σ a w h hs
    simp only [zdD, Option.map_eq_some_iff] at hcc
    obtain ⟨cx, hcx, rfl⟩ := hcc
    simp only [wpc] at h
    obtain ⟨α, E, M, N, J, μ, x, r, nl, hI', hle, hr⟩ := h
    refine .loop (fun m a w => ∃ B' x σ, (Ext B B' ∧ (nest = true → zeg B B')) ∧ J x ∧ μ x = m ∧ Sim B' (E x).get (M x).get (fun i => N ≤ i) σ a w) (μ x) ⟨B, x, _, ⟨.refl B, fun _ => .refl B⟩, hI', rfl, zjU hle hs⟩ ?_
    rintro m a w ⟨B', x, σ, ⟨h0, hd0⟩, hI', rfl, hs⟩
    refine (ih b cx Y nest B' (h0.has hT) (fun hn B2 h => hY hn B2 ((hd0 hn).trans h)) (fun hn => ⟨(hN hn).1, fun O Z l w => by rw [h0.inv]; exact (hN hn).2.1 O Z l w, (hN hn).2.2⟩) (by rw [h0.nt]; exact hcx) _ (E x) (M x) N σ a w (hr x hI') hs).mono fun e a w hq => ?_
    obtain ⟨B'', env', mem', n', σ', ⟨g0, gd0⟩, h1, h2⟩ := hq
    cases e with
    | normal =>
      obtain ⟨x', r', nl', g1, g2, g3⟩ := h1
      exact ⟨μ x', g2, B'', x', _, ⟨h0.trans g0, fun hn => (hd0 hn).trans (gd0 hn)⟩, g1, rfl, zjU g3 h2⟩
    | exit j => exact ⟨B'', env', mem', n', σ', ⟨h0.trans g0, fun hn => (hd0 hn).trans (gd0 hn)⟩, h1, h2⟩
    | ret => exact ⟨B'', env', mem', n', σ', ⟨h0.trans g0, fun hn => (hd0 hn).trans (gd0 hn)⟩, h1, h2⟩
  | exit id =>
    intro b cc Y nest B hT hY hN hcc Q env mem n σ a w h hs
    cases hcc
    exact .exit ⟨B, env, mem, n, σ, ⟨.refl B, fun _ => .refl B⟩, h, hs⟩
  | ret =>
    intro b cc Y nest B hT hY hN hcc Q env mem n σ a w h hs
    cases hcc
    exact .ret ⟨B, env, mem, n, σ, ⟨.refl B, fun _ => .refl B⟩, h, hs⟩
  | label l =>
    intro b cc Y nest B hT hY hN hcc Q env mem n σ a w h hs
    cases hcc
    exact .label ⟨B, env, mem, n, σ, ⟨.refl B, fun _ => .refl B⟩, h, hs⟩
  | scope c ih =>
    intro b cc Y nest B hT hY hN hcc Q env mem n σ a w h hs
    exact .scope (ih b cc Y nest B hT hY hN hcc Q env mem n σ a w h hs)
  | rangeFunc f ps x y ihx ihy =>
    intro b cc Y nest B hT hY hN hcc Q env mem n σ a w h hs
    simp only [zdD, Option.pure_def, Option.bind_eq_bind, Option.bind_eq_some_iff] at hcc
    obtain ⟨f', hf, cx, hcx, cy, hcy, hcc⟩ := hcc
    split at hcc
    · rename_i hps
      cases hcc
      cases nest with
      | true => exact h.elim
      | false =>
        obtain ⟨hb, htr, -⟩ := hN rfl
        simp only [wpc] at h
        split at h
        · rename_i g cs hfg
          refine (zxA hI hb hT htr hf (fun p hp => by have := (List.all_eq_true.1 hps) p hp; rw [Nat.blt_eq] at this; exact this)
            (Wx := fun Q env mem n => wpc C I noY true cx Q env mem n) (Wy := fun Q env mem n => wpc C I noY true cy Q env mem n)
            (fun l B1 Q env mem n σ a w hT1 htr1 hnt h hs => (ihx ⟨b.fn, .normal, some l⟩ cx noY true B1 hT1 (fun _ B2 _ => zmE P B2) (fun h => by cases h) (by rw [hnt]; exact hcx) Q env mem n σ a w h hs).mono fun e a w hq => hq.post)
            (fun l B1 Q env mem n σ a w hT1 htr1 hnt h hs => (ihy ⟨b.fn, .normal, some l⟩ cy noY true B1 hT1 (fun _ B2 _ => zmE P B2) (fun h => by cases h) (by rw [hnt]; exact hcy) Q env mem n σ a w h hs).mono fun e a w hq => hq.post) hfg h hs).mono fun e a w hq => ?_
          obtain ⟨B', env', mem', n', σ', h0, h1, h2⟩ := hq
          exact ⟨B', env', mem', n', σ', ⟨h0, fun hn => by cases hn⟩, h1, h2⟩
        · exact h.elim
    · cases hcc
  | _ => intro b cc Y nest B hT hY hN hcc; cases hcc
end
end Go.Ab
namespace Go.Ab
open Go
def zE (l:List (Option Ob)):Nat→Option Ob:=fun i=>(l.getD i none)
def Fn (P:Program) (T:Nat→Obj→Prop) (f:Nat) (vs:List V) (obs:List Ob) (v:V) (obs':List (Option Ob)):Prop :=
 zc5 P f ∧ ∀ (B:zx) (σ:Nat→Option Nat) (a:Act) (w:World) (args:Array Value),Has T B→zbc B →
  Sim B (fun _ => .undef) (zE (obs.map some)) (fun i=>obs.length≤i) σ a w→args.size=vs.length →
  (∀ i,i < vs.length→VSim σ (zE (obs.map some)) (fun i=>obs.length≤i) (B.X σ (zE (obs.map some))) w (vs.getD i .undef) (args.getD i undef)) →
  ∀ cs,∃ v' w' σ',zgf P cs f args w v' w'∧Sim B (fun _ => .undef) (zE obs') (fun i=>obs'.length≤i) σ' a w'∧VSim σ' (zE obs') (fun i=>obs'.length≤i) (B.X σ' (zE obs')) w' v v' ∧
   ∀ i ob,obs[i]? = some ob→zE obs' i=none∨(σ' i=σ i ∧ ∃ ob',zE obs' i=some ob'∧zdh ob ob')
def zdM (a b:List Nat):Bool:=a.all fun i=>b.contains i
mutual
def zbX (M:Nat→Option Ob) (js fz:List Nat):Nat→V→V→Prop
 | 0,_,_=>False
 | k+1,l,x=>match l with
  | .undef=>True
  | .d y=>x.freeze M true 20=some y∧zdM (V.reach M 20 x) fz=true
  | .bt=>x = .bt
  | .bf=>x = .bf
  | .nils s=>x = .nils s
  | .own i => ∃ j,js[i]? = some j∧x = .own j
  | .ptr i o => ∃ j,js[i]? = some j∧x = .ptr j o
  | .bown i l => ∃ j,js[i]? = some j∧x = .bown j l
  | .map i => ∃ j,js[i]? = some j∧x = .map j
  | .agg cs => ∃ xs,x = .agg xs∧VPasses M js fz k cs xs
  | .tup cs => ∃ xs,x = .tup xs∧VPasses M js fz k cs xs
  | .fn f cs => ∃ xs,x = .fn f xs∧VPasses M js fz k cs xs
  | _=>False
def VPasses (M:Nat→Option Ob) (js fz:List Nat):Nat→List V→List V→Prop
 | 0,_,_=>False
 | _+1,[],xs=>xs=[]
 | k+1,v::vs,xs=>match xs with
  | x::xs=>zbX M js fz k v x∧VPasses M js fz k vs xs
  | []=>False
end
def zbA (M:Nat→Option Ob) (js fz:List Nat) (ob:Ob):Option Ob→Prop
 | some (.row s xs)=>ob = .row s xs
 | some (.box xs) => ∃ cs,ob = .box cs∧VPasses M js fz 20 cs xs
 | some (.map es)=>ob = .map es
 | _=>False
def zaN (M:Nat→Option Ob) (js fz:List Nat):List Ob→List Nat→Prop
 | [],l=>l=[]
 | ob::obs,l=>match l with
  | j::l=>zbA M js fz ob (M j)∧zaN M js fz obs l
  | []=>False
def zaK (js:List Nat) (n:Nat) (i:Nat):Nat:=match js[i]? with
 | some j=>j
 | none=>n+(i - js.length)
mutual
def zje (js:List Nat) (n:Nat):Nat→V→V
 | 0,_ => .undef
 | k+1,v=>match v with
  | .d x => .d x
  | .bt => .bt
  | .bf => .bf
  | .undef => .undef
  | .nils s => .nils s
  | .own i => .own (zaK js n i)
  | .ptr i o => .ptr (zaK js n i) o
  | .eptr i a o => .eptr (zaK js n i) a o
  | .dptr s x o => .dptr s x o
  | .bown i l => .bown (zaK js n i) l
  | .map i => .map (zaK js n i)
  | .agg cs => .agg (renVs js n k cs)
  | .tup cs => .tup (renVs js n k cs)
  | .fn f cs => .fn f (renVs js n k cs)
  | .yld l => .yld l
  | _ => .undef
def renVs (js:List Nat) (n:Nat):Nat→List V→List V
 | 0,cs=>cs.map fun _ => .undef
 | _+1,[]=>[]
 | k+1,v::r=>zje js n k v::renVs js n k r
end
def zeI (js:List Nat) (n:Nat):Option Ob→Option Ob
 | some (.row s xs)=>some (.row s xs)
 | some (.box cs)=>some (.box (renVs js n 20 cs))
 | some (.map es)=>some (.map es)
 | _=>none
mutual
def D.flat:Nat→D→Bool
 | 0,_=>false
 | k+1,x=>match x with
  | .bool _ | .int _ _ | .u64 _ | .str _ | .nil=>true
  | .agg cs | .tup cs | .fn _ cs=>flats k cs
  | .arr _ []=>true
  | _=>false
def flats:Nat→List D→Bool
 | 0,_=>false
 | _+1,[]=>true
 | k+1,x::r=>D.flat k x&&flats k r
end
mutual
def V.flat:Nat→V→Bool
 | 0,_=>false
 | k+1,x=>match x with
  | .d x=>x.flat k
  | .dptr _ _ _=>false
  | .agg cs | .tup cs | .fn _ cs=>vflats k cs
  | _=>true
def vflats:Nat→List V→Bool
 | 0,_=>false
 | _+1,[]=>true
 | k+1,x::r=>V.flat k x&&vflats k r
end
def Ob.Flat:Option Ob→Prop
 | some (.row _ xs) => ∀ x,x∈xs → ∀ y,y∈x.cells→y.flat 10=true
 | some (.box cs)=>vflats 20 cs=true
 | some (.map es) => ∀ p,p∈es→p.1.flat 10=true∧p.2.flat 10=true
 | _=>True
def Obs.Flat:List (Option Ob)→Prop
 | []=>True
 | ob::r=>Ob.Flat ob∧Obs.Flat r
def zoU (js:List Nat) (n:Nat) (obs':List (Option Ob)):Nat→List Nat→Upd
 | _,[]=>[]
 | i,j::r=>(j,zeI js n (obs'.getD i none))::zoU js n obs' (i+1) r
def ztA (js:List Nat) (n:Nat):Nat→List (Option Ob)→Upd
 | _,[]=>[]
 | i,ob::r=>(i,zeI js n ob)::ztA js n (i+1) r
def zgy:List Nat→Upd
 | []=>[]
 | i::r=>(i,none)::zgy r
def zfO (js fz:List Nat) (n:Nat) (obs':List (Option Ob)) (clean:Bool):Upd :=
 zoU js n obs' 0 js++(cond clean [] (zgy fz)++ztA js n n (obs'.drop js.length))
structure zzV (P:Program) (T:Nat→Obj→Prop) (M:Nat→Option Ob) (n f:Nat) (vs:List V) (v:V) (u:Upd) (k:Nat) (js fz:List Nat) (clean:Bool) (lvs:List V) (obs:List Ob) (lv:V) (obs':List (Option Ob)):Prop where
 fn:Fn P T f lvs obs lv obs'
 args:VPasses M js fz 20 lvs vs
 objs:zaN M js fz obs js
 nd:nodup js=true
 dj:zd1 fz js=true
 sj:zdM js (zL M vs)=true
 sf:zdM fz (zL M vs)=true
 le:js.length≤obs'.length
 fl:clean=true→V.flat 20 lv=true∧Obs.Flat obs'
 v:v=zje js n 20 lv
 u:u=zfO js fz n obs' clean
 k:k=obs'.length - js.length
def zdf (P:Program) (T:Nat→Obj→Prop):zh:=fun M n f vs v u k => ∃ js fz clean lvs obs lv obs',zzV P T M n f vs v u k js fz clean lvs obs lv obs'
mutual
theorem zjd {M M':Nat→Option Ob} : ∀ (k:Nat) (v:V),(∀ i∈V.reach M k v,M i=M' i)→V.reach M k v=V.reach M' k v
 | 0,_,_=>rfl
 | k+1,v,h=>by
  cases v<;>simp only [V.reach] at h ⊢
  case ptr id o =>
   have h0:=h id (by simp)
   rw [← h0]
   congr 1
   cases hm:M id with
   | none=>rfl
   | some ob =>
    rw [hm] at h
    cases ob with
    | box cs=>exact reachs_agree k cs fun i hi=>h i (by simp [hi])
    | _=>rfl
  case bown id o =>
   have h0:=h id (by simp)
   congr 1
   rw [← h0]
   cases hm:M id with
   | none=>rfl
   | some ob =>
    rw [hm] at h
    cases ob with
    | box cs=>exact reachs_agree k cs fun i hi=>h i (by simp [hi])
    | _=>rfl
  case agg cs=>exact reachs_agree k cs h
  case tup cs=>exact reachs_agree k cs h
  case fn f cs=>exact reachs_agree k cs h
theorem reachs_agree {M M':Nat→Option Ob} : ∀ (k:Nat) (l:List V),(∀ i∈reachs M k l,M i=M' i)→reachs M k l=reachs M' k l
 | 0,_,_=>rfl
 | _+1,[],_=>rfl
 | k+1,v::r,h=>by
  simp only [reachs,List.mem_append] at h
  simp only [reachs,zjd k v fun i hi=>h i (.inl hi),reachs_agree k r fun i hi=>h i (.inr hi)]
end
mutual
theorem zpm {M M':Nat→Option Ob} : ∀ (k:Nat) (v:V),(∀ i∈V.reach M k v,M i=M' i)→v.freeze M true k=v.freeze M' true k
 | 0,_,_=>rfl
 | k+1,v,h=>by
  cases v<;>simp only [V.reach] at h<;>simp only [V.freeze]
  case own id=>rw [h id (by simp)]
  case view id o l=>rw [h id (by simp)]
  case map id=>rw [h id (by simp)]
  case bown id o =>
   have h0:=h id (by simp)
   simp only [V.freeze,cond_true]
   rw [← h0]
   cases hm:M id with
   | none=>rfl
   | some ob =>
    rw [hm] at h
    cases ob with
    | box cs=>simp only;rw [deeps_agree k cs fun i hi=>h i (by simp [hi])]
    | _=>rfl
  case agg cs=>rw [deeps_agree k cs h]
  case tup cs=>rw [deeps_agree k cs h]
  case fn f cs=>rw [deeps_agree k cs h]
  case ptr id o =>
   cases o with
   | succ o=>rfl
   | zero =>
    have h0:=h id (by simp)
    simp only [V.freeze,cond_true]
    rw [← h0]
    cases hm:M id with
    | none=>rfl
    | some ob =>
     rw [hm] at h
     cases ob with
     | box cs=>simp only;rw [deeps_agree k cs fun i hi=>h i (by simp [hi])]
     | _=>rfl
theorem deeps_agree {M M':Nat→Option Ob} : ∀ (k:Nat) (l:List V),(∀ i∈reachs M k l,M i=M' i)→freezes M true k l=freezes M' true k l
 | 0,_,_=>rfl
 | _+1,[],_=>rfl
 | k+1,v::r,h=>by
  simp only [reachs,List.mem_append] at h
  simp only [freezes,zpm k v fun i hi=>h i (.inl hi),deeps_agree k r fun i hi=>h i (.inr hi)]
end
theorem zkg {M M':Nat→Option Ob} : ∀ (l:List V),(∀ i∈zL M l,M i=M' i)→zL M l=zL M' l
 | [],_=>rfl
 | v::r,h=>by
  simp only [zL,List.mem_append] at h
  simp only [zL,zjd 20 v fun i hi=>h i (.inl hi),zkg r fun i hi=>h i (.inr hi)]
theorem zfy {a b:List Nat} (h:zdM a b=true) : ∀ i∈a,i∈b:=by
 intro i hi
 have:=List.all_eq_true.1 h i hi
 simpa using this
mutual
theorem zwb {M M':Nat→Option Ob} {js fz:List Nat} (hf : ∀ i∈fz,M i=M' i) : ∀ (k:Nat) (l x:V),zbX M js fz k l x→zbX M' js fz k l x
 | 0,_,_,h=>h
 | k+1,l,x,h=>by
  cases l<;>simp only [zbX] at h ⊢
  case d y =>
   have hr : ∀ i∈V.reach M 20 x,M i=M' i:=fun i hi=>hf i (zfy h.2 i hi)
   rw [← zpm 20 x hr,← zjd 20 x hr];exact h
  case bt=>exact h
  case bf=>exact h
  case nils=>exact h
  case own=>exact h
  case ptr=>exact h
  case bown=>exact h
  case map=>exact h
  case agg cs=>obtain ⟨xs,e,h⟩:=h;exact ⟨xs,e,passes_agree hf k cs xs h⟩
  case tup cs=>obtain ⟨xs,e,h⟩:=h;exact ⟨xs,e,passes_agree hf k cs xs h⟩
  case fn f cs=>obtain ⟨xs,e,h⟩:=h;exact ⟨xs,e,passes_agree hf k cs xs h⟩
theorem passes_agree {M M':Nat→Option Ob} {js fz:List Nat} (hf : ∀ i∈fz,M i=M' i) : ∀ (k:Nat) (l x:List V),VPasses M js fz k l x→VPasses M' js fz k l x
 | 0,_,_,h=>h
 | _+1,[],_,h=>h
 | k+1,v::vs,[],h=>h
 | k+1,v::vs,x::xs,h=>by
  simp only [VPasses] at h ⊢
  exact ⟨zwb hf k v x h.1,passes_agree hf k vs xs h.2⟩
end
theorem zj2 {M M':Nat→Option Ob} {js fz:List Nat} (hf : ∀ i∈fz,M i=M' i) : ∀ (obs:List Ob) (l:List Nat),(∀ i∈l,M i=M' i)→zaN M js fz obs l→zaN M' js fz obs l
 | [],l,_,h=>h
 | ob::obs,[],_,h=>h
 | ob::obs,j::l,hj,h=>by
  simp only [zaN] at h ⊢
  refine ⟨?_,zj2 hf obs l (fun i hi=>hj i (by simp [hi])) h.2⟩
  rw [← hj j (by simp)]
  have h1:=h.1
  generalize M j=x at h1
  cases x with
  | none=>exact h1
  | some x =>
   cases x with
   | row s xs=>exact h1
   | box xs=>obtain ⟨cs,e,h2⟩:=h1;exact ⟨cs,e,passes_agree hf 20 cs xs h2⟩
   | map es=>exact h1
   | iter l c=>exact h1
   | todo l=>exact h1
theorem zua (P:Program) (T:Nat→Obj→Prop):zgG (zdf P T):=by
 rintro M M' n f vs v u k h ⟨js,fz,clean,lvs,obs,lv,obs',hc⟩
 have hr:=zkg vs h
 have hj : ∀ i∈js,M i=M' i:=fun i hi=>h i (zfy hc.sj i hi)
 have hf : ∀ i∈fz,M i=M' i:=fun i hi=>h i (zfy hc.sf i hi)
 exact ⟨js,fz,clean,lvs,obs,lv,obs',hc.fn,passes_agree hf 20 _ _ hc.args,zj2 hf _ _ hj hc.objs,hc.nd,hc.dj,hr▸hc.sj,hr▸hc.sf,hc.le,hc.fl,hc.v,hc.u,hc.k⟩
end Go.Ab
