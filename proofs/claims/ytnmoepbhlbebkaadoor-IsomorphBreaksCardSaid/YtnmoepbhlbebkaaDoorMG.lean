/- A part of the proofs of this seat: functions and their contracts. -/
import Derived.Test.YtnmoepbhlbebkaaDoorMF
import Derived.Carry
import Derived.ProofKit
import Derived.OpenShut
import Derived.SizedLaws
import Derived.Lib.LaidTab
import Derived.LaidMore
import Derived.Stop.Joined
import Derived.Shelf.Lays7
import Derived.Test.YtnmoepbhlbebkaaDoorRows
import Derived.Test.YtnmoepbhlbebkaaDoorTie
import Derived.Test.YtnmoepbhlbebkaaDoorCards
set_option linter.unusedVariables false
set_option linter.unusedSimpArgs false
set_option linter.unusedSectionVars false
namespace Go.Ab
open Go Go.Proofs Go.RowKit Go.ChangeShapes Go.WideShapes
inductive Sh where
 | bool
 | int (k:IntKind)
 | str
 | slice (es:List Sh)
 deriving Inhabited
def Sh.noByte:Sh→Bool
 | .int .u8=>false
 | _=>true
def zii (P:Program) (f:TypeId→Option (List Sh)):List Field→Nat→Option (List Sh)
 | [],_=>some []
 | x::r,o=>match f x.type with
  | some a=>cond (Nat.beq x.offset o&&Nat.beq (P.cellsOf x.type) a.length) (match zii P f r (o+a.length) with
   | some l=>some (a++l)
   | none=>none) none
  | none=>none
def zdL (P:Program):Nat→TypeId→Option (List Sh)
 | 0,_=>none
 | n+1,t=>match P.underlying t with
  | some .bool=>some [.bool]
  | some (.int k)=>some [.int k]
  | some .string=>some [.str]
  | some (.slice e)=>match zdL P n e with
   | some es=>cond (Nat.blt 0 es.length&&(Nat.beq (P.cellsOf e) es.length&&(Nat.blt 0 (P.bytesOf e)&&(es.getD 0 .bool).noByte))) (some [.slice es]) none
   | none=>none
  | some (.struct fs)=>match zii P (zdL P n) fs.toList 0 with
   | some l=>cond (Nat.beq (P.cellsOf t) l.length) (some l) none
   | none=>none
  | some (.array m e)=>match zdL P n e with
   | some es=>cond (Nat.beq (P.cellsOf e) es.length&&Nat.beq (P.cellsOf t) (m * es.length)) (some (List.replicate m es).flatten) none
   | none=>none
  | _=>none
def zdE (s:Nat) (l:List D):D:=cond (Nat.beq s 1) (l.getD 0 .nil) (.agg l)
inductive z8:Sh→D→Prop where
 | bool (b:Bool):z8 .bool (.bool b)
 | int (k:IntKind) (n:Int):k ≠ .u64→inR k n→z8 (.int k) (.int k n)
 | u64 (x:BitVec 64):z8 (.int .u64) (.u64 x)
 | str (s:List UInt8):s.length≤140737488351232→z8 .str (.str s)
 | slice (es:List Sh) (ls:List (List D)):ls.length≤140737488351232→(∀ i,i < ls.length→(ls.getD i []).length=es.length) →
   (∀ i j,i < ls.length→j < es.length→z8 (es.getD j .bool) ((ls.getD i []).getD j .nil))→z8 (.slice es) (.arr es.length (ls.map (zdE es.length)))
theorem zwE {a b:Nat} (h:Nat.blt a b=true):a < b:=Nat.le_of_ble_eq_true h
theorem z8.isCell {s:Sh} {d:D} (h:z8 s d):d.isCell=true:=by cases h<;>rfl
theorem zxb {k:IntKind} {n:Int} (h:(Lit.int k n).wf=true):inR k n:=by
 simp only [Lit.wf,Bool.and_eq_true,decide_eq_true_eq] at h
 cases k<;>simpa [inR,IntKind.min,IntKind.max,IntKind.signed,IntKind.bits] using h
section
variable {H:Type} {enc:TypeId×Value→H} {P:Program} {W:World} {O:Nat→Prop} {base:Nat} {sp:Nat→Bool} {held:Bool}
structure zbt (O:Nat→Prop) (W:World) (sh:List Sh) (cs:List Value) (l:List D):Prop where
 len:cs.length=sh.length
 len':l.length=sh.length
 sim : ∀ i,i < sh.length→zj O W (l.getD i .nil) (cs.getD i undef)
 has : ∀ i,i < sh.length→z8 (sh.getD i .bool) (l.getD i .nil)
theorem zbt.one {s:Sh} {v:Value} {d:D} (h1:zj O W d v) (h2:z8 s d):zbt O W [s] [v] [d] :=
 ⟨rfl,rfl,fun i hi=>by simp at hi;subst hi;exact h1,fun i hi=>by simp at hi;subst hi;exact h2⟩
theorem zbt.append {s1 s2:List Sh} {c1 c2:List Value} {l1 l2:List D} (h1:zbt O W s1 c1 l1) (h2:zbt O W s2 c2 l2):zbt O W (s1++s2) (c1++c2) (l1++l2):=by
 refine ⟨by simp [h1.len,h2.len],by simp [h1.len',h2.len'],fun i hi=>?_,fun i hi=>?_⟩
 ·by_cases h:i < s1.length
  ·have:=h1.sim i h
   simpa [List.getD,List.getElem?_append,h1.len,h1.len',h] using this
  ·have:=h2.sim (i - s1.length) (by simp at hi;omega)
   simpa [List.getD,List.getElem?_append,h1.len,h1.len',h] using this
 ·by_cases h:i < s1.length
  ·have:=h1.has i h
   simpa [List.getD,List.getElem?_append,h1.len',h] using this
  ·have:=h2.has (i - s1.length) (by simp at hi;omega)
   simpa [List.getD,List.getElem?_append,h1.len',h] using this
theorem zbt.nil:zbt O W [] [] []:=⟨rfl,rfl,fun i hi=>by simp at hi,fun i hi=>by simp at hi⟩
theorem zmp {f:TypeId→Option (List Sh)} {cs:List Value} : ∀ (fs:List Field) (o:Nat) {sh:List Sh},zii P f fs o=some sh→cs.length=o+sh.length →
  (∀ x∈fs,∀ a,f x.type=some a→a.length=P.cellsOf x.type → ∃ l,zbt O W a ((cs.drop x.offset).take (P.cellsOf x.type)) l) →
  ∃ l,zbt O W sh (cs.drop o) l
 | [],o,sh,h,hl,_=>by
  obtain rfl:sh=[]:=by simpa [zii] using h.symm
  refine ⟨[],?_⟩
  rw [List.drop_eq_nil_of_le (by simp at hl;omega)]
  exact .nil
 | x::r,o,sh,h,hl,hx=>by
  unfold zii at h
  split at h
  ·rename_i a ha
   cases hc:(Nat.beq x.offset o&&Nat.beq (P.cellsOf x.type) a.length) with
   | false=>rw [hc] at h;cases h
   | true =>
    rw [hc,cond_true] at h
    simp only [Bool.and_eq_true] at hc
    have e1:x.offset=o:=Nat.eq_of_beq_eq_true hc.1
    have e2:P.cellsOf x.type=a.length:=Nat.eq_of_beq_eq_true hc.2
    split at h
    ·rename_i l hl'
     obtain rfl:=Option.some.inj h
     obtain ⟨l1,h1⟩:=hx x (by simp) a ha e2.symm
     obtain ⟨l2,h2⟩:=zmp r (o+a.length) hl' (by simp at hl;omega) (fun y hy=>hx y (by simp [hy]))
     refine ⟨l1++l2,?_⟩
     have h3:=h1.append h2
     rw [e1,e2] at h3
     have:cs.drop o=(cs.drop o).take a.length++cs.drop (o+a.length):=by
      rw [← List.drop_drop,List.take_append_drop]
     rw [this];exact h3
    ·cases h
  ·cases h
theorem znK {es:List Sh} {cs:List Value} : ∀ (m o:Nat),cs.length=o+m * es.length →
  (∀ i,i < m → ∃ l,zbt O W es ((cs.drop (o+i * es.length)).take es.length) l) → ∃ l,zbt O W (List.replicate m es).flatten (cs.drop o) l
 | 0,o,hl,_=>by
  refine ⟨[],?_⟩
  rw [List.drop_eq_nil_of_le (by simp at hl;omega)]
  exact .nil
 | m+1,o,hl,h=>by
  obtain ⟨l1,h1⟩:=h 0 (by omega)
  obtain ⟨l2,h2⟩:=znK (es:=es) m (o+es.length) (by rw [hl,Nat.succ_mul];omega) (fun i hi=>by
   have:=h (i+1) (by omega)
   rw [Nat.succ_mul] at this
   rw [show o+es.length+i * es.length=o+(i * es.length+es.length) by omega]
   exact this)
  refine ⟨l1++l2,?_⟩
  have h3:=h1.append h2
  rw [Nat.zero_mul,Nat.add_zero] at h3
  have:cs.drop o=(cs.drop o).take es.length++cs.drop (o+es.length):=by
   rw [← List.drop_drop,List.take_append_drop]
  rw [this,List.replicate_succ,List.flatten_cons];exact h3
theorem zgp {e:TypeId} {x:Nat} {d:DataW H} (hx:x∈d.weights P e) : ∀ {l:List (DataW H)},d∈l→x∈DataW.weightsAll P e l
 | y::r,h=>by
  rw [DataW.weightsAll,List.mem_append]
  rcases List.mem_cons.1 h with rfl|h
  ·exact .inl hx
  ·exact .inr (zgp hx h)
theorem zuj {s:Nat} {l:List D} {es:List Sh} (hl:l.length=es.length) (hs:s=es.length) (h : ∀ j,j < es.length→z8 (es.getD j .bool) (l.getD j .nil)) :
  (zdE s l).cells=l∧(0 < s→D.fits s (zdE s l)=true):=by
 subst hs
 unfold zdE
 cases hb:Nat.beq es.length 1 with
 | true =>
  have e1:es.length=1:=Nat.eq_of_beq_eq_true hb
  obtain ⟨d,rfl⟩:=List.length_eq_one_iff.1 (hl.trans e1)
  have h0:z8 (es.getD 0 .bool) d:=h 0 (by omega)
  generalize es.getD 0 .bool=s0 at h0
  simp only [cond_true]
  constructor
  ·show D.cells d=[d]
   cases h0<;>rfl
  ·intro _
   show D.fits es.length d=true
   rw [e1]
   cases h0<;>rfl
 | false =>
  refine ⟨rfl,fun _=>?_⟩
  show (Nat.beq l.length es.length && !(Nat.beq es.length 1)&&l.all D.isCell)=true
  rw [hb,hl]
  simp only [Bool.not_false,Bool.and_true,Bool.and_eq_true,List.all_eq_true]
  refine ⟨Nat.beq_refl _,fun x hx=>?_⟩
  obtain ⟨j,hj⟩:=List.getElem?_of_mem hx
  have:=h j (by have:=(List.getElem?_eq_some_iff.1 hj).1;omega)
  rw [show l.getD j .nil=x by simp [List.getD,hj]] at this
  exact this.isCell
theorem zAz (hO : ∀ b,O b → ∀ i v,W.cell? ⟨b,i,none⟩=some v → ∃ n,v = .int .u8 n) :
  ∀ (fuel n:Nat) {t:TypeId} {cs:List Value} {d:DataW H} {ps:List MemPlace} {sh:List Sh},DataW.trod enc P W base sp held fuel t cs=some (d,ps)→zdL P n t=some sh →
   (∀ x∈d.weights P t,x≤reachBytes) → ∃ l,zbt O W sh cs l:=by
 intro fuel
 induction fuel with
 | zero=>intro n t cs d ps sh h;simp [DataW.trod] at h
 | succ fuel ih =>
  intro n t cs d ps sh h hs hw
  cases n with
  | zero=>simp [zdL] at hs
  | succ n =>
   unfold zdL at hs
   split at hs
   ·rename_i hu
    obtain rfl:=Option.some.inj hs
    obtain ⟨b,rfl,_⟩:=DataW.trod_bool hu h
    exact ⟨_,.one (.bool b) (.bool b)⟩
   ·rename_i k hu
    obtain rfl:=Option.some.inj hs
    obtain ⟨z,rfl,_,hwf⟩:=DataW.trod_int hu h
    have hR:=zxb hwf
    by_cases e:k = .u64
    ·subst e
     refine ⟨[.u64 (BitVec.ofInt 64 z)],.one ?_ (.u64 _)⟩
     have:(BitVec.ofInt 64 z).toNat=z.toNat:=by
      rw [BitVec.toNat_ofInt,Int.emod_eq_of_lt hR.1 (by have:=hR.2;omega)]
     have h2:=zj.u64 (X:=O) (w:=W) (BitVec.ofInt 64 z)
     rw [this,Int.toNat_of_nonneg hR.1] at h2
     exact h2
    ·exact ⟨_,.one (.int k z e) (.int k z e hR)⟩
   ·rename_i hu
    obtain rfl:=Option.some.inj hs
    obtain ⟨s,rfl,hx,hz⟩:=DataW.trod_string hu h
    obtain rfl:=(Prod.mk.inj hx).1
    refine ⟨_,.one (.str s.data.toList) (.str _ ?_)⟩
    have:=hw _ (by simp [DataW.weights];rfl)
    exact Nat.le_trans this (by decide)
   ·rename_i e hu
    split at hs
    ·rename_i es he
     cases hc:(Nat.blt 0 es.length&&(Nat.beq (P.cellsOf e) es.length&&(Nat.blt 0 (P.bytesOf e)&&(es.getD 0 .bool).noByte))) with
     | false=>rw [hc] at hs;cases hs
     | true =>
      rw [hc,cond_true] at hs
      obtain rfl:=Option.some.inj hs
      simp only [Bool.and_eq_true] at hc
      have h0:0 < es.length:=zwE hc.1
      have hce:P.cellsOf e=es.length:=Nat.eq_of_beq_eq_true hc.2.1
      have hb0:0 < P.bytesOf e:=zwE hc.2.2.1
      have hnb:(es.getD 0 .bool).noByte=true:=hc.2.2.2
      rcases DataW.trod_slice hu h with ⟨rfl,_⟩|⟨a,len,cap,elems,rest,m,hm,rfl,hx,_,hlc,hcap,hel,hat,_,_⟩
      ·refine ⟨[.arr es.length []],.one (.arr0 _ _ _) (.slice es [] (by simp) (by simp) (by simp))⟩
      ·obtain rfl:=Nat.succ.inj hm
       have hd:=(Prod.mk.inj hx).1
       subst hd
       have hlen:len≤140737488351232:=by
        have:=hw ((elems.length+rest.length) * P.bytesOf e) (by simp [DataW.weights,hu])
        have h1:elems.length * 1≤(elems.length+rest.length) * P.bytesOf e:=Nat.mul_le_mul (by omega) hb0
        have h2:reachBytes=140737488351232 - 0 - 0∨reachBytes≤140737488351232 := .inr (by decide)
        have h3:reachBytes≤140737488351232:=by decide
        omega
       have hone : ∀ i,i < len → ∃ l vs,W.cells? base (a.add (i * P.cellsOf e)) (P.cellsOf e)=some vs∧zbt O W es vs l:=by
        intro i hi
        have hi':=hat i hi
        cases hv:W.cells? base (a.add (i * P.cellsOf e)) (P.cellsOf e) with
        | none =>
         rw [hv] at hi'
         have:i < elems.length:=by omega
         rw [List.getElem?_eq_getElem this] at hi'
         cases hi'
        | some vs =>
         rw [hv] at hi'
         have hlt:i < elems.length:=by omega
         rw [List.getElem?_eq_getElem hlt] at hi'
         have hi'':DataW.trod enc P W base sp held fuel e vs=some (elems[i].1,elems[i].2):=hi'
         obtain ⟨l,hl⟩:=ih n hi'' he (fun x hx'=>hw x (by
          simp only [DataW.weights,hu,List.mem_cons,List.mem_append]
          exact .inr (.inl (zgp hx' (List.mem_map.2 ⟨elems[i],List.getElem_mem hlt,rfl⟩)))))
         exact ⟨l,vs,rfl,hl⟩
       by_cases hl0:len=0
       ·subst hl0
        refine ⟨[.arr es.length []],.one (.arr0 _ _ _) (.slice es [] (by simp) (by simp) (by simp))⟩
       ·
        let L:Nat→List D:=fun i=>if h:i < len then Classical.choose (hone i h) else []
        have hL : ∀ i,i < len → ∃ vs,W.cells? base (a.add (i * P.cellsOf e)) (P.cellsOf e)=some vs∧zbt O W es vs (L i):=fun i hi=>by
         have:=Classical.choose_spec (hone i hi)
         simp only [L,hi,dif_pos];exact this
        let ls:=(List.range len).map L
        have hls:ls.length=len:=by simp [ls]
        have hget : ∀ i,i < len→ls.getD i []=L i:=fun i hi=>by simp [ls,List.getD,hi]
        obtain ⟨b,off,spot⟩:=a
        have hspot:spot=none:=by
         obtain ⟨vs,h1,h2⟩:=hL 0 (by omega)
         obtain ⟨_,hvl,hv⟩:=World.cells?_some h1
         have hvj:=hv 0 (by omega)
         have hlt:0 < vs.length:=by omega
         rw [List.getElem?_eq_getElem hlt] at hvj
         have:=World.cell?_spot hvj
         simpa [Addr.add] using this
        subst hspot
        have hcell : ∀ i j,i < len→j < es.length → ∃ v,W.cell? ⟨b,off+(i * es.length+j),none⟩=some v∧zj O W ((L i).getD j .nil) v∧z8 (es.getD j .bool) ((L i).getD j .nil):=by
         intro i j hi hj
         obtain ⟨vs,h1,h2⟩:=hL i hi
         obtain ⟨_,hvl,hv⟩:=World.cells?_some h1
         have hvj:=hv j (by omega)
         have hlt:j < vs.length:=by omega
         rw [List.getElem?_eq_getElem hlt] at hvj
         refine ⟨vs[j],?_,?_,h2.has j hj⟩
         ·have:((Addr.mk b off none).add (i * P.cellsOf e)).add j=⟨b,off+(i * es.length+j),none⟩:=by
           rw [hce]
           generalize i * es.length=q
           unfold Addr.add
           by_cases e1:q=0<;>by_cases e2:j=0<;>simp [e1,e2,Nat.add_assoc]
          rw [← this];exact hvj
         ·have:=h2.sim j hj
          rwa [show vs.getD j undef=vs[j] by simp [List.getD,hlt]] at this
        obtain ⟨v0,hv0,hs0,hh0⟩:=hcell 0 0 (by omega) h0
        have hnO : ¬ O b:=fun hb=>by
         obtain ⟨z,hz⟩:=hO b hb _ _ hv0
         subst hz
         generalize hgg:(L 0).getD 0 .nil=dd at hs0 hh0
         generalize es.getD 0 .bool=ss at hnb hh0
         cases hs0
         cases hh0
         cases hnb
        have hblt:b < W.heap.size:=zuV hv0
        have hfit : ∀ i,i < len→(zdE es.length (L i)).cells=L i∧D.fits es.length (zdE es.length (L i))=true:=fun i hi=>by
         obtain ⟨vs,_,h2⟩:=hL i hi
         obtain ⟨h3,h4⟩:=zuj h2.len' rfl h2.has
         exact ⟨h3,h4 h0⟩
        refine ⟨[.arr es.length (ls.map (zdE es.length))],.one ?_ (.slice es ls (by omega) (fun i hi=>?_) (fun i j hi hj=>?_))⟩
        ·have hsl:(ls.map (zdE es.length)).length=len:=by simp [hls]
         have:=zj.arr (X:=O) (w:=W) es.length (ls.map (zdE es.length)) b off cap (fun i=>(W.cell? ⟨b,off+i,none⟩).getD undef) hnO hblt (fun x hx=>?_) (by omega) (by omega) (fun i hi=>?_) (fun i j hi hj=>?_)
         ·rw [hsl] at this;exact this
         ·obtain ⟨y,hy,rfl⟩:=List.mem_map.1 hx
          obtain ⟨i,hi,rfl⟩:=List.mem_map.1 hy
          exact (hfit i (List.mem_range.1 hi)).2
         ·rw [hsl] at hi
          have hi2:i / es.length < len:=Nat.div_lt_of_lt_mul (by rw [Nat.mul_comm];exact hi)
          obtain ⟨v,hv,_⟩:=hcell (i / es.length) (i % es.length) hi2 (Nat.mod_lt _ h0)
          have e1:i / es.length * es.length+i % es.length=i:=by rw [Nat.mul_comm];exact Nat.div_add_mod i es.length
          rw [e1] at hv
          rw [hv];rfl
         ·rw [hsl] at hi
          obtain ⟨v,hv,h5,_⟩:=hcell i j hi hj
          show zj O W (((ls.map (zdE es.length)).getD i .nil).cells.getD j .nil) ((W.cell? ⟨b,off+(i * es.length+j),none⟩).getD undef)
          rw [hv,show (ls.map (zdE es.length)).getD i .nil=zdE es.length (L i) by simp [ls,List.getD,hi],(hfit i hi).1]
          exact h5
        ·rw [hget i (by omega)]
         obtain ⟨vs,_,h2⟩:=hL i (by omega)
         exact h2.len'
        ·rw [hget i (by omega)]
         obtain ⟨v,_,_,h5⟩:=hcell i j (by omega) hj
         exact h5
    ·cases hs
   ·rename_i fs hu
    split at hs
    ·rename_i l hl
     cases hc:(Nat.beq (P.cellsOf t) l.length) with
     | false=>rw [hc] at hs;cases hs
     | true =>
      rw [hc,cond_true] at hs
      obtain rfl:=Option.some.inj hs
      have hct:P.cellsOf t=l.length:=Nat.eq_of_beq_eq_true hc
      obtain ⟨xs,m,hm,hx,hcl,hxl,hat⟩:=DataW.trod_struct hu h
      obtain rfl:=Nat.succ.inj hm
      have hd:=(Prod.mk.inj hx).1
      subst hd
      have:=zmp (O:=O) (W:=W) (cs:=cs) fs.toList 0 hl (by omega) (fun x hx a ha hal=>by
       obtain ⟨i,hi⟩:=List.getElem?_of_mem hx
       have hi':fs[i]? = some x:=by simpa using hi
       have h1:=hat i x hi'
       have hil:i < xs.length:=by
        have:=(Array.getElem?_eq_some_iff.1 hi').1;omega
       rw [List.getElem?_eq_getElem hil] at h1
       have h2:DataW.trod enc P W base sp held fuel x.type ((cs.drop x.offset).take (P.cellsOf x.type))=some (xs[i].1,xs[i].2):=h1
       refine ih n h2 ha (fun y hy=>hw y ?_)
       simp only [DataW.weights,hu]
       exact DataW.weights_mem_each (j:=i) (by simp [hi']) (by simp [hil]) y hy)
      simpa using this
    ·cases hs
   ·rename_i m e hu
    split at hs
    ·rename_i es he
     cases hc:(Nat.beq (P.cellsOf e) es.length&&Nat.beq (P.cellsOf t) (m * es.length)) with
     | false=>rw [hc] at hs;cases hs
     | true =>
      rw [hc,cond_true] at hs
      obtain rfl:=Option.some.inj hs
      simp only [Bool.and_eq_true] at hc
      have hce:P.cellsOf e=es.length:=Nat.eq_of_beq_eq_true hc.1
      have hct:P.cellsOf t=m * es.length:=Nat.eq_of_beq_eq_true hc.2
      obtain ⟨xs,m',hm,hx,hcl,hxl,hat⟩:=DataW.trod_array hu h
      obtain rfl:=Nat.succ.inj hm
      have hd:=(Prod.mk.inj hx).1
      subst hd
      have:=znK (O:=O) (W:=W) (es:=es) (cs:=cs) m 0 (by omega) (fun i hi=>by
       have h1:=hat i hi
       have hil:i < xs.length:=by omega
       rw [List.getElem?_eq_getElem hil,hce] at h1
       have h2:DataW.trod enc P W base sp held fuel e ((cs.drop (i * es.length)).take es.length)=some (xs[i].1,xs[i].2):=h1
       rw [Nat.zero_add]
       refine ih n h2 he (fun y hy=>hw y ?_)
       simp only [DataW.weights,hu]
       exact zgp hy (List.mem_map.2 ⟨xs[i],List.getElem_mem hil,rfl⟩))
      simpa using this
    ·cases hs
   ·cases hs
end
section
theorem z8.int_of {k:IntKind} {d:D} (hk:k ≠ .u64) (h:z8 (.int k) d) : ∃ n,d = .int k n∧inR k n:=by
 cases h with
 | int k n h1 h2=>exact ⟨n,rfl,h2⟩
 | u64 x=>exact absurd rfl hk
theorem z8.u64_of {d:D} (h:z8 (.int .u64) d) : ∃ x,d = .u64 x:=by
 cases h with
 | int k n h1 h2=>exact absurd rfl h1
 | u64 x=>exact ⟨x,rfl⟩
theorem z8.slice1 {α:Type} {e:Sh} {d:D} (R:α→D) (Q:α→Prop) (hR : ∀ d,z8 e d → ∃ a,d=R a∧Q a) (h:z8 (.slice [e]) d) :
  ∃ l:List α,d = .arr 1 (l.map R)∧(∀ a∈l,Q a)∧l.length≤140737488351232:=by
 generalize hs:Sh.slice [e]=s at h
 cases h with
 | bool|int|u64|str=>cases hs
 | slice es ls h1 h2 h3 =>
  cases hs
  have key : ∀ ls:List (List D),(∀ i,i < ls.length→(ls.getD i []).length=1)→(∀ i,i < ls.length→z8 e ((ls.getD i []).getD 0 .nil)) → ∃ l:List α,ls.map (zdE 1)=l.map R∧(∀ a∈l,Q a)∧l.length=ls.length:=by
   intro ls
   induction ls with
   | nil=>intro _ _;exact ⟨[],rfl,by simp,rfl⟩
   | cons x r ih =>
    intro h4 h5
    obtain ⟨l,e1,e2,e3⟩:=ih (fun i hi=>h4 (i+1) (by simp;omega)) (fun i hi=>h5 (i+1) (by simp;omega))
    obtain ⟨a,ha,hq⟩:=hR _ (h5 0 (by simp))
    refine ⟨a::l,?_,fun b hb=>?_,by simp [e3]⟩
    ·rw [List.map_cons,List.map_cons,e1]
     congr 1
    ·rcases List.mem_cons.1 hb with rfl|hb
     ·exact hq
     ·exact e2 b hb
  obtain ⟨l,e1,e2,e3⟩:=key ls (fun i hi=>h2 i hi) (fun i hi=>h3 i 0 hi (by simp))
  exact ⟨l,by rw [← e1];rfl,e2,by omega⟩
theorem z8.sliceN {α:Type} {es:List Sh} {d:D} (R:α→List D) (Q:α→Prop) (hn:es.length≠1)
  (hR : ∀ l:List D,l.length=es.length→(∀ j,j < es.length→z8 (es.getD j .bool) (l.getD j .nil)) → ∃ a,l=R a∧Q a) (h:z8 (.slice es) d) :
  ∃ l:List α,d = .arr es.length (l.map fun a => .agg (R a))∧(∀ a∈l,Q a)∧l.length≤140737488351232:=by
 generalize hs:Sh.slice es=s at h
 cases h with
 | bool|int|u64|str=>cases hs
 | slice es' ls h1 h2 h3 =>
  cases hs
  have hb:Nat.beq es.length 1=false:=by
   cases hb:Nat.beq es.length 1 with
   | false=>rfl
   | true=>exact absurd (Nat.eq_of_beq_eq_true hb) hn
  have key : ∀ ls:List (List D),(∀ i,i < ls.length→(ls.getD i []).length=es.length)→(∀ i j,i < ls.length→j < es.length→z8 (es.getD j .bool) ((ls.getD i []).getD j .nil)) →
    ∃ l:List α,ls.map (zdE es.length)=(l.map fun a => .agg (R a))∧(∀ a∈l,Q a)∧l.length=ls.length:=by
   intro ls
   induction ls with
   | nil=>intro _ _;exact ⟨[],rfl,by simp,rfl⟩
   | cons x r ih =>
    intro h4 h5
    obtain ⟨l,e1,e2,e3⟩:=ih (fun i hi=>h4 (i+1) (by simp;omega)) (fun i j hi hj=>h5 (i+1) j (by simp;omega) hj)
    obtain ⟨a,ha,hq⟩:=hR x (h4 0 (by simp)) (fun j hj=>h5 0 j (by simp) hj)
    refine ⟨a::l,?_,fun b hb=>?_,by simp [e3]⟩
    ·rw [List.map_cons,List.map_cons,e1,← ha]
     congr 1
     simp [zdE,hb]
    ·rcases List.mem_cons.1 hb with rfl|hb
     ·exact hq
     ·exact e2 b hb
  obtain ⟨l,e1,e2,e3⟩:=key ls h2 h3
  exact ⟨l,by rw [← e1],e2,by omega⟩
end
section
variable {P:Program} {T:Nat→Obj→Prop}
def zwA (T:Nat→Obj→Prop) (W:World):zx where
 w0:=W
 O:=fun b => ∃ o,T b o
 R:=fun _=>False
 nt:=0
 pin:=T
 pinO:=fun b o h=>⟨o,h⟩
 ghost:=fun _=>undef
 small:=Nat.zero_le _
 dfr:=[]
 inv:=fun _ _ _ _=>True
 stab:=by intros;trivial
 mono:=by intros;trivial
theorem zy4 (σ:Nat→Option Nat) (b:Nat) : ¬ own σ (fun _=>none) b:=fun ⟨_,h,_⟩=>h rfl
theorem zuc {f:Nat} {W:World} {args:Array Value} {ds:List D} {y:D} (hT : ∀ b o,T b o→W.heap[b]? = some o) (hF:Fn P T f (ds.map .d) [] (.d y) []) (hsz:args.size=ds.length)
  (hd : ∀ i,i < ds.length→zj (fun b => ∃ o,T b o) W (ds.getD i .nil) (args.getD i undef)) :
  Calls P f args W fun e W' => ∃ v,e = .returned v∧(∃ X,zj X W' y v)∧Below W.heap.size W W':=by
 intro cs
 have hM:zE (([]:List Ob).map some)=fun _=>none:=by funext i;simp [zE]
 have hM':zE ([]:List (Option Ob))=fun _=>none:=by funext i;simp [zE]
 obtain ⟨hc,h⟩:=hF
 let a:Act := { tmps := #[],defers:=[] }
 have hs:Sim (zwA T W) (fun _ => .undef) (zE (([]:List Ob).map some)) (fun i=>([]:List Ob).length≤i) (fun _=>none) a W:=by
  rw [hM]
  exact {
   env:=fun t => .undef _
   mem:=fun id ob h=>nomatch h
   inj:=fun i j b h=>absurd rfl h
   mine:=fun id b h=>absurd rfl h
   free:=fun id _=>rfl
   kept:=⟨rfl,rfl,rfl,Nat.le_refl _,fun b _ _=>rfl,fun b c e h=>⟨c,h,rfl⟩⟩
   nt:=⟨rfl,rfl⟩
   olt:=fun b ⟨o,ho⟩=>(Array.getElem?_eq_some_iff.1 (hT b o ho)).1
   pins:=hT
   todo:=fun id l h=>nomatch h }
 obtain ⟨v',w',σ',hcalls,hs',hv',_⟩:=h (zwA T W) (fun _=>none) a W args (fun b o ht=>ht) (fun _ _ _ _=>trivial) hs (by simpa using hsz) (fun i hi=>by
  have hi':i < ds.length:=by simpa using hi
  rw [show (ds.map V.d).getD i .undef = .d (ds.getD i .nil) by simp [List.getD,hi']]
  refine .d _ _ ((hd i hi').mono (fun b _ _=>rfl) (fun b _ hb=>?_))
  rcases hb with hb|hb
  ·exact hb
  ·rw [hM] at hb;exact absurd hb (zy4 _ _)) cs
 obtain ⟨fr,h1,h2,h3⟩:=hcalls
 refine ⟨.returned v',w',fr,⟨v',rfl,?_,?_⟩,?_,h2,h3⟩
 ·cases hv' with
  | d _ _ hd=>exact ⟨_,hd⟩
 ·exact ⟨hs'.kept.os,hs'.kept.tape,hs'.kept.output,hs'.kept.size,fun k hk=>hs'.kept.block k hk (fun h=>h)⟩
 ·exact h1
def zf1 (P:Program) (t:TypeId):Bool:=match P.underlying t with
 | some (.struct _)|some (.array _ _)=>true
 | _=>false
theorem zx3 {w:World} {base:Nat} {t:TypeId} {v:Value} {n:Nat} {sh:List Sh} (h:Value.okWide P w .any base t v) (hs:zdL P n t=some sh) :
  cond (zf1 P t) (∃ cs,v = .agg cs) (∃ s,sh=[s]∧v.cells.toList=[v]):=by
 cases n with
 | zero=>simp [zdL] at hs
 | succ n =>
  unfold zdL at hs
  unfold Value.okWide at h
  unfold zf1
  split at hs
  ·rename_i hu
   simp only [hu,cond_false] at h ⊢
   refine ⟨_,(Option.some.inj hs).symm,?_⟩
   cases v<;>first|rfl|simp [Cell.okWide,Cell.ok,hu] at h
  ·rename_i k hu
   simp only [hu,cond_false] at h ⊢
   refine ⟨_,(Option.some.inj hs).symm,?_⟩
   cases v<;>first|rfl|simp [Cell.okWide,Cell.ok,hu] at h
  ·rename_i hu
   simp only [hu,cond_false] at h ⊢
   refine ⟨_,(Option.some.inj hs).symm,?_⟩
   cases v<;>first|rfl|simp [Cell.okWide,Cell.ok,hu] at h
  ·rename_i e hu
   simp only [hu,cond_false] at h ⊢
   split at hs
   ·rename_i es he
    cases hc:(Nat.blt 0 es.length&&(Nat.beq (P.cellsOf e) es.length&&(Nat.blt 0 (P.bytesOf e)&&(es.getD 0 .bool).noByte))) with
    | false=>rw [hc] at hs;cases hs
    | true =>
     rw [hc,cond_true] at hs
     refine ⟨_,(Option.some.inj hs).symm,?_⟩
     cases v<;>first|rfl|simp [Cell.okWide,Cell.ok,hu] at h
   ·cases hs
  ·rename_i fs hu
   simp only [hu,cond_true] at h ⊢
   obtain ⟨cs,h,_⟩:=h
   exact ⟨cs,h⟩
  ·rename_i m e hu
   simp only [hu,cond_true] at h ⊢
   obtain ⟨cs,h,_⟩:=h
   exact ⟨cs,h⟩
  ·cases hs
def zvv (agg:Bool) (l:List D):D:=cond agg (.agg l) (l.getD 0 .nil)
theorem zyh {O:Nat→Prop} {W:World} {base n:Nat} {t:TypeId} {v:Value} {sh:List Sh} {l:List D} (h:Value.okWide P W .any base t v) (hs:zdL P n t=some sh) (hr:zbt O W sh v.cells.toList l) :
  zj O W (zvv (zf1 P t) l) v:=by
 have:=zx3 h hs
 unfold zvv
 cases hb:zf1 P t with
 | true =>
  rw [hb,cond_true] at this
  obtain ⟨cs,rfl⟩:=this
  refine .agg l cs (by rw [hr.len',← hr.len];rfl) ?_ (fun i hi=>?_)
  ·rw [List.all_eq_true]
   intro x hx
   obtain ⟨i,hi⟩:=List.getElem?_of_mem hx
   have hlt:=(List.getElem?_eq_some_iff.1 hi).1
   have:=(hr.has i (by rw [← hr.len'];exact hlt)).isCell
   rwa [show l.getD i .nil=x by simp [List.getD,hi]] at this
  ·have:=hr.sim i (by rw [← hr.len'];exact hi)
   simpa [Value.cells,List.getD,Array.getD_eq_getD_getElem?] using this
 | false =>
  rw [hb,cond_false] at this
  obtain ⟨s,rfl,e⟩:=this
  have:=hr.sim 0 (by simp)
  rw [e] at this
  exact this
inductive zwu:List Sh→List D→Prop where
 | mk (sh:List Sh) (l:List D):l.length=sh.length→(∀ i,i < sh.length→z8 (sh.getD i .bool) (l.getD i .nil))→zwu sh l
inductive zdP (P:Program):List TypeId→List D→Prop where
 | nil:zdP P [] []
 | cons {t:TypeId} {ts:List TypeId} {sh:List Sh} {l:List D} {ds:List D} : zdL P 8 t=some sh→zwu sh l→zdP P ts ds→zdP P (t::ts) (zvv (zf1 P t) l::ds)
theorem zq4 {H:Type} {enc:TypeId×Value→H} {W:World} {O:Nat→Prop} {base:Nat} (hO : ∀ b,O b → ∀ i v,W.cell? ⟨b,i,none⟩=some v → ∃ n,v = .int .u8 n) :
  ∀ (ts:List TypeId) (vs:List Value) (ds:List (DataW H)) (ps:List MemPlace),DataW.TrodAll enc P W 0 (fun _=>true) true ts vs ds ps→(∀ t∈ts,(zdL P 8 t).isSome=true) →
   (∀ (j:Nat) t v,ts[j]? = some t→vs[j]? = some v→Value.okWide P W .any base t v)→(∀ x∈DataW.weightsEach P ts ds,x≤reachBytes) →
   vs.length=ts.length∧ds.length=ts.length ∧ ∃ l:List D,l.length=ts.length∧zdP P ts l ∧ ∀ i,i < ts.length→zj O W (l.getD i .nil) (vs.getD i undef)
 | [],[],[],ps,h,_,_,_=>⟨rfl,rfl,[],rfl,.nil,fun i hi=>by simp at hi⟩
 | [],_::_,_,ps,h,_,_,_=>by simp [DataW.TrodAll] at h
 | [],[],_::_,ps,h,_,_,_=>by simp [DataW.TrodAll] at h
 | _::_,[],_,ps,h,_,_,_=>by simp [DataW.TrodAll] at h
 | _::_,_::_,[],ps,h,_,_,_=>by simp [DataW.TrodAll] at h
 | t::ts,v::vs,d::ds,ps,h,hs,hv,hw=>by
  obtain ⟨p,q,⟨fuel,h1⟩,h2,rfl⟩:=h
  obtain ⟨e1,e2,l,e3,h3,h4⟩:=zq4 hO ts vs ds q h2 (fun t ht=>hs t (by simp [ht])) (fun j t v h1 h2=>hv (j+1) t v (by simpa using h1) (by simpa using h2)) (fun x hx=>hw x (by simp [DataW.weightsEach,hx]))
  obtain ⟨sh,hsh⟩:=Option.isSome_iff_exists.1 (hs t (by simp))
  obtain ⟨l0,h5⟩:=zAz hO fuel 8 h1 hsh (fun x hx=>hw x (by simp [DataW.weightsEach,hx]))
  refine ⟨by simp [e1],by simp [e2],zvv (zf1 P t) l0::l,by simp [e3],.cons hsh (.mk sh l0 h5.len' h5.has) h3,fun i hi=>?_⟩
  cases i with
  | zero=>exact zyh (hv 0 t v rfl rfl) hsh h5
  | succ i=>exact h4 i (by simpa using hi)
theorem zq5 {H:Type} {enc:TypeId×Value→H} {W W':World} (hl:laidOutB P=true) (hb:Below W.heap.size W W') :
  ∀ (ts:List TypeId) (vs:List Value) (ds:List (DataW H)) (ps:List MemPlace),(∀ t∈ts,P.readableRec t=true∧t < P.types.size)→DataW.TrodAll enc P W 0 (fun _=>true) true ts vs ds ps →
   DataW.TrodAll enc P W' 0 (fun b=>decide (b < W.heap.size)) true ts vs ds ps
 | [],[],[],ps,_,h=>h
 | [],_::_,_,ps,_,h=>by simp [DataW.TrodAll] at h
 | [],[],_::_,ps,_,h=>by simp [DataW.TrodAll] at h
 | _::_,[],_,ps,_,h=>by simp [DataW.TrodAll] at h
 | _::_,_::_,[],ps,_,h=>by simp [DataW.TrodAll] at h
 | t::ts,v::vs,d::ds,ps,hr,h=>by
  obtain ⟨p,q,h1,h2,rfl⟩:=h
  have hlt : ∀ x∈p,x.block < W.heap.size:=by obtain ⟨m,hm⟩:=h1;exact DataW.trod_lt m _ _ _ hm
  obtain ⟨h3,h4⟩:=hr t (by simp)
  exact ⟨p,q,Below.trod hl h3 h4 h1 hb hlt,zq5 hl hb ts vs ds q (fun t ht=>hr t (by simp [ht])) h2,rfl⟩
theorem zB1 {C:Checked} {os:Os} {f:FuncId} {fn:Func} {s:ChangeSpec} {H:Type} {enc:TypeId×Value→H} {laid:List (String×DataW Unit)} {tb:TypeId} (own:ownKnob C.prog.godebug=none) (started:os.Started) (noInit:C.prog.inits.idxOf? f=none) (hfn:C.prog.funcs[f]? = some fn)
  (hl:laidOutB C.prog=true) (ts:List TypeId) (hts:fn.params=ts.toArray) (hres:fn.resultTypes = #[tb]) (htb:C.prog.underlying tb=some .bool) (hvars:s.vars=[])
  (hread:(ts.all fun t=>C.prog.readableRec t&&(decide (t < C.prog.types.size)&&(zdL C.prog 8 t).isSome))=true)
  (hsp : ∀ ds:List (DataW H),ds.length=ts.length→s.fn H ds = { results:=[.lit (.bool true)],args:=ds,vars:=[] })
  (witness : ∃ (w:World) (tape:Tape) (i:Input),w.os=os∧(w.forCall tape i).Shaped C.prog∧i.vars=[]∧Input.okWide C.prog (w.forCall tape i) .any w.heap.size f i ∧
   ((s.pre enc C.prog fn [] false (w.forCall tape i).memory i.args∧laidMetH C.prog laid (w.forCall tape i).memory)∧sizedMet enc C.prog fn (OpenSpec.ofChange s) false (w.forCall tape i).memory i.args)∧({ } : Assume).holds C.prog (lone (Frame.enter C.prog f i.args .normal) [] (w.forCall tape i)))
  (law : ∀ W,laidMetH C.prog laid W → ∃ T:Nat→Obj→Prop,(∀ b o,T b o→W.heap[b]? = some o)∧(∀ b,(∃ o,T b o) → ∀ i v,W.cell? ⟨b,i,none⟩=some v → ∃ n,v = .int .u8 n) ∧
   ∀ ds,zdP C.prog ts ds→Fn C.prog T f (ds.map .d) [] (.d (.bool true)) []) :
  ReturnsInHanded {} C os f .any (fun w args=>(s.pre enc C.prog fn [] false w args∧laidMetH C.prog laid w)∧sizedMet enc C.prog fn (OpenSpec.ofChange s) false w args)
   (s.post enc C.prog fn false true false false):=by
 refine returnsInHanded_of_change_and (C:=C) (X:=fun w _=>laidMetH C.prog laid w) (fun _ _ _ hh h=>h.of_heap hh) own started noInit hfn witness ?_
 intro W base args ds gs before hval0 hW _ hweights hL _
 have hW':=hW
 obtain ⟨p,q,hA,hV,rfl,hfz,hnd⟩:=hW
 rw [hvars] at hV
 obtain ⟨rfl,rfl⟩:=trodVars_none hV
 rw [hts] at hA hweights hval0
 simp only [List.append_nil] at hweights hW' ⊢
 rw [List.all_eq_true] at hread
 obtain ⟨T,hT,hO,hlaw⟩:=law W hL
 have hread' : ∀ t∈ts,(C.prog.readableRec t=true∧t < C.prog.types.size)∧(zdL C.prog 8 t).isSome=true:=fun t ht=>by
  have:=hread t ht
  simp only [Bool.and_eq_true,decide_eq_true_eq] at this
  exact ⟨⟨this.1,this.2.1⟩,this.2.2⟩
 rw [List.all_eq_true] at hweights
 have hvt:s.plain.varTypes C.prog=[]:=by simp [ChangeSpec.plain,DataSpec.varTypes,hvars]
 rw [hvt] at hweights
 simp only [List.append_nil] at hweights
 obtain ⟨e1,e2,l,e3,h3,h4⟩:=zq4 (base:=base) hO ts args.toList ds p hA (fun t ht=>(hread' t ht).2)
  (fun j t v h1 h2=>hval0 j t v (by simpa using h1) (by simpa using h2)) (fun x hx=>by simpa using hweights x hx)
 have hF:=hlaw l h3
 refine (zuc hT hF (by simpa [e3] using e1) (fun i hi=>by
  have:=h4 i (by omega)
  simpa [List.getD,Array.getD_eq_getD_getElem?] using this)).mono fun e W' ⟨v,he,⟨X,hv⟩,bel⟩=>?_
 subst he
 cases hv
 refine ⟨_,rfl,ds,[],p,[],p,[],hW',?_,?_,?_,bel.frame _,fun h=>by cases h⟩
 ·rw [List.append_nil,hsp ds (by rw [e2]),hres]
  exact trodAll_mk1 (shut_bool htb _)
 ·rw [List.append_nil,hsp ds (by rw [e2]),hts]
  exact zq5 hl bel ts args.toList ds p (fun t ht=>(hread' t ht).1) hA
 ·rw [List.append_nil,hsp ds (by rw [e2]),hvars]
  rfl
end
end Go.Ab
namespace Go.Proofs
def Tryd.lays29_ren:Go.Shelf.Ren:=⟨fun|29=>104|n=>n,fun|22=>31|3=>3|4=>4|25=>42|54=>174|0=>0|5=>5|n=>n,fun|1=>0|n=>n⟩
theorem Tryd.lays29:Go.Proofs.Lays7.n29 Tryd.prog Tryd.lays29_ren := {
 mixed:=by kernel_rfl
 f29:=Tryd.func104.trans (congrArg some (by kernel_rfl))
 t0:=Tryd.underlying0
 a0:=Tryd.isAgg0
 z0:=Tryd.sizeOf0
 v0:=Tryd.zeroValue0
 i0:=by kernel_rfl
 t3:=Tryd.underlying3
 a3:=Tryd.isAgg3
 z3:=Tryd.sizeOf3
 v3:=Tryd.zeroValue3
 i3:=by kernel_rfl
 t4:=Tryd.underlying4
 a4:=Tryd.isAgg4
 z4:=Tryd.sizeOf4
 v4:=Tryd.zeroValue4
 i4:=by kernel_rfl
 t5:=Tryd.underlying5
 a5:=Tryd.isAgg5
 z5:=Tryd.sizeOf5
 v5:=Tryd.zeroValue5
 i5:=by kernel_rfl
 t22:=Tryd.underlying31
 a22:=Tryd.isAgg31
 z22:=Tryd.sizeOf31
 v22:=Tryd.zeroValue31
 i22:=by kernel_rfl
 t25:=Tryd.underlying42
 a25:=Tryd.isAgg42
 z25:=Tryd.sizeOf42
 v25:=Tryd.zeroValue42
 i25:=by kernel_rfl
 t54:=Tryd.underlying174
 a54:=Tryd.isAgg174
 z54:=Tryd.sizeOf174
 g1:=by kernel_rfl }
end Go.Proofs
namespace Go.Ab
open Go Go.Proofs Go.RowKit Go.ChangeShapes Go.WideShapes
theorem knob:ownKnob Tryd.prog.godebug=none:=by kernel_rfl
theorem laidOut:laidOutB Tryd.prog=true:=by kernel_rfl
theorem gTab:Tryd.prog.globalNamed "math/bits.deBruijn64tab" = some 0:=by kernel_rfl
def TOf (W:World):Nat→Obj→Prop:=fun b o=>b=0∧W.heap[0]? = some o
theorem call_tz:zc5 Tryd.prog zan:=⟨_,Tryd.func104,by kernel_rfl,by kernel_rfl⟩
abbrev laidL:List (String×DataW Unit):=[("math/bits.deBruijn64tab",YtnmoepbhlbebkaaDoor.Rows.laid_math_bits_deBruijn64tab)]
theorem tab_of {W:World} (h:laidMetH Tryd.prog laidL W):Lib.TabIs Tryd.prog W "math/bits.deBruijn64tab" .u8 (Lib.deBruijn64tab.map Int.ofNat) :=
 Lib.tabIs_of_head (rest:=[]) gTab (show (Tryd.prog.globals[0]?).map (·.type)=some 174 by kernel_rfl) Tryd.underlying174 Tryd.underlying5 (by kernel_rfl) (by kernel_rfl) h
theorem tab_cells {W:World} (h:laidMetH Tryd.prog laidL W) (i:Nat) (v:Value) (hv:W.cell? ⟨0,i,none⟩=some v) : ∃ n,v = .int .u8 n:=by
 have:=World.var?_cell gTab (tab_of h) i
 rw [hv] at this
 have:=this.symm
 simp only [List.getElem?_toArray,List.getElem?_map,Option.map_eq_some_iff] at this
 obtain ⟨z,_,rfl⟩:=this
 exact ⟨z,rfl⟩
theorem tz_of {W:World} (h:laidMetH Tryd.prog laidL W):zcl (TOf W):=fun x=>by
 have hl:=h
 have hb : ∃ o,W.heap[0]? = some o:=by
  have:=(tab_of hl).cell gTab 0 (by decide)
  have:=zuV this
  exact ⟨_,Array.getElem?_eq_getElem this⟩
 obtain ⟨o,ho⟩:=hb
 refine zBZ (g:=0) (tab:=o) call_tz (fun x w hx hT=>Any7.bits_TrailingZeros64 Tryd.lays29 x hx w hT) (fun w hw j hj=>?_) x
 have h0:w.heap[0]? = W.heap[0]? := (hw 0 o ⟨rfl,ho⟩).trans ho.symm
 have h1:=(tab_of hl).cell gTab j (by simpa using hj)
 rw [zgJ (w:=W) (w':=w) (a:=⟨0,j,none⟩) h0,h1]
 congr 2
 have:j < Lib.deBruijn64tab.length:=hj
 simp [List.getD,this]
theorem door_met (os:Os) (args:Array Value):laidMetH Tryd.prog laidL ((World.doorLaid Tryd.prog 14 os).forCall (fun _ _=>0) ⟨#[],args,[]⟩).memory :=
 laidMetH_of_parts3 (fuel:=8) (laidMet_of_run' 8 (by kernel_rfl) (by kernel_rfl)) (by kernel_rfl) (by kernel_rfl)
end Go.Ab
namespace Go.Ab
open Go Go.Proofs Go.RowKit Go.ChangeShapes Go.WideShapes
theorem zja {P:Program} {n:Nat} {t:TypeId} {sh sh':List Sh} (h:zdL P n t=some sh) (h':zdL P n t=some sh'):sh=sh':=Option.some.inj (h.symm.trans h')
theorem zzp:zdL Tryd.prog 8 25=some [.int .i64,.slice [.int .u64],.slice [.slice [.int .u64]]]:=by kernel_rfl
theorem zwx:zf1 Tryd.prog 25=true:=by kernel_rfl
theorem zB7 {ts:List TypeId} {ds:List D} (h:zdP Tryd.prog (25::ts) ds) : ∃ (m:KM) (r:List D),ds=dKM m::r∧inR .i64 m.W∧zdP Tryd.prog ts r:=by
 cases h with|cons h1 h2 h3 =>
 rw [zja h1 zzp] at h2
 cases h2 with|mk hl h =>
 rename_i l _
 match l,hl with
 | [a,b,c],_ =>
  obtain ⟨n,rfl,hn⟩:=z8.int_of (by decide) (h 0 (by decide))
  have key : ∀ d,z8 (.slice [.int .u64]) d → ∃ r:List (BitVec 64),d=dU r∧True:=fun d hd =>
   let ⟨l,h1,_⟩:=z8.slice1 D.u64 (fun _=>True) (fun d hd=>let ⟨x,hx⟩:=hd.u64_of; ⟨x,hx,trivial⟩) hd
   ⟨l,h1,trivial⟩
  obtain ⟨v,rfl,_⟩:=key _ (h 1 (by decide))
  obtain ⟨c,rfl,_⟩:=z8.slice1 dU (fun _=>True) key (h 2 (by decide))
  rw [zwx]
  exact ⟨⟨n,v,c⟩,_,rfl,hn,h3⟩
theorem zzo:zdL Tryd.prog 8 26=some [.slice [.slice [.int .i64,.int .i64,.int .i64,.int .i64,.int .i64,.int .i64]]]:=by kernel_rfl
theorem zww:zf1 Tryd.prog 26=false:=by kernel_rfl
theorem zB6 {ts:List TypeId} {ds:List D} (h:zdP Tryd.prog (26::ts) ds) : ∃ (f:List (List Nd)) (r:List D),ds = .arr 1 (f.map dF)::r∧zdP Tryd.prog ts r:=by
 cases h with|cons h1 h2 h3 =>
 rw [zja h1 zzo] at h2
 cases h2 with|mk hl h =>
 rename_i l _
 match l,hl with
 | [a],_ =>
  have key : ∀ d,z8 (.slice [.int .i64,.int .i64,.int .i64,.int .i64,.int .i64,.int .i64]) d → ∃ f:List Nd,d=dF f∧True:=fun d hd =>
   let ⟨l,h1,_⟩:=z8.sliceN (fun n:Nd=>[.int .i64 n.op,.int .i64 n.i,.int .i64 n.e,.int .i64 n.g,.int .i64 n.x,.int .i64 n.y]) (fun _=>True) (by decide) (fun l hl h=>by
   match l,hl with
   | [a,b,c,d,e,f],_ =>
    obtain ⟨a,rfl,_⟩:=z8.int_of (by decide) (h 0 (by decide))
    obtain ⟨b,rfl,_⟩:=z8.int_of (by decide) (h 1 (by decide))
    obtain ⟨c,rfl,_⟩:=z8.int_of (by decide) (h 2 (by decide))
    obtain ⟨d,rfl,_⟩:=z8.int_of (by decide) (h 3 (by decide))
    obtain ⟨e,rfl,_⟩:=z8.int_of (by decide) (h 4 (by decide))
    obtain ⟨f,rfl,_⟩:=z8.int_of (by decide) (h 5 (by decide))
    exact ⟨⟨a,b,c,d,e,f⟩,rfl,trivial⟩) hd
   ⟨l,h1,trivial⟩
  obtain ⟨f,rfl,_⟩:=z8.slice1 dF (fun _=>True) key (h 0 (by decide))
  rw [zww]
  exact ⟨f,_,rfl,h3⟩
theorem zzq:zdL Tryd.prog 8 45=some [.int .i64,.int .i64,.int .i64]:=by kernel_rfl
theorem zwy:zf1 Tryd.prog 45=true:=by kernel_rfl
theorem zB8 {ts:List TypeId} {ds:List D} (h:zdP Tryd.prog (45::ts) ds) : ∃ (a v w:Int) (r:List D),ds = .agg [.int .i64 a,.int .i64 v,.int .i64 w]::r∧zdP Tryd.prog ts r:=by
 cases h with|cons h1 h2 h3 =>
 rw [zja h1 zzq] at h2
 cases h2 with|mk hl h =>
 rename_i l _
 match l,hl with
 | [a,b,c],_ =>
  obtain ⟨n,rfl,_⟩:=z8.int_of (by decide) (h 0 (by decide))
  obtain ⟨p,rfl,_⟩:=z8.int_of (by decide) (h 1 (by decide))
  obtain ⟨q,rfl,_⟩:=z8.int_of (by decide) (h 2 (by decide))
  rw [zwy]
  exact ⟨n,p,q,_,rfl,h3⟩
theorem zCC {ds:List D} (h:zdP Tryd.prog [] ds):ds=[]:=by cases h;rfl
theorem zCx {W:World} (h:laidMetH Tryd.prog laidL W):(∀ b o,TOf W b o→W.heap[b]? = some o)∧(∀ b,(∃ o,TOf W b o) → ∀ i v,W.cell? ⟨b,i,none⟩=some v → ∃ n,v = .int .u8 n) :=
 ⟨fun b o ⟨h1,h2⟩=>by rw [h1];exact h2,fun b ⟨o,h1,_⟩ i v hv=>by subst h1;exact tab_cells h i v hv⟩
theorem zCB {a b:Bool} (h:a=true) (h2:b=true):(a&&b)=true:=by rw [h,h2];rfl
end Go.Ab
