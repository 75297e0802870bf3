/- What is proved here: the law UpgradeBelieves returns true at every input and leaves its arguments as they were. There is no further condition. -/
import Derived.Test.YtmaiaomgcpbccaaGreatMH
set_option linter.unusedVariables false
set_option linter.unusedSimpArgs false
set_option linter.unusedSectionVars false
namespace Go.Ab
open Go Go.Proofs
section
open K
def f_wittinglaw36_UpgradeBelieves:Nat:=9
def c_wittinglaw36_UpgradeBelieves:CFn:=⟨135,[.tmp 4],(q [(.reg [o 2 (.box 4 (t 0)),o 4 (.mv (c .bf))]),
 (q [(.reg [o 22 (la 4 2),o 23 (m 1),o 24 (m 1),o 25 (m 1),o 26 (.build [(.nils 6),(.nils 6),(.nils 6)] [(0,1,(t 23)),(1,1,(t 24)),(2,1,(t 25))]),o 27 (.call 26 [(t 22),(t 26)]),o 28 (.un .not (t 27))]),
 (i 28 (q [(.reg [o 29 (.call 12 []),o 4 (m 29)]),
 .ret]) .skip)]),
 (.reg [o 31 (la 4 2),o 32 (m 1),o 33 (.call 27 [(t 31),(t 32)]),o 30 (m 33),o 34 (e 30 0),o 35 (e 30 1),o 5 (m 34),o 6 (m 35)]),
 (.reg [o 37 (la 4 2),o 38 (m 1),o 39 (.call 17 [(t 37),(t 38)]),o 36 (m 39),o 40 (e 36 0),o 41 (e 36 1),o 7 (.alloc [(n 0),(.nils 1),(.nils 1),(.nils 1)]),w (.store 4 (t 7) (t 40)),o 8 (m 41)]),
 (.reg [o 43 (la 4 2),o 44 (m 1),o 45 (.call 19 [(t 43),(t 44)]),o 42 (m 45),o 46 (e 42 0),o 47 (e 42 1),o 9 (.alloc [(n 0),(.nils 1),(.nils 1),(.nils 1)]),w (.store 4 (t 9) (t 46)),o 10 (m 47)]),
 (.reg [o 49 (la 4 7),o 50 (m 1),o 51 (.call 17 [(t 49),(t 50)]),o 48 (m 51),o 52 (e 48 0),o 53 (e 48 1),o 11 (.alloc [(n 0),(.nils 1),(.nils 1),(.nils 1)]),w (.store 4 (t 11) (t 52)),o 12 (m 53)]),
 (q [(.reg [o 54 (m 6),o 55 (.un .not (t 54)),o 56 (m 55),g 57 56 false (m 8),g 58 56 false (m 10),g 59 56 false (b .add 57 58),g 60 56 false (m 12),g 61 56 false (b .add 59 60),g 62 56 false (bc .neq 61 (n 0)),o 63 (pt 56 62),o 64 (m 63),g 65 64 false (la 4 7),g 66 64 false (la 4 11),g 67 64 false (.call 15 [(t 65),(t 66)]),g 68 64 false (.un .not (t 67)),o 69 (pt 64 68)]),
 (i 69 (q [(.reg [o 4 (.mv (c .bf))]),
 .ret]) .skip)]),
 (q [(.reg [o 13 (.mv (c (n 0)))]),
 (.block 0 (.loop (q [(q [(.reg [o 70 (m 13),o 71 (f 2 2),o 72 (l 71),o 73 (ln 72),o 74 (b .lss 70 73)]),
 (i 74 .skip (.exit 0))]),
 (.block 1 (q [(.regd [o 78 (la 4 2),o 79 (m 13),o 80 (m 1),o 81 (.call 33 [(t 79),(t 80)]),o 82 (.call 27 [(t 78),(t 81)]),o 77 (m 82),o 83 (e 77 0),o 84 (e 77 1),o 14 (m 83),o 15 (m 84)] [0,0,0,6,15,31,63,63,127,511]),
 (.regd [o 86 (la 4 7),o 87 (m 13),o 88 (.call 34 []),o 89 (m 1),o 90 (.call 28 [(t 87),(t 88),(t 89)]),o 91 (.call 27 [(t 86),(t 90)]),o 85 (m 91),o 92 (e 85 0),o 93 (e 85 1),o 16 (m 92),o 17 (m 93)] [0,0,0,0,14,31,63,127,127,255,1023]),
 (.regd [o 95 (la 4 9),o 96 (m 13),o 97 (.call 34 []),o 98 (m 1),o 99 (.call 28 [(t 96),(t 97),(t 98)]),o 100 (.call 27 [(t 95),(t 99)]),o 94 (m 100),o 101 (e 94 0),o 102 (e 94 1),o 18 (m 101),o 19 (m 102)] [0,0,0,0,14,31,63,127,127,255,1023]),
 (.reg [o 104 (la 4 7),o 105 (m 13),o 106 (m 5),o 107 (.call 35 [(t 104),(t 105),(t 106)]),o 103 (m 107),o 108 (e 103 0),o 109 (e 103 1),o 20 (m 108),o 21 (m 109)]),
 (.reg [o 110 (m 15),o 111 (.un .not (t 110)),o 112 (m 111),g 113 112 false (m 17),g 114 112 false (.un .not (t 113)),o 115 (pt 112 114),o 116 (m 115),g 117 116 false (m 19),g 118 116 false (.un .not (t 117)),o 119 (pt 116 118),o 120 (m 119),g 121 120 false (m 21),g 122 120 false (bc .neq 121 (n 0)),o 123 (pt 120 122),o 124 (m 123),g 125 124 false (m 14),g 126 124 false (m 16),g 127 124 false (m 18),g 128 124 false (b .and 126 127),g 129 124 false (m 20),g 130 124 false (b .and 128 129),g 131 124 false (b .andNot 125 130),g 132 124 false (bc .neq 131 (u 0)),o 133 (pt 124 132)]),
 (i 133 (q [(.reg [o 4 (.mv (c .bf))]),
 .ret]) .skip)])),
 (.reg [o 75 (m 13),o 76 (bc .add 75 (n 1)),o 13 (m 76)])])))]),
 (.reg [o 134 (.call 12 []),o 4 (m 134)]),
 .ret])⟩
end
theorem k_wittinglaw36_UpgradeBelieves:compFn Tryz.prog f_wittinglaw36_UpgradeBelieves=some c_wittinglaw36_UpgradeBelieves:=by kernel_rfl
end Go.Ab
namespace Go.Ab
open Go
set_option linter.unusedVariables false
set_option linter.unusedSimpArgs false
structure Alike (p q:PM):Prop where
 W:q.W=p.W
 val:q.val=p.val
 cell:q.cell=p.cell
 cp:checkL p=0
 cq:checkL q=0
theorem alike_up {p:PM} (hc0:checkL p=0) (fs:Nat→Nat→BitVec 64):Alike p (upL p fs):=⟨rfl,rfl,rfl,hc0,up_check hc0 fs⟩
section
variable {p q:PM} (h:Alike p q)
include h
theorem Alike.cellL (a w:Int):cellL q a w=cellL p a w:=by
 have e:At q a w↔At p a w:=⟨fun x=>⟨h.cp,x.a0,by have:=x.a1;rwa [h.cell] at this,x.w0,by have:=x.w1;rwa [h.W] at this⟩,fun x=>⟨h.cq,x.a0,by rw [h.cell];exact x.a1,x.w0,by rw [h.W];exact x.w1⟩⟩
 unfold Ab.cellL
 rw [h.cell]
 by_cases hA:At p a w
 ·rw [if_pos hA,if_pos (e.2 hA)]
 ·rw [if_neg hA,if_neg (fun x=>hA (e.1 x))]
theorem Alike.knows (a:Int) (s:BitVec 64):knowsL q a s=knowsL p a s:=by
 unfold knowsL
 simp only [h.cellL,h.W]
theorem Alike.every (g:Nat) (s:BitVec 64):everyL q g s=everyL p g s:=by
 unfold everyL everyK
 simp only [h.knows,h.W,h.cell]
theorem Alike.suc {g w v:Nat} : Suc q g w v↔Suc p g w v:=by
 unfold Suc InC
 rw [h.W,h.cell]
theorem Alike.cpv {g:Nat} {c:BitVec 64} {w v:Nat} : CP q g c w v↔CP p g c w v:=by
 constructor
 ·intro x
  induction x with
  | base s c=>exact .base (h.suc.1 s) c
  | step _ s c ih=>exact .step ih (h.suc.1 s) c
 ·intro x
  induction x with
  | base s c=>exact .base (h.suc.2 s) c
  | step _ s c ih=>exact .step ih (h.suc.2 s) c
theorem Alike.common (g:Nat) (c s:BitVec 64):commonL q g c s=commonL p g c s:=by
 have e:(fun w:Nat => @decide (∀ v,CP q g c w v→s.getLsbD v=true) (Classical.propDecidable _))=fun w:Nat => @decide (∀ v,CP p g c w v→s.getLsbD v=true) (Classical.propDecidable _):=by
  funext w
  have e:(∀ v,CP q g c w v→s.getLsbD v=true) = ∀ v,CP p g c w v→s.getLsbD v=true:=propext (forall_congr' fun v=>by rw [h.cpv])
  exact congrArg (fun P:Prop => @decide P (Classical.propDecidable P)) e
 unfold commonL
 rw [e,h.W]
theorem Alike.value {k:Hd} (h14:k.op≠14) (h15:k.op≠15) (x y:BitVec 64):valL q k x y=valL p k x y:=by
 unfold valL
 simp only [h.W,h.val,h.knows,h.every,h.common,if_neg h14,if_neg h15]
theorem Alike.holds {f:List Nd} (hf : ∀ n∈cL f,n.op≠14∧n.op≠15):holdsL q f=holdsL p f:=by
 have key : ∀ (l:List Nd) (acc:List (BitVec 64)),(∀ n∈l,n.op≠14∧n.op≠15)→sets (valL q) 0#64 l acc=sets (valL p) 0#64 l acc:=fun l=>by
  induction l with
  | nil=>intro acc _;rfl
  | cons n r ih =>
   intro acc hl
   rw [sets,sets,h.value (hl n (List.mem_cons_self ..)).1 (hl n (List.mem_cons_self ..)).2,ih _ fun m hm=>hl m (List.mem_cons_of_mem _ hm)]
 unfold holdsL
 rw [h.cp,h.cq,h.cell,h.val,key _ _ hf]
end
end Go.Ab
namespace Go.Ab
open Go
set_option linter.unusedVariables false
set_option linter.unusedSimpArgs false
set_option linter.unusedSectionVars false
abbrev wv (ws:List Int) (i:Nat):Nat:=(at0 ws i).toNat
section
variable {p:PM} (hc0:checkL p=0) {F:BitVec 64} {ws:List Int} (hws:ws=wsL F p.W.toNat) (hcq:checkL (restPM p ws)=0)
include hc0 hws hcq
theorem w_lt {i:Nat} (hi:i < ws.length):0≤at0 ws i∧wv ws i < p.W.toNat∧F.getLsbD (wv ws i)=true:=by
 have:at0 ws i∈ws:=mem_at0.2 ⟨i,hi,rfl⟩
 rw [hws] at this
 obtain ⟨j,h1,h2,h3⟩:=mem_wsL.1 this
 rw [← hws] at h3
 unfold wv
 rw [h3]
 exact ⟨by omega,h1,h2⟩
theorem rest_W:(restPM p ws).W.toNat=ws.length:=by simp [restPM]
variable {a:Nat} (ha:a < p.cell.length)
include ha
omit ha in
theorem val_rest {k:Hd} (hk:Prp k) {x x' y y':BitVec 64} (hx : ∀ i,i < ws.length→x'.getLsbD i=x.getLsbD (wv ws i)) (hy : ∀ i,i < ws.length→y'.getLsbD i=y.getLsbD (wv ws i)) {i:Nat} (hi:i < ws.length) :
  (valL (restPM p ws) k x' y').getLsbD i=(valL p k x y).getLsbD (wv ws i):=by
 obtain ⟨a,b⟩:=hk
 have:k.op=1∨k.op=2∨k.op=3∨k.op=4∨k.op=5∨k.op=6∨k.op=7∨k.op=8:=by omega
 have h64:=W64 hcq
 rw [rest_W hc0 hws hcq] at h64
 have e1:(allL (restPM p ws).W).getLsbD i=true:=(all_bit hcq).2 (by rw [rest_W hc0 hws hcq];exact hi)
 have hw:=w_lt hc0 hws hcq hi
 have e2:(allL p.W).getLsbD (wv ws i)=true:=(all_bit hc0).2 hw.2.1
 have h64':=W64 hc0
 have l1:i < 64:=by omega
 have l2:wv ws i < 64:=by omega
 have hx:=hx i hi
 have hy:=hy i hi
 unfold valL
 rcases this with e|e|e|e|e|e|e|e
 ·rw [e];exact e1.trans e2.symm
 ·rw [e];show (0#64).getLsbD i=(0#64).getLsbD _;simp
 ·rw [e]
  show ((p.val.map fun v=>packN v ws ws.length).getD k.i.toNat 0#64).getLsbD i=(p.val.getD k.i.toNat 0#64).getLsbD (wv ws i)
  rw [List.getD,List.getD,List.getElem?_map]
  cases p.val[k.i.toNat]? with
  | none=>simp
  | some v =>
   show (packN v ws ws.length).getLsbD i=v.getLsbD (wv ws i)
   rw [packN_bit,decide_eq_true l1,decide_eq_true hi];rfl
 ·rw [e]
  show (allL (restPM p ws).W &&& ~~~x').getLsbD i=(allL p.W &&& ~~~x).getLsbD (wv ws i)
  simp only [BitVec.getLsbD_and,BitVec.getLsbD_or,BitVec.getLsbD_not,BitVec.getLsbD_xor,e1,e2,hx,hy,l1,l2,decide_true,Bool.true_and]
 ·rw [e]
  show (x'&&&y').getLsbD i=(x&&&y).getLsbD (wv ws i)
  simp only [BitVec.getLsbD_and,BitVec.getLsbD_or,BitVec.getLsbD_not,BitVec.getLsbD_xor,e1,e2,hx,hy,l1,l2,decide_true,Bool.true_and]
 ·rw [e]
  show (x'|||y').getLsbD i=(x|||y).getLsbD (wv ws i)
  simp only [BitVec.getLsbD_and,BitVec.getLsbD_or,BitVec.getLsbD_not,BitVec.getLsbD_xor,e1,e2,hx,hy,l1,l2,decide_true,Bool.true_and]
 ·rw [e]
  show (allL (restPM p ws).W &&& ~~~x'|||y').getLsbD i=(allL p.W &&& ~~~x|||y).getLsbD (wv ws i)
  simp only [BitVec.getLsbD_and,BitVec.getLsbD_or,BitVec.getLsbD_not,BitVec.getLsbD_xor,e1,e2,hx,hy,l1,l2,decide_true,Bool.true_and]
 ·rw [e]
  show (allL (restPM p ws).W &&& ~~~(x' ^^^ y')).getLsbD i=(allL p.W &&& ~~~(x ^^^ y)).getLsbD (wv ws i)
  simp only [BitVec.getLsbD_and,BitVec.getLsbD_or,BitVec.getLsbD_not,BitVec.getLsbD_xor,e1,e2,hx,hy,l1,l2,decide_true,Bool.true_and]
omit ha in
theorem ev_rest : ∀ {t:Tm},t.all Prp → ∀ i,i < ws.length→(ev (valL (restPM p ws)) 0#64 t).getLsbD i=(ev (valL p) 0#64 t).getLsbD (wv ws i)
 | .z h,ht,i,hi=>val_rest hc0 hws hcq ht (fun _ _=>by simp) (fun _ _=>by simp) hi
 | .u h x,ht,i,hi=>val_rest hc0 hws hcq ht.1 (fun j hj=>ev_rest ht.2 j hj) (fun _ _=>by simp) hi
 | .b h x y,ht,i,hi=>val_rest hc0 hws hcq ht.1 (fun j hj=>ev_rest ht.2.1 j hj) (fun j hj=>ev_rest ht.2.2 j hj) hi
end
end Go.Ab
namespace Go.Ab
open Go
set_option linter.unusedVariables false
set_option linter.unusedSimpArgs false
theorem val_in {p:PM} (hc0:checkL p=0) {k:Hd} (hk:Prp k) {x y:BitVec 64} (hx : ∀ i,x.getLsbD i=true→i < p.W.toNat) (hy : ∀ i,y.getLsbD i=true→i < p.W.toNat) {i:Nat} (h:(valL p k x y).getLsbD i=true):i < p.W.toNat:=by
 obtain ⟨a,b⟩:=hk
 have:k.op=1∨k.op=2∨k.op=3∨k.op=4∨k.op=5∨k.op=6∨k.op=7∨k.op=8:=by omega
 have hg:=checkL_good hc0
 have hw:=hg.w1
 unfold valL at h
 rcases this with e|e|e|e|e|e|e|e<;>rw [e] at h
 ·exact (all_bit hc0).1 h
 ·have h:(0#64).getLsbD i=true:=h
  simp at h
 ·have h:(p.val.getD k.i.toNat 0#64).getLsbD i=true:=h
  rw [List.getD] at h
  cases hv:p.val[k.i.toNat]? with
  | none=>rw [hv] at h;simp at h
  | some v =>
   rw [hv] at h
   have:=(bad_false (by omega)).1 (hg.val v (List.mem_of_getElem? hv)) i h
   omega
 ·have h:(allL p.W &&& ~~~x).getLsbD i=true:=h
  exact (all_bit hc0).1 (not_bit.1 h).1
 ·have h:(x&&&y).getLsbD i=true:=h
  exact hx i (and_bit.1 h).1
 ·have h:(x|||y).getLsbD i=true:=h
  rcases or_bit.1 h with h|h
  ·exact hx i h
  ·exact hy i h
 ·have h:(allL p.W &&& ~~~x|||y).getLsbD i=true:=h
  rcases or_bit.1 h with h|h
  ·exact (all_bit hc0).1 (not_bit.1 h).1
  ·exact hy i h
 ·have h:(allL p.W &&& ~~~(x ^^^ y)).getLsbD i=true:=h
  exact (all_bit hc0).1 (not_bit.1 h).1
theorem ev_in {p:PM} (hc0:checkL p=0) : ∀ {t:Tm},t.all Prp → ∀ i,(ev (valL p) 0#64 t).getLsbD i=true→i < p.W.toNat
 | .z h,ht,i,hi=>val_in hc0 ht (fun _ h=>by simp at h) (fun _ h=>by simp at h) hi
 | .u h x,ht,i,hi=>val_in hc0 ht.1 (ev_in hc0 ht.2) (fun _ h=>by simp at h) hi
 | .b h x y,ht,i,hi=>val_in hc0 ht.1 (ev_in hc0 ht.2.1) (ev_in hc0 ht.2.2) hi
theorem in_all {p:PM} (hc0:checkL p=0) {x:BitVec 64} (h : ∀ i,x.getLsbD i=true→i < p.W.toNat):x &&& ~~~(allL p.W)=0#64:=by
 refine u_ext fun i=>?_
 rw [not_bit]
 exact ⟨fun ⟨h1,h2⟩=>absurd ((all_bit hc0).2 (h i h1)) h2,fun h=>by simp at h⟩
theorem plain_rest {p:PM} (hc0:checkL p=0) {f:List Nd} (h:PlF p f) : ∃ x,Fm p f x 30∧(∀ i,x.getLsbD i=true→i < p.W.toNat) ∧
  ∀ (F:BitVec 64) (ws:List Int),ws=wsL F p.W.toNat→checkL (restPM p ws)=0 → ∃ y,Fm (restPM p ws) f y 30 ∧ ∀ i,i < ws.length→y.getLsbD i=x.getLsbD (wv ws i):=by
 obtain ⟨h0,h1,h2⟩:=h
 obtain ⟨t,ht,hp⟩:=prop_ok (checkL_good hc0) h1 h2
 exact ⟨_,⟨⟨t,ht,rfl⟩,h0⟩,ev_in hc0 hp,fun F ws hws hcq=>⟨_,⟨⟨t,okT_move (by simp [restPM]) (by simp [restPM]) ht,rfl⟩,h0⟩,ev_rest hc0 hws hcq hp⟩⟩
end Go.Ab
namespace Go.Ab
open Go
set_option linter.unusedVariables false
set_option linter.unusedSimpArgs false
theorem rad_twice {p:PM} (hc0:checkL p=0) (F:BitVec 64):upL (upL p fun _ _=>F) (fun _ _=>F)=upL p fun _ _=>F:=by
 have key : ∀ a∈List.range p.cell.length,upR (upL p fun _ _=>F) (fun _ _=>F) a=upR p (fun _ _=>F) a:=fun a ha=>by
  have ha:=List.mem_range.1 ha
  have hq:=up_check hc0 (fun _ _=>F)
  have haq:a < (upL p fun _ _=>F).cell.length:=ha
  refine List.map_congr_left fun w hw=>?_
  have hw:=List.mem_range.1 hw
  have hw:w < p.W.toNat:=hw
  have e:=dense_iso (W:=p.W.toNat) (B:=2 * p.W.toNat) (B':=2 * p.W.toNat) (cl:=clA p a) (kN:=keyN p (fun _ _=>F) a) (kN':=keyN (upL p fun _ _=>F) (fun _ _=>F) a) (keyN_range hc0 ha) (keyN_range hq haq) (fun u v hu hv hcl=>?_) _ w hw rfl
  ·exact congrArg Int.ofNat e
  have hu':InC p a v u:=⟨hu,hcl⟩
  have hv':InC p a v v:=⟨hv,rfl⟩
  have h1:=up_le hc0 ha hu' hv' (fs:=fun _ _=>F)
  have h2:=up_le hc0 ha hv' hu' (fs:=fun _ _=>F)
  have r1:=rk_lt hq haq (w:=u) hu
  have r2:=rk_lt hq haq (w:=v) hv
  have r3:=rk_lt hc0 ha hu
  have r4:=rk_lt hc0 ha hv
  have eW:(upL p fun _ _=>F).W=p.W:=rfl
  rw [eW] at r1 r2
  unfold keyN at h1 h2 ⊢
  by_cases f1:F.getLsbD u=true<;>by_cases f2:F.getLsbD v=true<;>simp only [f1,f2,if_true,if_false,Bool.false_eq_true,eW] at h1 h2 ⊢ <;> omega
 show (⟨_,_,_,_⟩:PM)=⟨_,_,_,_⟩
 congr 1
 exact List.map_congr_left key
section
variable {p:PM} (hc0:checkL p=0) {a:Nat} (ha:a < p.cell.length) {F:BitVec 64} {w:Nat} (h:(possL p a F).getLsbD w=true)
include hc0 ha h
theorem rad_believes:(believesL (upL p fun _ _=>F) a (allL p.W) F).getLsbD w=true:=by
 obtain ⟨hw,v,h1,h2⟩:=(poss_iff hc0 ha).1 h
 rw [rad_bel hc0 ha,if_pos ⟨v,h1,and_bit.2 ⟨h2,(all_bit hc0).2 h1.1⟩⟩,believes_bit hc0 ha]
 exact ⟨hw,fun u _ hu _=>(and_bit.1 hu).1⟩
theorem con_believes:(believesL (upL p fun a w=>bestL p a w F) a (allL p.W) F).getLsbD w=true:=by
 obtain ⟨hw,v,h1,h2⟩:=(poss_iff hc0 ha).1 h
 obtain ⟨m,hm⟩:=mn_ex hc0 ha hw h1 h2
 rw [con_bel hc0 ha,if_pos ⟨m,hm.cell,⟨hm.cond,hm.best⟩,(all_bit hc0).2 hm.cell.1⟩,believes_bit hc0 ha]
 exact ⟨hw,fun u _ hu _=>(and_bit.1 hu).1⟩
theorem rad_strong:StrongP (upL p fun _ _=>F) a F w:=by
 obtain ⟨hw,v,h1,h2⟩:=(poss_iff hc0 ha).1 h
 have al:=alike_up hc0 (fun _ _=>F)
 have hat:At p a w:=at_of hc0 ha hw
 have cb : ∀ i,(cellL (upL p fun _ _=>F) a w).getLsbD i=true↔InC p a w i:=fun i=>by
  rw [al.cellL,cellL_bit hat];rfl
 refine ⟨fun u hu v hv g1 g2=>?_,fun h0=>?_⟩
 ·rw [and_bit,cb] at g1
  rw [not_bit,cb] at g2
  have h3:=up_le hc0 ha g2.1 g1.1 (fs:=fun _ _=>F)
  have r1:=rk_lt hc0 ha (w:=u) hu
  have r2:=rk_lt hc0 ha (w:=v) hv
  unfold keyN at h3
  rw [if_pos g1.2,if_neg g2.2] at h3
  have h4 : ¬rkA (upL p fun _ _=>F) a v≤rkA (upL p fun _ _=>F) a u:=fun hh=>by have:=h3.1 hh;omega
  unfold rkA at h4
  rw [Int.toNat_natCast]
  omega
 ·have:(cellL (upL p fun _ _=>F) a w&&&F).getLsbD v=true:=and_bit.2 ⟨(cb v).2 h1,h2⟩
  rw [h0] at this;simp at this
end
theorem strong_val {p:PM} (hc0:checkL p=0) {a:Nat} (ha:a < p.cell.length) {F:BitVec 64} (hF:F &&& ~~~(allL p.W)=0#64):StrongL p a F=(setTo (fun w=>decide (StrongP p a F w)) p.W.toNat,0):=by
 have:reqL p a F=0:=by
  unfold reqL
  rw [if_neg (not_not_intro hc0),if_neg]
  rintro (h|h|h)
  ·omega
  ·omega
  ·exact h hF
 rw [StrongL,if_neg (not_not_intro this)]
theorem bel_thm {p:PM} (hc0:checkL p=0) {a:Nat} (ha:a < p.cell.length) {F:BitVec 64} :
  possL p a F &&& ~~~(believesL (upL p fun _ _=>F) a (allL p.W) F&&&believesL (upL p fun a w=>bestL p a w F) a (allL p.W) F&&&setTo (fun w=>decide (StrongP (upL p fun _ _=>F) a F w)) p.W.toNat)=0#64:=by
 refine u_ext fun w=>?_
 refine ⟨fun hh=>?_,fun h=>by simp at h⟩
 obtain ⟨h1,h2⟩:=not_bit.1 hh
 have h1:(possL p a F).getLsbD w=true:=h1
 exact absurd (and_bit.2 ⟨and_bit.2 ⟨rad_believes hc0 ha h1,con_believes hc0 ha h1⟩,(set_bit (W64 hc0)).2 ⟨((poss_iff hc0 ha).1 h1).1,decide_eq_true (rad_strong hc0 ha h1)⟩⟩) h2
end Go.Ab
namespace Go.Ab
open Go Go.Proofs
set_option linter.unusedSimpArgs false
set_option linter.unusedVariables false
set_option maxRecDepth 10000
set_option maxHeartbeats 4000000
variable {T:Nat→Obj→Prop}
theorem rO:RanksOwn T:=fun _ _ h1 h2=>ranks_own h1 h2
theorem plain_fm {p:PM} (hc0:checkL p=0) {f:List Nd} (h:PlF p f) : ∃ x,Fm p f x 30 ∧ ∀ q:PM,q.W=p.W→q.val=p.val→q.cell.length=p.cell.length→Fm q f x 30:=by
 obtain ⟨h0,h1,h2⟩:=h
 obtain ⟨t,ht,hp⟩:=prop_ok (checkL_good hc0) h1 h2
 exact ⟨_,⟨⟨t,ht,rfl⟩,h0⟩,fun q hW hv hc=>⟨⟨t,okT_move hc (by rw [hv]) ht,ev_prop hW hv hp⟩,h0⟩⟩
theorem fn_holdsS (hR:RanksOk T) (p:PM) (hp:IntsOk p.rank) {f:List Nd} {x:BitVec 64} (h:holdsL p f=(x,0)):Fn Tryz.prog T f_wittinglaw36_holds [.d (dPM p),.d (dF f)] [] (.d (.tup [.u64 x,.bool true])) []:=by
 have c:=fn_holdsU (T:=T) hR p hp f
 rwa [h] at c
end Go.Ab
namespace Go.Ab
open Go Go.Proofs
set_option linter.unusedSimpArgs false
set_option linter.unusedVariables false
set_option maxRecDepth 10000
set_option maxHeartbeats 4000000
variable {T:Nat→Obj→Prop}
theorem law_Believes (p:PM) (hp:IntsOk p.rank) (f:List Nd):Fn Tryz.prog T f_wittinglaw36_UpgradeBelieves [.d (dPM p),.d (dF f)] [] (.d (.bool true)) []:=by
 have hR:=ranks_ok (T:=T)
 have hA:=fn_awakeU (T:=T) hR rO
 by_cases hpl:plainL p f f f
 ·have hP:=fn_plain (T:=T) hR p hp f f f (b:=true) (iff_of_true rfl hpl)
  obtain ⟨-,hc0,hn0,pf,-,-⟩:=hpl
  obtain ⟨F,fF,qF⟩:=plain_fm hc0 pf
  obtain ⟨F',fF',iF,-⟩:=plain_rest hc0 pf
  obtain rfl:F'=F:=congrArg Prod.fst ((fF'.holds hc0).symm.trans (fF.holds hc0))
  have hin:=in_all hc0 iF
  have cF:=fn_holdsS hR p hp (fF.holds hc0)
  have cR:=fn_Radical hR p hp f
  rw [show radL p f=(upL p fun _ _=>F',0) by rw [radL,fF.holds hc0];rfl] at cR
  have cC:=fn_Conservative hR p hp f
  rw [show conL p f=(upL p fun a w=>bestL p a w F',0) by rw [conL,fF.holds hc0];rfl] at cC
  have al:=alike_up hc0 (fun _ _=>F')
  have bl:=alike_up hc0 (fun a w=>bestL p a w F')
  have gF:=qF (upL p fun _ _=>F') rfl rfl rfl
  have kF:=qF (upL p fun a w=>bestL p a w F') rfl rfl rfl
  have hlen:(upL p fun _ _=>F').cell.length=p.cell.length:=rfl
  have hlen2:(upL p fun a w=>bestL p a w F').cell.length=p.cell.length:=rfl
  have cT:=fn_Radical hR (upL p fun _ _=>F') (ints_of al.cq) f
  rw [show radL (upL p fun _ _=>F') f=(upL p fun _ _=>F',0) by rw [radL,gF.holds al.cq];exact congrArg (·,(0:Int)) (rad_twice hc0 F')] at cT
  have key:=fun a (ha:a < p.cell.length)=>bel_thm hc0 ha (F:=F')
  have hS:=fun a (ha:a < p.cell.length)=>strong_val al.cq (show a < (upL p fun _ _=>F').cell.length from ha) (F:=F') hin
  have eW1:(upL p fun _ _=>F').W=p.W:=rfl
  have eW2:(upL p fun a w=>bestL p a w F').W=p.W:=rfl
  generalize hq:(upL p fun _ _=>F')=q at *
  generalize hr:(upL p fun a w=>bestL p a w F')=r at *
  have cS:=fn_ref33_Same (T:=T) q q
  rw [decide_eq_true rfl] at cS
  refine fn_dataR hmix k_wittinglaw36_UpgradeBelieves (by show 2≤135;decide) ?_
  (repeat' ((conv=>whnf);first|refine vA ?_|refine vE ?_|refine vG ?_|refine vH ?_|(refine vO ?_ ?_;·omega)|refine yD hP ⟨⟨rfl,rfl⟩,⟨rfl,rfl⟩,rfl⟩ rfl ?_|refine yN cF ⟨⟨rfl,rfl⟩,⟨rfl,rfl⟩,rfl⟩ ?_|refine yN cR ⟨⟨rfl,rfl⟩,⟨rfl,rfl⟩,rfl⟩ ?_|refine yN cC ⟨⟨rfl,rfl⟩,⟨rfl,rfl⟩,rfl⟩ ?_|refine yN cT ⟨⟨rfl,rfl⟩,⟨rfl,rfl⟩,rfl⟩ ?_|refine yD cS ⟨⟨rfl,rfl⟩,⟨rfl,rfl⟩,rfl⟩ rfl ?_));all_goals try conv=>whnf
  refine loop_mem (fun (k:Nat)=>[(1,.d (dF f)),(2,.ptr 0 0),(5,.d (.u64 (F'))),(7,.ptr 1 0),(9,.ptr 2 0),(13,.d (.int .i64 ((k:Int))))]) (fun (k:Nat)=>[(0,some (boxPM p)),(1,some (boxPM q)),(2,some (boxPM r))]) 3 (fun (k:Nat)=>k≤p.cell.length) (fun (k:Nat)=>p.cell.length - k) (0) [(0,0),(1,1),(2,2)] [] (by simp) (by (refine ⟨rfl,rfl,rfl,?_,?_⟩;repeat' first|exact trivial|exact rfl|refine And.intro ?_ ?_|refine ⟨_,rfl,?_⟩|decide)) ?_
  rintro k hk
  by_cases hkl:k < p.cell.length
  ·have s1:=fn_holdsS hR p hp ((Fm.poss hc0 fF hkl (by omega)).holds hc0)
   have s2:=fn_holdsS hR q (ints_of al.cq) ((Fm.belief (a:=k) al.cq Fm.tru gF (by omega) (by omega)).holds al.cq) (T:=T)
   have s3:=fn_holdsS hR r (ints_of bl.cq) ((Fm.belief (a:=k) bl.cq Fm.tru kF (by omega) (by omega)).holds bl.cq) (T:=T)
   have s4:=fn_Strong hR q (ints_of al.cq) k F'
   rw [hS k hkl] at s4
   have kk:=key k hkl
   rw [eW1] at s2 s4
   rw [eW2] at s3
   (repeat' ((conv=>whnf);first|refine vA ?_|(refine vF ?_ ?_<;>intro hc<;>try simp only [vL] at hc)|refine vJ fun hg=>?_));all_goals try conv=>whnf
   conv=>arg 2;whnf
   refine CallS.dataN (fn_FPoss _ _) (by (repeat refine ⟨⟨rfl,rfl⟩,?_⟩);rfl) ?_
   (repeat' ((conv=>whnf);fail));all_goals try conv=>whnf
   conv=>arg 2;whnf
   refine CallS.data (s1) (by (repeat refine ⟨⟨rfl,rfl⟩,?_⟩);rfl) rfl ?_
   (repeat' ((conv=>whnf);first|refine vA ?_|(refine vU ?_ ?_;·kernel_rfl)|fail));all_goals try conv=>whnf
   conv=>arg 2;whnf
   refine CallS.dataN (fn_FTrue) (by (repeat refine ⟨⟨rfl,rfl⟩,?_⟩);rfl) ?_
   (repeat' ((conv=>whnf);fail));all_goals try conv=>whnf
   conv=>arg 2;whnf
   refine CallS.dataN (fn_FBelief _ _ _) (by (repeat refine ⟨⟨rfl,rfl⟩,?_⟩);rfl) ?_
   (repeat' ((conv=>whnf);fail));all_goals try conv=>whnf
   conv=>arg 2;whnf
   refine CallS.data (s2) (by (repeat refine ⟨⟨rfl,rfl⟩,?_⟩);rfl) rfl ?_
   (repeat' ((conv=>whnf);first|refine vA ?_|(refine vU ?_ ?_;·kernel_rfl)|fail));all_goals try conv=>whnf
   conv=>arg 2;whnf
   refine CallS.dataN (fn_FTrue) (by (repeat refine ⟨⟨rfl,rfl⟩,?_⟩);rfl) ?_
   (repeat' ((conv=>whnf);fail));all_goals try conv=>whnf
   conv=>arg 2;whnf
   refine CallS.dataN (fn_FBelief _ _ _) (by (repeat refine ⟨⟨rfl,rfl⟩,?_⟩);rfl) ?_
   (repeat' ((conv=>whnf);fail));all_goals try conv=>whnf
   conv=>arg 2;whnf
   refine CallS.data (s3) (by (repeat refine ⟨⟨rfl,rfl⟩,?_⟩);rfl) rfl ?_
   (repeat' ((conv=>whnf);first|(refine vU ?_ ?_;·kernel_rfl)|fail));all_goals try conv=>whnf
   conv=>arg 2;whnf
   refine CallS.data (s4) (by (repeat refine ⟨⟨rfl,rfl⟩,?_⟩);rfl) rfl ?_
   (repeat' ((conv=>whnf);first|refine vA ?_|refine vE ?_|refine vG ?_|refine vH ?_|(refine vD ?_ ?_<;>intro hc<;>try simp only [vL] at hc)|(refine vO ?_ ?_;·omega)|refine vZ ?_));all_goals try conv=>whnf
   ·exact absurd kk hc
   ·exact ⟨k+1,[(0,0),(1,1),(2,2)],[],by (omega),by (omega),by (refine ⟨rfl,rfl,rfl,?_,?_⟩;repeat' first|exact trivial|exact rfl|refine And.intro ?_ ?_|refine ⟨_,rfl,?_⟩|decide)⟩
   ·omega
  ·(repeat' ((conv=>whnf);first|refine vA ?_|(refine vF ?_ ?_<;>intro hc<;>try simp only [vL] at hc)|refine vJ fun hg=>?_|refine vZ ?_|refine yD hA rfl rfl ?_));all_goals try conv=>whnf
   all_goals omega
 ·have hP:=fn_plain (T:=T) hR p hp f f f (b:=false) (iff_of_false (by decide) hpl)
  refine fn_dataR hmix k_wittinglaw36_UpgradeBelieves (by show 2≤135;decide) ?_
  (repeat' ((conv=>whnf);first|refine vA ?_|refine vE ?_|refine vH ?_|refine vZ ?_|refine yD hP ⟨⟨rfl,rfl⟩,⟨rfl,rfl⟩,rfl⟩ rfl ?_|refine yD hA rfl rfl ?_));all_goals try conv=>whnf
end Go.Ab
namespace Go.Proofs.YtmaiaomgcpbccaaGreat
open Go Go.Ab Go.RowKit Go.ChangeShapes Go.WideShapes
set_option linter.unusedVariables false
set_option maxRecDepth 100000 in
theorem upgradeBelieves_holds:Rows.UpgradeBelievesSaid :=
 OpenClaim.holds_of_wide 9 Tryz.f9 rfl rfl rfl rfl rfl rfl rfl ⟨rfl,rfl,rfl,rfl,rfl⟩ rfl rfl rfl rfl rfl (by kernel_rfl) Tryz.func9 (by kernel_rfl)
  (of_decide_eq_true (by kernel_rfl)) (by unfold Func.isWrapper;rw [if_neg (of_decide_eq_false (by kernel_rfl))];exact ⟨rfl,rfl⟩)
  (fun os started H enc _=>strip_of <| law_lifted (C:=Tryz.checked) (s:=Rows.upgradeBelievesSpec) (laid:=[]) knob started (by kernel_rfl) Tryz.func9 laidOut [25,26] Tryz.params9 rfl Tryz.underlying4 rfl (by kernel_rfl)
   (fun ds hds=>by match ds,hds with|[d1,d2],_=>rfl)
   (ChangeSpec.witness_shaped (enc:=enc) (C:=Tryz.checked) (os:=os) (X:=fun w _=>laidMetH Tryz.prog [] w) false (World.doorLaid Tryz.prog 14 os)
    #[.agg #[.int .i64 0,.slice none 0 0,.slice none 0 0,.slice none 0 0],.slice none 0 0] 8 rfl (World.shaped_of_RefB (by kernel_rfl) (by kernel_rfl)) (by kernel_rfl) (by kernel_rfl) (by kernel_rfl) laid_nil)
   (fun W hL=>⟨noT,fun b o h=>h.elim,fun b h=>h.elim fun o h=>h.elim,fun ds hds=>by
    obtain ⟨p1,r,rfl,hc1,hp1,k1⟩:=arg_plaus hds
    obtain ⟨f2,r,rfl,k2⟩:=arg_form k1
    obtain rfl:=arg0 k2
    exact Ab.law_Believes p1 hp1 f2⟩))
end Go.Proofs.YtmaiaomgcpbccaaGreat
