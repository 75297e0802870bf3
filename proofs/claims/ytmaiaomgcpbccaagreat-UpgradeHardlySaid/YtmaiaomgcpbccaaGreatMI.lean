/- What is proved here: the law UpgradeHardly returns true at every input and leaves its arguments as they were. There is no further condition. -/
import Derived.Test.YtmaiaomgcpbccaaGreatMH
set_option linter.unusedVariables false
set_option linter.unusedSimpArgs false
set_option linter.unusedSectionVars false
namespace Go.Ab
open Go Go.Proofs
section
open K
def f_wittinglaw36_UpgradeHardly:Nat:=6
def c_wittinglaw36_UpgradeHardly:CFn:=⟨150,[.tmp 6],(q [(.reg [o 3 (.box 4 (t 0)),o 4 (.box 3 (t 1)),o 6 (.mv (c .bf))]),
 (q [(.reg [o 21 (la 4 3),o 22 (la 3 4),o 23 (.call 26 [(t 21),(t 22)]),o 24 (.un .not (t 23))]),
 (i 24 (q [(.reg [o 25 (.call 12 []),o 6 (m 25)]),
 .ret]) .skip)]),
 (.reg [o 26 (m 2),o 27 (.conv .i64 (t 26)),o 28 (f 2 3),o 29 (l 28),o 30 (ln 29),o 31 (b .rem 27 30),o 7 (m 31)]),
 (.regd [o 32 (.iaddrA 3 1 (t 4) (c (n 0))),o 33 (l 32),o 34 (.iaddrA 3 1 (t 4) (c (n 1))),o 35 (l 34),o 36 (.iaddrA 3 1 (t 4) (c (n 2))),o 37 (l 36),o 8 (m 33),o 9 (m 35),o 10 (m 37)] [0,1,0,4,0,16,3,79,255]),
 (.reg [o 39 (la 4 3),o 40 (m 8),o 41 (.call 27 [(t 39),(t 40)]),o 38 (m 41),o 42 (e 38 0),o 43 (e 38 1),o 11 (m 42),o 12 (m 43)]),
 (.reg [o 45 (la 4 3),o 46 (m 8),o 47 (.call 13 [(t 45),(t 46)]),o 44 (m 47),o 48 (e 44 0),o 49 (e 44 1),o 50 (e 44 2),o 13 (.alloc [(n 0),(.nils 1),(.nils 1),(.nils 1)]),w (.store 4 (t 13) (t 48)),o 14 (m 49),o 15 (m 50)]),
 (q [(.reg [o 51 (m 12),o 52 (.un .not (t 51)),o 53 (m 52),g 54 53 false (m 15),g 55 53 false (bc .eql 54 (n 11)),o 56 (pt 53 55)]),
 (i 56 (q [(.reg [o 57 (m 12),o 58 (m 57),g 59 58 true (m 11),g 60 58 true (bc .eql 59 (u 0)),o 61 (pf 58 60),o 62 (m 61),g 63 62 true (.call 12 []),o 64 (pf 62 63),o 6 (m 64)]),
 .ret]) .skip)]),
 (.regd [o 66 (la 4 13),o 67 (m 7),o 68 (m 9),o 69 (m 10),o 70 (.call 28 [(t 67),(t 68),(t 69)]),o 71 (.call 27 [(t 66),(t 70)]),o 65 (m 71),o 72 (e 65 0),o 73 (e 65 1),o 16 (m 72),o 17 (m 73)] [0,0,0,0,14,31,63,127,127,255,1023]),
 (.regd [o 75 (la 4 3),o 76 (m 7),o 77 (m 8),o 78 (m 9),o 79 (.call 29 [(t 77),(t 78)]),o 80 (m 10),o 81 (.call 28 [(t 76),(t 79),(t 80)]),o 82 (.call 27 [(t 75),(t 81)]),o 74 (m 82),o 83 (e 74 0),o 84 (e 74 1),o 18 (m 83),o 19 (m 84)] [0,0,0,0,12,0,62,127,255,511,511,1023,4095]),
 (q [(.reg [o 85 (m 15),o 86 (bc .neq 85 (n 0)),o 87 (m 86),g 88 87 false (m 17),g 89 87 false (.un .not (t 88)),o 90 (pt 87 89),o 91 (m 90),g 92 91 false (m 19),g 93 91 false (.un .not (t 92)),o 94 (pt 91 93),o 95 (m 94),g 96 95 false (m 14),g 97 95 false (ln 96),g 98 95 false (f 0 13),g 99 95 false (l 98),g 100 95 false (b .neq 97 99),o 101 (pt 95 100)]),
 (i 101 (q [(.reg [o 6 (.mv (c .bf))]),
 .ret]) .skip)]),
 (q [(.reg [o 20 (.mv (c (n 0)))]),
 (.block 0 (.loop (q [(q [(.reg [o 102 (m 20),o 103 (m 14),o 104 (ln 103),o 105 (b .lss 102 104)]),
 (i 105 .skip (.exit 0))]),
 (.block 1 (q [(.regd [o 108 (m 14),o 109 (m 20),o 110 (ia 1 108 109),o 111 (l 110),o 112 (bc .lss 111 (n 0)),o 113 (m 112),g 114 113 false (m 14),g 115 113 false (m 20),g 116 113 false (ia 1 114 115),g 117 113 false (l 116),g 118 113 false (f 0 3),g 119 113 false (l 118),g 120 113 false (b .geq 117 119),o 121 (pt 113 120),o 122 (m 121),g 123 122 false (m 11),g 124 122 false (m 14),g 125 122 false (m 20),g 126 122 false (ia 1 124 125),g 127 122 false (l 126),g 128 122 false (.conv .u64 (t 127)),g 129 122 false (b .shr 123 128),g 130 122 false (bc .and 129 (u 1)),g 131 122 false (bc .eql 130 (u 0)),o 132 (pt 122 131),o 133 (m 132),g 134 133 false (m 16),g 135 133 false (m 20),g 136 133 false (.conv .u64 (t 135)),g 137 133 false (b .shr 134 136),g 138 133 false (bc .and 137 (u 1)),g 139 133 false (m 18),g 140 133 false (m 14),g 141 133 false (m 20),g 142 133 false (ia 1 140 141),g 143 133 false (l 142),g 144 133 false (.conv .u64 (t 143)),g 145 133 false (b .shr 139 144),g 146 133 false (bc .and 145 (u 1)),g 147 133 false (b .neq 138 146),o 148 (pt 133 147)] [0,0,3,7,15,31,63,63,255,511,63,1087,4095,8191,16383,32767,32767,32767,229375,491519,1015807,2097151,4194303,8388607,16777215,33554431,67108863,67108863,201326591,536870911,1073741823,67108863,67108863,67108863,12952010751,30131879935,64491618303,135358578687,272797532159,549755813887,1099511627775]),
 (i 148 (q [(.reg [o 6 (.mv (c .bf))]),
 .ret]) .skip)])),
 (.reg [o 106 (m 20),o 107 (bc .add 106 (n 1)),o 20 (m 107)])])))]),
 (.reg [o 149 (.call 12 []),o 6 (m 149)]),
 .ret])⟩
end
theorem k_wittinglaw36_UpgradeHardly:compFn Tryz.prog f_wittinglaw36_UpgradeHardly=some c_wittinglaw36_UpgradeHardly:=by kernel_rfl
end Go.Ab
namespace Go.Ab
open Go
set_option linter.unusedVariables false
set_option linter.unusedSimpArgs false
set_option linter.unusedSectionVars false
abbrev wv (ws:List Int) (i:Nat):Nat:=(at0 ws i).toNat
section
variable {p:PM} (hc0:checkL p=0) {F:BitVec 64} {ws:List Int} (hws:ws=wsL F p.W.toNat) (hcq:checkL (restPM p ws)=0)
include hc0 hws hcq
theorem w_lt {i:Nat} (hi:i < ws.length):0≤at0 ws i∧wv ws i < p.W.toNat∧F.getLsbD (wv ws i)=true:=by
 have:at0 ws i∈ws:=mem_at0.2 ⟨i,hi,rfl⟩
 rw [hws] at this
 obtain ⟨j,h1,h2,h3⟩:=mem_wsL.1 this
 rw [← hws] at h3
 unfold wv
 rw [h3]
 exact ⟨by omega,h1,h2⟩
theorem w_ex {v:Nat} (hv:v < p.W.toNat) (hF:F.getLsbD v=true) : ∃ i,i < ws.length∧wv ws i=v:=by
 have:(v:Int)∈ws:=by rw [hws];exact mem_wsL.2 ⟨v,hv,hF,rfl⟩
 obtain ⟨i,hi,e⟩:=mem_at0.1 this
 exact ⟨i,hi,by unfold wv;rw [e];rfl⟩
theorem rest_W:(restPM p ws).W.toNat=ws.length:=by simp [restPM]
variable {a:Nat} (ha:a < p.cell.length)
include ha
theorem rest_cell:rowAt (restPM p ws).cell a=cell2 p ws a:=by
 show rowAt ((List.range p.cell.length).map (cell2 p ws)) a=_
 exact rowAt_map (by simp [ha])
theorem rest_rank:rowAt (restPM p ws).rank a=rank3 p ws a:=by
 show rowAt ((List.range p.cell.length).map (rank3 p ws)) a=_
 exact rowAt_map (by simp [ha])
theorem rest_inC {i v:Nat} (hi:i < ws.length):InC (restPM p ws) a i v↔v < ws.length∧InC p a (wv ws i) (wv ws v):=by
 unfold InC
 rw [rest_W hc0 hws hcq,rest_cell hc0 hws hcq ha]
 refine and_congr_right fun hv=>?_
 rw [cell2_eq hv hi]
 exact ⟨fun h=>⟨(w_lt hc0 hws hcq hv).2.1,h⟩,fun h=>h.2⟩
theorem rest_rk {u v:Nat} (hu:u < ws.length) (hv:v < ws.length) (h:at0 (rowAt p.cell a) (wv ws u)=at0 (rowAt p.cell a) (wv ws v)):rkA (restPM p ws) a u≤rkA (restPM p ws) a v↔rkA p a (wv ws u)≤rkA p a (wv ws v):=by
 unfold rkA
 rw [rest_rank hc0 hws hcq ha]
 exact rank3_le hu hv h
theorem bel_rest {G G' H H':BitVec 64} (hG : ∀ i,i < ws.length→G'.getLsbD i=G.getLsbD (wv ws i)) (hH : ∀ i,i < ws.length→H'.getLsbD i=H.getLsbD (wv ws i)) {i:Nat} (hi:i < ws.length) :
  (believesL (restPM p ws) a G' H').getLsbD i=(believesL p a (F&&&G) H).getLsbD (wv ws i):=by
 have hcl:a < (restPM p ws).cell.length:=by simp [restPM,ha]
 rw [Bool.eq_iff_iff,believes_bit hcq hcl,believes_bit hc0 ha,rest_W hc0 hws hcq]
 refine ⟨fun ⟨_,h⟩=>⟨(w_lt hc0 hws hcq hi).2.1,fun v h1 h2 h3=>?_⟩,fun ⟨_,h⟩=>⟨hi,fun v h1 h2 h3=>?_⟩⟩
 ·rw [and_bit] at h2
  obtain ⟨j,hj,rfl⟩:=w_ex hc0 hws hcq h1.1 h2.1
  rw [← hH j hj]
  refine h j ((rest_inC hc0 hws hcq ha hi).2 ⟨hj,h1⟩) (by rw [hG j hj];exact h2.2) fun u hu hu'=>?_
  obtain ⟨hu1,hu2⟩:=(rest_inC hc0 hws hcq ha hi).1 hu
  rw [rest_rk hc0 hws hcq ha hj hu1 (h1.2.trans hu2.2.symm)]
  exact h3 _ hu2 (and_bit.2 ⟨(w_lt hc0 hws hcq hu1).2.2,by rw [← hG u hu1];exact hu'⟩)
 ·obtain ⟨hv1,hv2⟩:=(rest_inC hc0 hws hcq ha hi).1 h1
  rw [hH v hv1]
  refine h _ hv2 (and_bit.2 ⟨(w_lt hc0 hws hcq hv1).2.2,by rw [← hG v hv1];exact h2⟩) fun u hu hu'=>?_
  rw [and_bit] at hu'
  obtain ⟨j,hj,rfl⟩:=w_ex hc0 hws hcq hu.1 hu'.1
  rw [← rest_rk hc0 hws hcq ha hv1 hj (hv2.2.trans hu.2.symm)]
  exact h3 j ((rest_inC hc0 hws hcq ha hi).2 ⟨hj,hu⟩) (by rw [hG j hj];exact hu'.2)
omit ha in
theorem val_rest {k:Hd} (hk:Prp k) {x x' y y':BitVec 64} (hx : ∀ i,i < ws.length→x'.getLsbD i=x.getLsbD (wv ws i)) (hy : ∀ i,i < ws.length→y'.getLsbD i=y.getLsbD (wv ws i)) {i:Nat} (hi:i < ws.length) :
  (valL (restPM p ws) k x' y').getLsbD i=(valL p k x y).getLsbD (wv ws i):=by
 obtain ⟨a,b⟩:=hk
 have:k.op=1∨k.op=2∨k.op=3∨k.op=4∨k.op=5∨k.op=6∨k.op=7∨k.op=8:=by omega
 have h64:=W64 hcq
 rw [rest_W hc0 hws hcq] at h64
 have e1:(allL (restPM p ws).W).getLsbD i=true:=(all_bit hcq).2 (by rw [rest_W hc0 hws hcq];exact hi)
 have hw:=w_lt hc0 hws hcq hi
 have e2:(allL p.W).getLsbD (wv ws i)=true:=(all_bit hc0).2 hw.2.1
 have h64':=W64 hc0
 have l1:i < 64:=by omega
 have l2:wv ws i < 64:=by omega
 have hx:=hx i hi
 have hy:=hy i hi
 unfold valL
 rcases this with e|e|e|e|e|e|e|e
 ·rw [e];exact e1.trans e2.symm
 ·rw [e];show (0#64).getLsbD i=(0#64).getLsbD _;simp
 ·rw [e]
  show ((p.val.map fun v=>packN v ws ws.length).getD k.i.toNat 0#64).getLsbD i=(p.val.getD k.i.toNat 0#64).getLsbD (wv ws i)
  rw [List.getD,List.getD,List.getElem?_map]
  cases p.val[k.i.toNat]? with
  | none=>simp
  | some v =>
   show (packN v ws ws.length).getLsbD i=v.getLsbD (wv ws i)
   rw [packN_bit,decide_eq_true l1,decide_eq_true hi];rfl
 ·rw [e]
  show (allL (restPM p ws).W &&& ~~~x').getLsbD i=(allL p.W &&& ~~~x).getLsbD (wv ws i)
  simp only [BitVec.getLsbD_and,BitVec.getLsbD_or,BitVec.getLsbD_not,BitVec.getLsbD_xor,e1,e2,hx,hy,l1,l2,decide_true,Bool.true_and]
 ·rw [e]
  show (x'&&&y').getLsbD i=(x&&&y).getLsbD (wv ws i)
  simp only [BitVec.getLsbD_and,BitVec.getLsbD_or,BitVec.getLsbD_not,BitVec.getLsbD_xor,e1,e2,hx,hy,l1,l2,decide_true,Bool.true_and]
 ·rw [e]
  show (x'|||y').getLsbD i=(x|||y).getLsbD (wv ws i)
  simp only [BitVec.getLsbD_and,BitVec.getLsbD_or,BitVec.getLsbD_not,BitVec.getLsbD_xor,e1,e2,hx,hy,l1,l2,decide_true,Bool.true_and]
 ·rw [e]
  show (allL (restPM p ws).W &&& ~~~x'|||y').getLsbD i=(allL p.W &&& ~~~x|||y).getLsbD (wv ws i)
  simp only [BitVec.getLsbD_and,BitVec.getLsbD_or,BitVec.getLsbD_not,BitVec.getLsbD_xor,e1,e2,hx,hy,l1,l2,decide_true,Bool.true_and]
 ·rw [e]
  show (allL (restPM p ws).W &&& ~~~(x' ^^^ y')).getLsbD i=(allL p.W &&& ~~~(x ^^^ y)).getLsbD (wv ws i)
  simp only [BitVec.getLsbD_and,BitVec.getLsbD_or,BitVec.getLsbD_not,BitVec.getLsbD_xor,e1,e2,hx,hy,l1,l2,decide_true,Bool.true_and]
omit ha in
theorem ev_rest : ∀ {t:Tm},t.all Prp → ∀ i,i < ws.length→(ev (valL (restPM p ws)) 0#64 t).getLsbD i=(ev (valL p) 0#64 t).getLsbD (wv ws i)
 | .z h,ht,i,hi=>val_rest hc0 hws hcq ht (fun _ _=>by simp) (fun _ _=>by simp) hi
 | .u h x,ht,i,hi=>val_rest hc0 hws hcq ht.1 (fun j hj=>ev_rest ht.2 j hj) (fun _ _=>by simp) hi
 | .b h x y,ht,i,hi=>val_rest hc0 hws hcq ht.1 (fun j hj=>ev_rest ht.2.1 j hj) (fun j hj=>ev_rest ht.2.2 j hj) hi
end
end Go.Ab
namespace Go.Ab
open Go
set_option linter.unusedVariables false
set_option linter.unusedSimpArgs false
theorem val_in {p:PM} (hc0:checkL p=0) {k:Hd} (hk:Prp k) {x y:BitVec 64} (hx : ∀ i,x.getLsbD i=true→i < p.W.toNat) (hy : ∀ i,y.getLsbD i=true→i < p.W.toNat) {i:Nat} (h:(valL p k x y).getLsbD i=true):i < p.W.toNat:=by
 obtain ⟨a,b⟩:=hk
 have:k.op=1∨k.op=2∨k.op=3∨k.op=4∨k.op=5∨k.op=6∨k.op=7∨k.op=8:=by omega
 have hg:=checkL_good hc0
 have hw:=hg.w1
 unfold valL at h
 rcases this with e|e|e|e|e|e|e|e<;>rw [e] at h
 ·exact (all_bit hc0).1 h
 ·have h:(0#64).getLsbD i=true:=h
  simp at h
 ·have h:(p.val.getD k.i.toNat 0#64).getLsbD i=true:=h
  rw [List.getD] at h
  cases hv:p.val[k.i.toNat]? with
  | none=>rw [hv] at h;simp at h
  | some v =>
   rw [hv] at h
   have:=(bad_false (by omega)).1 (hg.val v (List.mem_of_getElem? hv)) i h
   omega
 ·have h:(allL p.W &&& ~~~x).getLsbD i=true:=h
  exact (all_bit hc0).1 (not_bit.1 h).1
 ·have h:(x&&&y).getLsbD i=true:=h
  exact hx i (and_bit.1 h).1
 ·have h:(x|||y).getLsbD i=true:=h
  rcases or_bit.1 h with h|h
  ·exact hx i h
  ·exact hy i h
 ·have h:(allL p.W &&& ~~~x|||y).getLsbD i=true:=h
  rcases or_bit.1 h with h|h
  ·exact (all_bit hc0).1 (not_bit.1 h).1
  ·exact hy i h
 ·have h:(allL p.W &&& ~~~(x ^^^ y)).getLsbD i=true:=h
  exact (all_bit hc0).1 (not_bit.1 h).1
theorem ev_in {p:PM} (hc0:checkL p=0) : ∀ {t:Tm},t.all Prp → ∀ i,(ev (valL p) 0#64 t).getLsbD i=true→i < p.W.toNat
 | .z h,ht,i,hi=>val_in hc0 ht (fun _ h=>by simp at h) (fun _ h=>by simp at h) hi
 | .u h x,ht,i,hi=>val_in hc0 ht.1 (ev_in hc0 ht.2) (fun _ h=>by simp at h) hi
 | .b h x y,ht,i,hi=>val_in hc0 ht.1 (ev_in hc0 ht.2.1) (ev_in hc0 ht.2.2) hi
theorem in_all {p:PM} (hc0:checkL p=0) {x:BitVec 64} (h : ∀ i,x.getLsbD i=true→i < p.W.toNat):x &&& ~~~(allL p.W)=0#64:=by
 refine u_ext fun i=>?_
 rw [not_bit]
 exact ⟨fun ⟨h1,h2⟩=>absurd ((all_bit hc0).2 (h i h1)) h2,fun h=>by simp at h⟩
theorem plain_rest {p:PM} (hc0:checkL p=0) {f:List Nd} (h:PlF p f) : ∃ x,Fm p f x 30∧(∀ i,x.getLsbD i=true→i < p.W.toNat) ∧
  ∀ (F:BitVec 64) (ws:List Int),ws=wsL F p.W.toNat→checkL (restPM p ws)=0 → ∃ y,Fm (restPM p ws) f y 30 ∧ ∀ i,i < ws.length→y.getLsbD i=x.getLsbD (wv ws i):=by
 obtain ⟨h0,h1,h2⟩:=h
 obtain ⟨t,ht,hp⟩:=prop_ok (checkL_good hc0) h1 h2
 exact ⟨_,⟨⟨t,ht,rfl⟩,h0⟩,ev_in hc0 hp,fun F ws hws hcq=>⟨_,⟨⟨t,okT_move (by simp [restPM]) (by simp [restPM]) ht,rfl⟩,h0⟩,ev_rest hc0 hws hcq hp⟩⟩
theorem hard_form {p:PM} (hc0:checkL p=0) {f g h:List Nd} {F G H:BitVec 64} {a:Nat} (ha:a < p.cell.length) (hf:Fm p f F 30) (hg:Fm p g G 30) (hh:Fm p h H 30):holdsL p (bBel a (bAnd f g) h)=(believesL p a (F&&&G) H,0):=by
 have h1:=Fm.and hf hg (by omega)
 exact (Fm.belief hc0 h1 hh ha (by omega)).holds hc0
end Go.Ab
namespace Go.Ab
open Go Go.Proofs
set_option linter.unusedSimpArgs false
set_option linter.unusedVariables false
set_option maxRecDepth 10000
set_option maxHeartbeats 4000000
variable {T:Nat→Obj→Prop}
theorem rO:RanksOwn T:=fun _ _ h1 h2=>ranks_own h1 h2
theorem plain_fm {p:PM} (hc0:checkL p=0) {f:List Nd} (h:PlF p f) : ∃ x,Fm p f x 30 ∧ ∀ q:PM,q.W=p.W→q.val=p.val→q.cell.length=p.cell.length→Fm q f x 30:=by
 obtain ⟨h0,h1,h2⟩:=h
 obtain ⟨t,ht,hp⟩:=prop_ok (checkL_good hc0) h1 h2
 exact ⟨_,⟨⟨t,ht,rfl⟩,h0⟩,fun q hW hv hc=>⟨⟨t,okT_move hc (by rw [hv]) ht,ev_prop hW hv hp⟩,h0⟩⟩
theorem fn_holdsS (hR:RanksOk T) (p:PM) (hp:IntsOk p.rank) {f:List Nd} {x:BitVec 64} (h:holdsL p f=(x,0)):Fn Tryz.prog T f_wittinglaw36_holds [.d (dPM p),.d (dF f)] [] (.d (.tup [.u64 x,.bool true])) []:=by
 have c:=fn_holdsU (T:=T) hR p hp f
 rwa [h] at c
end Go.Ab
namespace Go.Ab
open Go Go.Proofs
set_option linter.unusedSimpArgs false
set_option linter.unusedVariables false
set_option maxRecDepth 10000
set_option maxHeartbeats 4000000
variable {T:Nat→Obj→Prop}
theorem and_eqH {x y:BitVec 64} {n m:Nat} (h:x.getLsbD n=y.getLsbD m):x >>> n&&&1=y >>> m&&&1:=by
 have e : ∀ (x:BitVec 64) (n:Nat),x >>> n&&&1=if x.getLsbD n=true then 1 else 0:=fun x n=>by
  split
  ·rename_i h;exact (bit_one x n).2 h
  ·rename_i h;exact (bit_zero x n).2 (by simpa using h)
 rw [e,e,h]
theorem law_Hardly (p:PM) (hp:IntsOk p.rank) (f g h:List Nd) (x:Int) (hx0:0≤x) (hx1:x≤255):Fn Tryz.prog T f_wittinglaw36_UpgradeHardly [.d (dPM p),.d (.agg [dF f,dF g,dF h]),.d (.int .u8 x)] [] (.d (.bool true)) []:=by
 have hR:=ranks_ok (T:=T)
 have hA:=fn_awakeU (T:=T) hR rO
 by_cases hpl:plainL p f g h
 ·have hP:=fn_plain (T:=T) hR p hp f g h (b:=true) (iff_of_true rfl hpl)
  obtain ⟨-,hc0,hn0,pf,pg,ph⟩:=hpl
  obtain ⟨F,fF,iF,-⟩:=plain_rest hc0 pf
  obtain ⟨G,fG,-,qG⟩:=plain_rest hc0 pg
  obtain ⟨H,fH,-,qH⟩:=plain_rest hc0 ph
  have cF:=fn_holdsS hR p hp (fF.holds hc0)
  have cH:=fn_Hard hR rO p hp f
  have hx2:=Int.tmod_nonneg ((p.cell.map dI).length:Int) hx0
  have hx3:=Int.tmod_lt_of_pos x (show (0:Int) < ((p.cell.map dI).length:Int) by rw [List.length_map];omega)
  by_cases h0:F=0#64
  ·subst h0
   rw [show hardL p f=(noP,[],11) by rw [hardL,fF.holds hc0];rfl] at cH
   refine fn_dataR hmix k_wittinglaw36_UpgradeHardly (by show 3≤150;decide) ?_
   (repeat' ((conv=>whnf);first|refine vA ?_|refine vE ?_|refine vG ?_|refine vJ fun hg=>?_|((first|refine vO ?_ ?_|refine vP ?_ ?_);·omega)|(refine vU ?_ ?_;·kernel_rfl)|refine vZ ?_|refine yD hP ⟨⟨rfl,rfl⟩,⟨rfl,rfl⟩,rfl⟩ rfl ?_|refine yN cF ⟨⟨rfl,rfl⟩,⟨rfl,rfl⟩,rfl⟩ ?_|refine yN cH ⟨⟨rfl,rfl⟩,⟨rfl,rfl⟩,rfl⟩ ?_|refine yD hA rfl rfl ?_));all_goals try conv=>whnf
   all_goals exact absurd trivial hc
  ·have hin:=in_all hc0 iF
   obtain ⟨ws,hws⟩ : ∃ ws,ws=wsL F p.W.toNat:=⟨_,rfl⟩
   obtain ⟨⟨hl1,hl2⟩,hcq,-⟩:=rest_ok (checkL_good hc0) hin h0 hws
   rw [show hardL p f=(restPM p ws,ws,0) by rw [hardL,fF.holds hc0,if_neg (by simp),if_neg h0,restL,if_neg (not_not_intro hc0)];show (if F &&& ~~~(allL p.W)≠(0:BitVec 64) then _ else if F=(0:BitVec 64) then _ else _)=_;rw [if_neg (not_not_intro (show F &&& ~~~(allL p.W)=(0:BitVec 64) from hin)),if_neg (show ¬F=(0:BitVec 64) from h0),hws]] at cH
   obtain ⟨G',fG',eG⟩:=qG F ws hws hcq
   obtain ⟨H',fH',eH⟩:=qH F ws hws hcq
   refine fn_dataR hmix k_wittinglaw36_UpgradeHardly (by show 3≤150;decide) ?_
   (repeat' ((conv=>whnf);first|refine vA ?_|refine vE ?_|refine vG ?_|refine vJ fun hg=>?_|((first|refine vO ?_ ?_|refine vP ?_ ?_);·omega)|(refine vU ?_ ?_;·kernel_rfl)|refine yD hP ⟨⟨rfl,rfl⟩,⟨rfl,rfl⟩,rfl⟩ rfl ?_|refine yN cF ⟨⟨rfl,rfl⟩,⟨rfl,rfl⟩,rfl⟩ ?_));all_goals try conv=>whnf
   generalize x.tmod ((p.cell.map dI).length:Int)=y at *
   rw [List.length_map] at hx3
   obtain ⟨a,rfl⟩ : ∃ a:Nat,y=a:=⟨y.toNat,by omega⟩
   have ha:a < p.cell.length:=by omega
   have hcl:a < (restPM p ws).cell.length:=by simp [restPM];exact ha
   have s1:=fn_holdsS hR (restPM p ws) (ints_of hcq) (bel_form hcq hcl fG' fH')
   have s2:=fn_holdsS hR p hp (hard_form hc0 ha fF fG fH)
   have hb:=fun i hi=>bel_rest hc0 hws hcq ha eG eH (i:=i) hi
   have hwl:=fun i hi=>w_lt hc0 hws hcq (i:=i) hi
   conv=>arg 2;whnf
   refine CallS.dataN (cH) (by (repeat refine ⟨⟨rfl,rfl⟩,?_⟩);rfl) ?_
   (repeat' ((conv=>whnf);first|refine vA ?_|refine vE ?_|refine vG ?_|refine vH ?_));all_goals try conv=>whnf
   conv=>arg 2;whnf
   refine CallS.dataN (fn_FBelief _ _ _) (by (repeat refine ⟨⟨rfl,rfl⟩,?_⟩);rfl) ?_
   (repeat' ((conv=>whnf);fail));all_goals try conv=>whnf
   conv=>arg 2;whnf
   refine CallS.data (s1) (by (repeat refine ⟨⟨rfl,rfl⟩,?_⟩);rfl) rfl ?_
   (repeat' ((conv=>whnf);first|refine vA ?_|(refine vU ?_ ?_;·kernel_rfl)|fail));all_goals try conv=>whnf
   conv=>arg 2;whnf
   refine CallS.dataN (fn_FAnd _ _) (by (repeat refine ⟨⟨rfl,rfl⟩,?_⟩);rfl) ?_
   (repeat' ((conv=>whnf);fail));all_goals try conv=>whnf
   conv=>arg 2;whnf
   refine CallS.dataN (fn_FBelief _ _ _) (by (repeat refine ⟨⟨rfl,rfl⟩,?_⟩);rfl) ?_
   (repeat' ((conv=>whnf);fail));all_goals try conv=>whnf
   conv=>arg 2;whnf
   refine CallS.data (s2) (by (repeat refine ⟨⟨rfl,rfl⟩,?_⟩);rfl) rfl ?_
   (repeat' ((conv=>whnf);first|refine vA ?_|refine vE ?_|refine vG ?_|refine vH ?_|(refine vD ?_ ?_<;>intro hc<;>try simp only [vL] at hc)|refine vJ fun hg=>?_|(refine vU ?_ ?_;·kernel_rfl)|refine vZ ?_));all_goals try conv=>whnf
   ·exact absurd rfl hc
   generalize believesL (restPM p ws) a G' H'=A at hb ⊢
   generalize believesL p a (F&&&G) H=B at hb ⊢
   refine loop_mem (fun (k:Nat)=>[(3,.ptr 0 0),(11,.d (.u64 (F))),(14,.d (dI ws)),(16,.d (.u64 (A))),(18,.d (.u64 (B))),(20,.d (.int .i64 ((k:Int))))]) (fun (k:Nat)=>[(0,some (boxPM p))]) 1 (fun (k:Nat)=>k≤ws.length) (fun (k:Nat)=>ws.length - k) (0) [(0,0)] [] (by simp) (by (refine ⟨rfl,rfl,rfl,?_,?_⟩;repeat' first|exact trivial|exact rfl|refine And.intro ?_ ?_|refine ⟨_,rfl,?_⟩|decide)) ?_
   rintro k hk
   by_cases hkl:k < ws.length
   ·obtain ⟨v,hv⟩ : ∃ v,ws[k]? = some v:=⟨_,List.getElem?_eq_getElem hkl⟩
    have hv0:=at0_of hv
    obtain ⟨w1,w2,w3⟩:=hwl k hkl
    have hbk:=hb k hkl
    have hW2:=(checkL_good hc0).w2
    unfold wv at w2 w3 hbk
    rw [hv0] at w1 w2 w3 hbk
    obtain ⟨u,rfl⟩ : ∃ u:Nat,v=u:=⟨v.toNat,by omega⟩
    rw [Int.toNat_natCast] at w2 w3 hbk
    have n1:(BitVec.ofInt 64 (u:Int)).toNat=u:=by rw [BitVec.toNat_ofInt];omega
    have n2:(BitVec.ofInt 64 (k:Int)).toNat=k:=by rw [BitVec.toNat_ofInt];omega
    (repeat' ((conv=>whnf);first|refine vA ?_|refine vH ?_|((first|refine vD ?_ ?_|refine vF ?_ ?_)<;>intro hc<;>try simp only [vL] at hc)|refine vJ fun hg=>?_|refine vN ‹_› ?_|(refine vO ?_ ?_;·omega)|(refine vU ?_ ?_;·kernel_rfl)|refine vZ ?_));all_goals try conv=>whnf
    ·omega
    ·rw [n1] at hc
     rw [(bit_zero F u).1 hc] at w3;cases w3
    ·rw [n1,n2] at hc
     exact absurd (and_eqH hbk) hc
    ·exact ⟨k+1,[(0,0)],[],by (omega),by (omega),by (refine ⟨rfl,rfl,rfl,?_,?_⟩;repeat' first|exact trivial|exact rfl|refine And.intro ?_ ?_|refine ⟨_,rfl,?_⟩|decide)⟩
    ·omega
   ·(repeat' ((conv=>whnf);first|refine vA ?_|((first|refine vD ?_ ?_|refine vF ?_ ?_)<;>intro hc<;>try simp only [vL] at hc)|refine vJ fun hg=>?_|refine vN ‹_› ?_|(refine vQ ?_ fun x hx=>?_;·omega)|(refine vO ?_ ?_;·omega)|(refine vU ?_ ?_;·kernel_rfl)|refine vZ ?_|refine yD hA rfl rfl ?_));all_goals try conv=>whnf
    all_goals omega
 ·have hP:=fn_plain (T:=T) hR p hp f g h (b:=false) (iff_of_false (by decide) hpl)
  refine fn_dataR hmix k_wittinglaw36_UpgradeHardly (by show 3≤150;decide) ?_
  (repeat' ((conv=>whnf);first|refine vA ?_|refine vE ?_|refine vH ?_|refine vZ ?_|refine yD hP ⟨⟨rfl,rfl⟩,⟨rfl,rfl⟩,rfl⟩ rfl ?_|refine yD hA rfl rfl ?_));all_goals try conv=>whnf
end Go.Ab
namespace Go.Proofs.YtmaiaomgcpbccaaGreat
open Go Go.Ab Go.RowKit Go.ChangeShapes Go.WideShapes
set_option linter.unusedVariables false
set_option maxRecDepth 100000 in
theorem upgradeHardly_holds:Rows.UpgradeHardlySaid :=
 OpenClaim.holds_of_wide 6 Tryz.f6 rfl rfl rfl rfl rfl rfl rfl ⟨rfl,rfl,rfl,rfl,rfl⟩ rfl rfl rfl rfl rfl (by kernel_rfl) Tryz.func6 (by kernel_rfl)
  (of_decide_eq_true (by kernel_rfl)) (by unfold Func.isWrapper;rw [if_neg (of_decide_eq_false (by kernel_rfl))];exact ⟨rfl,rfl⟩)
  (fun os started H enc _=>strip_of <| law_lifted (C:=Tryz.checked) (s:=Rows.upgradeHardlySpec) (laid:=[]) knob started (by kernel_rfl) Tryz.func6 laidOut [25,46,5] Tryz.params6 rfl Tryz.underlying4 rfl (by kernel_rfl)
   (fun ds hds=>by match ds,hds with|[d1,d2,d3],_=>rfl)
   (ChangeSpec.witness_shaped (enc:=enc) (C:=Tryz.checked) (os:=os) (X:=fun w _=>laidMetH Tryz.prog [] w) false (World.doorLaid Tryz.prog 14 os)
    #[.agg #[.int .i64 0,.slice none 0 0,.slice none 0 0,.slice none 0 0],.agg #[.slice none 0 0,.slice none 0 0,.slice none 0 0],.int .u8 0] 8 rfl (World.shaped_of_RefB (by kernel_rfl) (by kernel_rfl)) (by kernel_rfl) (by kernel_rfl) (by kernel_rfl) laid_nil)
   (fun W hL=>⟨noT,fun b o h=>h.elim,fun b h=>h.elim fun o h=>h.elim,fun ds hds=>by
    obtain ⟨p1,r,rfl,hc1,hp1,k1⟩:=arg_plaus hds
    obtain ⟨f2,g2,h2,r,rfl,k2⟩:=arg_three k1
    obtain ⟨a3,r,rfl,ha3,k3⟩:=arg_u8 k2
    obtain rfl:=arg0 k3
    exact Ab.law_Hardly p1 hp1 f2 g2 h2 a3 ha3.1 ha3.2⟩))
end Go.Proofs.YtmaiaomgcpbccaaGreat
