/- What is proved here: the law UpgradeKnows returns true at every input and leaves its arguments as they were. There is no further condition. -/
import Derived.Test.YtmaiaomgcpbccaaGreatMH
set_option linter.unusedVariables false
set_option linter.unusedSimpArgs false
set_option linter.unusedSectionVars false
namespace Go.Ab
open Go Go.Proofs
section
open K
def f_wittinglaw36_UpgradeKnows:Nat:=5
def c_wittinglaw36_UpgradeKnows:CFn:=⟨173,[.tmp 6],(q [(.reg [o 3 (.box 4 (t 0)),o 6 (.mv (c .bf))]),
 (q [(.reg [o 18 (la 4 3),o 19 (.call 11 [(t 18)]),o 20 (.un .not (t 19)),o 21 (m 20),g 22 21 false (m 1),g 23 21 false (ln 22),g 24 21 false (bc .gtr 23 (n 40)),o 25 (pt 21 24),o 26 (m 25),g 27 26 false (m 2),g 28 26 false (ln 27),g 29 26 false (bc .gtr 28 (n 40)),o 30 (pt 26 29)]),
 (i 30 (q [(.reg [o 31 (.call 12 []),o 6 (m 31)]),
 .ret]) .skip)]),
 (.reg [o 33 (la 4 3),o 34 (m 1),o 35 (.call 17 [(t 33),(t 34)]),o 32 (m 35),o 36 (e 32 0),o 37 (e 32 1),o 7 (.alloc [(n 0),(.nils 1),(.nils 1),(.nils 1)]),w (.store 4 (t 7) (t 36)),o 8 (m 37)]),
 (.reg [o 39 (la 4 3),o 40 (m 1),o 41 (.call 19 [(t 39),(t 40)]),o 38 (m 41),o 42 (e 38 0),o 43 (e 38 1),o 9 (.alloc [(n 0),(.nils 1),(.nils 1),(.nils 1)]),w (.store 4 (t 9) (t 42)),o 10 (m 43)]),
 (q [(.reg [o 44 (m 8),o 45 (bc .neq 44 (n 0)),o 46 (m 45),g 47 46 false (m 10),g 48 46 false (bc .neq 47 (n 0)),o 49 (pt 46 48)]),
 (i 49 (q [(.reg [o 50 (m 8),o 51 (m 10),o 52 (b .eql 50 51),o 53 (m 52),g 54 53 true (.call 12 []),o 55 (pf 53 54),o 6 (m 55)]),
 .ret]) .skip)]),
 (q [(.reg [o 56 (f 0 7),o 57 (l 56),o 58 (f 0 3),o 59 (l 58),o 60 (b .neq 57 59),o 61 (m 60),g 62 61 false (f 0 9),g 63 61 false (l 62),g 64 61 false (f 0 3),g 65 61 false (l 64),g 66 61 false (b .neq 63 65),o 67 (pt 61 66),o 68 (m 67),g 69 68 false (f 2 7),g 70 68 false (l 69),g 71 68 false (ln 70),g 72 68 false (f 2 3),g 73 68 false (l 72),g 74 68 false (ln 73),g 75 68 false (b .neq 71 74),o 76 (pt 68 75),o 77 (m 76),g 78 77 false (f 2 9),g 79 77 false (l 78),g 80 77 false (ln 79),g 81 77 false (f 2 3),g 82 77 false (l 81),g 83 77 false (ln 82),g 84 77 false (b .neq 80 83),o 85 (pt 77 84),o 86 (m 85),g 87 86 false (la 4 7),g 88 86 false (.call 23 [(t 87)]),g 89 86 false (bc .neq 88 (n 0)),o 90 (pt 86 89),o 91 (m 90),g 92 91 false (la 4 9),g 93 91 false (.call 23 [(t 92)]),g 94 91 false (bc .neq 93 (n 0)),o 95 (pt 91 94)]),
 (i 95 (q [(.reg [o 6 (.mv (c .bf))]),
 .ret]) .skip)]),
 (q [(.reg [o 11 (.mv (c (n 0)))]),
 (.block 0 (.loop (q [(q [(.reg [o 96 (m 11),o 97 (f 2 3),o 98 (l 97),o 99 (ln 98),o 100 (b .lss 96 99)]),
 (i 100 .skip (.exit 0))]),
 (.block 1 (q [(.regd [o 103 (f 2 7),o 104 (l 103),o 105 (m 11),o 106 (ia 1 104 105),o 107 (l 106),o 108 (f 2 3),o 109 (l 108),o 110 (m 11),o 111 (ia 1 109 110),o 112 (l 111),o 113 (.call 16 [(t 107),(t 112)]),o 114 (.un .not (t 113)),o 115 (m 114),g 116 115 false (f 2 9),g 117 115 false (l 116),g 118 115 false (m 11),g 119 115 false (ia 1 117 118),g 120 115 false (l 119),g 121 115 false (f 2 3),g 122 115 false (l 121),g 123 115 false (m 11),g 124 115 false (ia 1 122 123),g 125 115 false (l 124),g 126 115 false (.call 16 [(t 120),(t 125)]),g 127 115 false (.un .not (t 126)),o 128 (pt 115 127)] [0,1,0,7,15,0,32,0,224,480,1023,2047,4095,8191,16383,8191,65535,131071,8191,270335,8191,1843199,3940351,8388607,16777215,33554431]),
 (i 128 (q [(.reg [o 6 (.mv (c .bf))]),
 .ret]) .skip)])),
 (.reg [o 101 (m 11),o 102 (bc .add 101 (n 1)),o 11 (m 102)])])))]),
 (q [(.reg [o 129 (m 2),o 130 (.call 24 [(t 129)]),o 131 (bc .and 130 (n 48)),o 132 (bc .neq 131 (n 0))]),
 (i 132 (q [(.reg [o 133 (.call 12 []),o 6 (m 133)]),
 .ret]) .skip)]),
 (.reg [o 135 (la 4 3),o 136 (m 2),o 137 (.call 25 [(t 135),(t 136)]),o 134 (m 137),o 138 (e 134 0),o 139 (e 134 1),o 12 (m 138),o 13 (m 139)]),
 (.reg [o 141 (la 4 7),o 142 (m 2),o 143 (.call 25 [(t 141),(t 142)]),o 140 (m 143),o 144 (e 140 0),o 145 (e 140 1),o 14 (m 144),o 15 (m 145)]),
 (.reg [o 147 (la 4 9),o 148 (m 2),o 149 (.call 25 [(t 147),(t 148)]),o 146 (m 149),o 150 (e 146 0),o 151 (e 146 1),o 16 (m 150),o 17 (m 151)]),
 (.reg [o 152 (m 13),o 153 (m 15),o 154 (b .eql 152 153),o 155 (m 154),g 156 155 true (m 13),g 157 155 true (m 17),g 158 155 true (b .eql 156 157),o 159 (pf 155 158),o 160 (m 159),g 161 160 true (m 12),g 162 160 true (m 14),g 163 160 true (b .eql 161 162),o 164 (pf 160 163),o 165 (m 164),g 166 165 true (m 12),g 167 165 true (m 16),g 168 165 true (b .eql 166 167),o 169 (pf 165 168),o 170 (m 169),g 171 170 true (.call 12 []),o 172 (pf 170 171),o 6 (m 172)]),
 .ret])⟩
end
theorem k_wittinglaw36_UpgradeKnows:compFn Tryz.prog f_wittinglaw36_UpgradeKnows=some c_wittinglaw36_UpgradeKnows:=by kernel_rfl
end Go.Ab
namespace Go.Ab
open Go
set_option linter.unusedVariables false
set_option linter.unusedSimpArgs false
structure Alike (p q:PM):Prop where
 W:q.W=p.W
 val:q.val=p.val
 cell:q.cell=p.cell
 cp:checkL p=0
 cq:checkL q=0
theorem alike_up {p:PM} (hc0:checkL p=0) (fs:Nat→Nat→BitVec 64):Alike p (upL p fs):=⟨rfl,rfl,rfl,hc0,up_check hc0 fs⟩
section
variable {p q:PM} (h:Alike p q)
include h
theorem Alike.cellL (a w:Int):cellL q a w=cellL p a w:=by
 have e:At q a w↔At p a w:=⟨fun x=>⟨h.cp,x.a0,by have:=x.a1;rwa [h.cell] at this,x.w0,by have:=x.w1;rwa [h.W] at this⟩,fun x=>⟨h.cq,x.a0,by rw [h.cell];exact x.a1,x.w0,by rw [h.W];exact x.w1⟩⟩
 unfold Ab.cellL
 rw [h.cell]
 by_cases hA:At p a w
 ·rw [if_pos hA,if_pos (e.2 hA)]
 ·rw [if_neg hA,if_neg (fun x=>hA (e.1 x))]
theorem Alike.knows (a:Int) (s:BitVec 64):knowsL q a s=knowsL p a s:=by
 unfold knowsL
 simp only [h.cellL,h.W]
theorem Alike.every (g:Nat) (s:BitVec 64):everyL q g s=everyL p g s:=by
 unfold everyL everyK
 simp only [h.knows,h.W,h.cell]
theorem Alike.suc {g w v:Nat} : Suc q g w v↔Suc p g w v:=by
 unfold Suc InC
 rw [h.W,h.cell]
theorem Alike.cpv {g:Nat} {c:BitVec 64} {w v:Nat} : CP q g c w v↔CP p g c w v:=by
 constructor
 ·intro x
  induction x with
  | base s c=>exact .base (h.suc.1 s) c
  | step _ s c ih=>exact .step ih (h.suc.1 s) c
 ·intro x
  induction x with
  | base s c=>exact .base (h.suc.2 s) c
  | step _ s c ih=>exact .step ih (h.suc.2 s) c
theorem Alike.common (g:Nat) (c s:BitVec 64):commonL q g c s=commonL p g c s:=by
 have e:(fun w:Nat => @decide (∀ v,CP q g c w v→s.getLsbD v=true) (Classical.propDecidable _))=fun w:Nat => @decide (∀ v,CP p g c w v→s.getLsbD v=true) (Classical.propDecidable _):=by
  funext w
  have e:(∀ v,CP q g c w v→s.getLsbD v=true) = ∀ v,CP p g c w v→s.getLsbD v=true:=propext (forall_congr' fun v=>by rw [h.cpv])
  exact congrArg (fun P:Prop => @decide P (Classical.propDecidable P)) e
 unfold commonL
 rw [e,h.W]
theorem Alike.value {k:Hd} (h14:k.op≠14) (h15:k.op≠15) (x y:BitVec 64):valL q k x y=valL p k x y:=by
 unfold valL
 simp only [h.W,h.val,h.knows,h.every,h.common,if_neg h14,if_neg h15]
theorem Alike.holds {f:List Nd} (hf : ∀ n∈cL f,n.op≠14∧n.op≠15):holdsL q f=holdsL p f:=by
 have key : ∀ (l:List Nd) (acc:List (BitVec 64)),(∀ n∈l,n.op≠14∧n.op≠15)→sets (valL q) 0#64 l acc=sets (valL p) 0#64 l acc:=fun l=>by
  induction l with
  | nil=>intro acc _;rfl
  | cons n r ih =>
   intro acc hl
   rw [sets,sets,h.value (hl n (List.mem_cons_self ..)).1 (hl n (List.mem_cons_self ..)).2,ih _ fun m hm=>hl m (List.mem_cons_of_mem _ hm)]
 unfold holdsL
 rw [h.cp,h.cq,h.cell,h.val,key _ _ hf]
end
theorem no_bel {f:List Nd} (h:bitsI .i64 (fun p q=>p&&&q) (uni fragN (cL f):Int) 48=0) : ∀ n∈cL f,n.op≠14∧n.op≠15:=by
 intro n hn
 have hu:uni fragN (cL f) < 2 ^ 63:=Nat.lt_trans ((uni_lt fragN).2 fun n _=>fragN_lt n.hd) (by decide)
 rw [show (48:Int)=((48:Nat):Int) from rfl,bits_and hu (by decide)] at h
 have h:uni fragN (cL f)&&&48=0:=by omega
 have key : ∀ i,i=4∨i=5→(fragN n.hd).testBit i=false:=fun i hi=>by
  cases hb:(fragN n.hd).testBit i with
  | false=>rfl
  | true =>
   have h1:(uni fragN (cL f)).testBit i=true:=by rw [uni_bit];exact List.any_eq_true.2 ⟨n,hn,hb⟩
   have h2:=congrArg (fun x=>x.testBit i) h
   simp only [Nat.testBit_and,h1,Nat.zero_testBit,Bool.true_and] at h2
   rcases hi with rfl|rfl<;>exact absurd h2 (by decide)
 have e:=fragN_cast n.hd
 constructor
 ·intro ho
  have e2:fragN n.hd=16:=by
   have:fragOf n.hd.op=16:=by rw [show n.hd.op=14 from ho];rfl
   omega
  have:=key 4 (.inl rfl)
  rw [e2] at this;exact absurd this (by decide)
 ·intro ho
  have e2:fragN n.hd=32:=by
   have:fragOf n.hd.op=32:=by rw [show n.hd.op=15 from ho];rfl
   omega
  have:=key 5 (.inr rfl)
  rw [e2] at this;exact absurd this (by decide)
end Go.Ab
namespace Go.Ab
open Go Go.Proofs
set_option linter.unusedSimpArgs false
set_option linter.unusedVariables false
set_option maxRecDepth 10000
set_option maxHeartbeats 4000000
variable {T:Nat→Obj→Prop}
theorem rO:RanksOwn T:=fun _ _ h1 h2=>ranks_own h1 h2
theorem plain_fm {p:PM} (hc0:checkL p=0) {f:List Nd} (h:PlF p f) : ∃ x,Fm p f x 30 ∧ ∀ q:PM,q.W=p.W→q.val=p.val→q.cell.length=p.cell.length→Fm q f x 30:=by
 obtain ⟨h0,h1,h2⟩:=h
 obtain ⟨t,ht,hp⟩:=prop_ok (checkL_good hc0) h1 h2
 exact ⟨_,⟨⟨t,ht,rfl⟩,h0⟩,fun q hW hv hc=>⟨⟨t,okT_move hc (by rw [hv]) ht,ev_prop hW hv hp⟩,h0⟩⟩
theorem fn_holdsS (hR:RanksOk T) (p:PM) (hp:IntsOk p.rank) {f:List Nd} {x:BitVec 64} (h:holdsL p f=(x,0)):Fn Tryz.prog T f_wittinglaw36_holds [.d (dPM p),.d (dF f)] [] (.d (.tup [.u64 x,.bool true])) []:=by
 have c:=fn_holdsU (T:=T) hR p hp f
 rwa [h] at c
end Go.Ab
namespace Go.Ab
open Go Go.Proofs
set_option linter.unusedSimpArgs false
set_option linter.unusedVariables false
set_option maxRecDepth 10000
set_option maxHeartbeats 4000000
variable {T:Nat→Obj→Prop}
theorem law_Knows (p:PM) (hp:IntsOk p.rank) (f g:List Nd):Fn Tryz.prog T f_wittinglaw36_UpgradeKnows [.d (dPM p),.d (dF f),.d (dF g)] [] (.d (.bool true)) []:=by
 have hR:=ranks_ok (T:=T)
 have hA:=fn_awakeU (T:=T) hR rO
 have cR:=fn_Radical hR p hp f
 have cC:=fn_Conservative hR p hp f
 by_cases he:(holdsL p f).2=0
 ·have hc0:=(holds_inv he).1
  rw [show radL p f=(upL p fun _ _=>(holdsL p f).1,0) by rw [radL,if_neg (not_not_intro he)]] at cR
  rw [show conL p f=(upL p fun a w=>bestL p a w (holdsL p f).1,0) by rw [conL,if_neg (not_not_intro he)]] at cC
  generalize (fun (_:Nat) (_:Nat)=>(holdsL p f).1)=fs at cR
  generalize (fun (a:Nat) (w:Nat)=>bestL p a w (holdsL p f).1)=gs at cC
  have al:=alike_up hc0 fs
  have bl:=alike_up hc0 gs
  have k1:=fn_plaus_Check hR (upL p fs) (ints_of al.cq)
  rw [al.cq] at k1
  have k2:=fn_plaus_Check hR (upL p gs) (ints_of bl.cq)
  rw [bl.cq] at k2
  have hs : ∀ l:List Int,Fn Tryz.prog T f_wittinglaw36_sameInts [.d (dI l),.d (dI l)] [] (.d (.bool true)) []:=fun l=>by
   have c:=fn_sameU (T:=T) l l
   rwa [show (l==l)=true by simp] at c
  refine fn_dataR hmix k_wittinglaw36_UpgradeKnows (by show 3≤173;decide) ?_
  (repeat' ((conv=>whnf);first|refine vA ?_|refine vE ?_|refine vH ?_|((first|refine vD ?_ ?_|refine vF ?_ ?_)<;>intro hc<;>try simp only [vL] at hc)|refine vJ fun hg=>?_|refine vZ ?_|refine yD (fn_Few _) ⟨⟨rfl,rfl⟩,rfl⟩ rfl ?_|refine yD hA rfl rfl ?_|refine yN cR ⟨⟨rfl,rfl⟩,⟨rfl,rfl⟩,rfl⟩ ?_|refine yN cC ⟨⟨rfl,rfl⟩,⟨rfl,rfl⟩,rfl⟩ ?_|refine yD k1 ⟨⟨rfl,rfl⟩,rfl⟩ rfl ?_|refine yD k2 ⟨⟨rfl,rfl⟩,rfl⟩ rfl ?_));all_goals try conv=>whnf
  all_goals try exact absurd rfl hc
  refine loop_mem (fun (k:Nat)=>[(2,.d (dF g)),(3,.ptr 0 0),(7,.ptr 1 0),(9,.ptr 2 0),(11,.d (.int .i64 ((k:Int))))]) (fun (k:Nat)=>[(0,some (boxPM p)),(1,some (boxPM (upL p fs))),(2,some (boxPM (upL p gs)))]) 3 (fun (k:Nat)=>k≤p.cell.length) (fun (k:Nat)=>p.cell.length - k) (0) [(0,0),(1,1),(2,2)] [] (by simp) (by (refine ⟨rfl,rfl,rfl,?_,?_⟩;repeat' first|exact trivial|exact rfl|refine And.intro ?_ ?_|refine ⟨_,rfl,?_⟩|decide)) ?_
  rintro k hk
  by_cases hkl:k < p.cell.length
  ·obtain ⟨x,e1⟩ : ∃ x,p.cell[k]? = some x:=⟨_,List.getElem?_eq_getElem hkl⟩
   have e2:(upL p fs).cell[k]? = some x:=e1
   have e3:(upL p gs).cell[k]? = some x:=e1
   have s1:=hs x
   (repeat' ((conv=>whnf);first|refine vA ?_|refine vE ?_|refine vG ?_|(refine vF ?_ ?_<;>intro hc<;>try simp only [vL] at hc)|refine vJ fun hg=>?_|refine vN ‹_› ?_|(refine vO ?_ ?_;·omega)|(refine vU ?_ ?_;·kernel_rfl)|refine yD s1 (by (repeat refine ⟨⟨rfl,rfl⟩,?_⟩);rfl) rfl ?_));all_goals try conv=>whnf
   all_goals try exact absurd trivial hc
   ·exact ⟨k+1,[(0,0),(1,1),(2,2)],[],by (omega),by (omega),by (refine ⟨rfl,rfl,rfl,?_,?_⟩;repeat' first|exact trivial|exact rfl|refine And.intro ?_ ?_|refine ⟨_,rfl,?_⟩|decide)⟩
   ·omega
  ·(repeat' ((conv=>whnf);first|refine vA ?_|((first|refine vD ?_ ?_|refine vF ?_ ?_)<;>intro hc<;>try simp only [vL] at hc)|refine vJ fun hg=>?_|refine vN ‹_› ?_|(refine vQ ?_ fun x hx=>?_;·omega)|refine vZ ?_|refine yD (fn_Frags _) ⟨⟨rfl,rfl⟩,rfl⟩ rfl ?_|refine yD hA rfl rfl ?_));all_goals try conv=>whnf
   ·omega
   have hnb:=no_bel ‹bitsI .i64 (fun p q=>p&&&q) (uni fragN (cL g):Int) 48=0›
   have h1:=fn_Holds hR p hp g
   have h2:=fn_Holds hR (upL p fs) (ints_of al.cq) g
   rw [al.holds hnb] at h2
   have h3:=fn_Holds hR (upL p gs) (ints_of bl.cq) g
   rw [bl.holds hnb] at h3
   (repeat' ((conv=>whnf);first|refine vA ?_|(refine vF ?_ ?_<;>intro hc<;>try simp only [vL] at hc)|refine vZ ?_|refine yN h1 ⟨⟨rfl,rfl⟩,⟨rfl,rfl⟩,rfl⟩ ?_|refine yN h2 ⟨⟨rfl,rfl⟩,⟨rfl,rfl⟩,rfl⟩ ?_|refine yN h3 ⟨⟨rfl,rfl⟩,⟨rfl,rfl⟩,rfl⟩ ?_|refine yD hA rfl rfl ?_));all_goals try conv=>whnf
   all_goals first|exact absurd trivial hc|exact absurd rfl hc
 ·rw [show radL p f=(noP,(holdsL p f).2) by rw [radL,if_pos he]] at cR
  rw [show conL p f=(noP,(holdsL p f).2) by rw [conL,if_pos he]] at cC
  refine fn_dataR hmix k_wittinglaw36_UpgradeKnows (by show 3≤173;decide) ?_
  (repeat' ((conv=>whnf);first|refine vA ?_|refine vE ?_|((first|refine vD ?_ ?_|refine vF ?_ ?_)<;>intro hc<;>try simp only [vL] at hc)|refine vJ fun hg=>?_|refine vZ ?_|refine yD (fn_Few _) ⟨⟨rfl,rfl⟩,rfl⟩ rfl ?_|refine yD hA rfl rfl ?_|refine yN cR ⟨⟨rfl,rfl⟩,⟨rfl,rfl⟩,rfl⟩ ?_|refine yN cC ⟨⟨rfl,rfl⟩,⟨rfl,rfl⟩,rfl⟩ ?_));all_goals try conv=>whnf
  all_goals first|exact absurd trivial hc|exact absurd ‹(holdsL p f).2=0› he
end Go.Ab
namespace Go.Proofs.YtmaiaomgcpbccaaGreat
open Go Go.Ab Go.RowKit Go.ChangeShapes Go.WideShapes
set_option linter.unusedVariables false
set_option maxRecDepth 100000 in
theorem upgradeKnows_holds:Rows.UpgradeKnowsSaid :=
 OpenClaim.holds_of_wide 5 Tryz.f5 rfl rfl rfl rfl rfl rfl rfl ⟨rfl,rfl,rfl,rfl,rfl⟩ rfl rfl rfl rfl rfl (by kernel_rfl) Tryz.func5 (by kernel_rfl)
  (of_decide_eq_true (by kernel_rfl)) (by unfold Func.isWrapper;rw [if_neg (of_decide_eq_false (by kernel_rfl))];exact ⟨rfl,rfl⟩)
  (fun os started H enc _=>strip_of <| law_lifted (C:=Tryz.checked) (s:=Rows.upgradeKnowsSpec) (laid:=[]) knob started (by kernel_rfl) Tryz.func5 laidOut [25,26,26] Tryz.params5 rfl Tryz.underlying4 rfl (by kernel_rfl)
   (fun ds hds=>by match ds,hds with|[d1,d2,d3],_=>rfl)
   (ChangeSpec.witness_shaped (enc:=enc) (C:=Tryz.checked) (os:=os) (X:=fun w _=>laidMetH Tryz.prog [] w) false (World.doorLaid Tryz.prog 14 os)
    #[.agg #[.int .i64 0,.slice none 0 0,.slice none 0 0,.slice none 0 0],.slice none 0 0,.slice none 0 0] 8 rfl (World.shaped_of_RefB (by kernel_rfl) (by kernel_rfl)) (by kernel_rfl) (by kernel_rfl) (by kernel_rfl) laid_nil)
   (fun W hL=>⟨noT,fun b o h=>h.elim,fun b h=>h.elim fun o h=>h.elim,fun ds hds=>by
    obtain ⟨p1,r,rfl,hc1,hp1,k1⟩:=arg_plaus hds
    obtain ⟨f2,r,rfl,k2⟩:=arg_form k1
    obtain ⟨f3,r,rfl,k3⟩:=arg_form k2
    obtain rfl:=arg0 k3
    exact Ab.law_Knows p1 hp1 f2 f3⟩))
end Go.Proofs.YtmaiaomgcpbccaaGreat
