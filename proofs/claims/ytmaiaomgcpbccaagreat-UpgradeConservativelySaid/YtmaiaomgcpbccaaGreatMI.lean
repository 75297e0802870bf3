/- What is proved here: the law UpgradeConservatively returns true at every input and leaves its arguments as they were. There is no further condition. -/
import Derived.Test.YtmaiaomgcpbccaaGreatMH
set_option linter.unusedVariables false
set_option linter.unusedSimpArgs false
set_option linter.unusedSectionVars false
namespace Go.Ab
open Go Go.Proofs
section
open K
def f_wittinglaw36_UpgradeConservatively:Nat:=7
def c_wittinglaw36_UpgradeConservatively:CFn:=⟨94,[.tmp 6],(q [(.reg [o 3 (.box 4 (t 0)),o 4 (.box 3 (t 1)),o 6 (.mv (c .bf))]),
 (q [(.reg [o 19 (la 4 3),o 20 (la 3 4),o 21 (.call 26 [(t 19),(t 20)]),o 22 (.un .not (t 21))]),
 (i 22 (q [(.reg [o 23 (.call 12 []),o 6 (m 23)]),
 .ret]) .skip)]),
 (.reg [o 24 (m 2),o 25 (.conv .i64 (t 24)),o 26 (f 2 3),o 27 (l 26),o 28 (ln 27),o 29 (b .rem 25 28),o 7 (m 29)]),
 (.regd [o 30 (.iaddrA 3 1 (t 4) (c (n 0))),o 31 (l 30),o 32 (.iaddrA 3 1 (t 4) (c (n 1))),o 33 (l 32),o 34 (.iaddrA 3 1 (t 4) (c (n 2))),o 35 (l 34),o 8 (m 31),o 9 (m 33),o 10 (m 35)] [0,1,0,4,0,16,3,79,255]),
 (.reg [o 37 (la 4 3),o 38 (m 8),o 39 (.call 19 [(t 37),(t 38)]),o 36 (m 39),o 40 (e 36 0),o 41 (e 36 1),o 11 (.alloc [(n 0),(.nils 1),(.nils 1),(.nils 1)]),w (.store 4 (t 11) (t 40)),o 12 (m 41)]),
 (.regd [o 43 (la 4 11),o 44 (m 7),o 45 (m 9),o 46 (m 10),o 47 (.call 28 [(t 44),(t 45),(t 46)]),o 48 (.call 27 [(t 43),(t 47)]),o 42 (m 48),o 49 (e 42 0),o 50 (e 42 1),o 13 (m 49),o 14 (m 50)] [0,0,0,0,14,31,63,127,127,255,1023]),
 (.reg [o 51 (m 7),o 52 (m 8),o 53 (m 9),o 54 (.call 30 [(t 53)]),o 55 (.call 28 [(t 51),(t 52),(t 54)]),o 15 (m 55)]),
 (.reg [o 56 (m 15),o 57 (m 7),o 58 (m 9),o 59 (m 10),o 60 (.call 28 [(t 57),(t 58),(t 59)]),o 61 (.call 29 [(t 56),(t 60)]),o 62 (m 15),o 63 (.call 30 [(t 62)]),o 64 (m 7),o 65 (m 8),o 66 (m 9),o 67 (.call 29 [(t 65),(t 66)]),o 68 (m 10),o 69 (.call 28 [(t 64),(t 67),(t 68)]),o 70 (.call 29 [(t 63),(t 69)]),o 71 (.call 31 [(t 61),(t 70)]),o 16 (m 71)]),
 (.reg [o 73 (la 4 3),o 74 (m 16),o 75 (.call 27 [(t 73),(t 74)]),o 72 (m 75),o 76 (e 72 0),o 77 (e 72 1),o 17 (m 76),o 18 (m 77)]),
 (.reg [o 78 (m 12),o 79 (bc .eql 78 (n 0)),o 80 (m 79),g 81 80 true (m 14),o 82 (pf 80 81),o 83 (m 82),g 84 83 true (m 18),o 85 (pf 83 84),o 86 (m 85),g 87 86 true (m 13),g 88 86 true (m 17),g 89 86 true (b .eql 87 88),o 90 (pf 86 89),o 91 (m 90),g 92 91 true (.call 12 []),o 93 (pf 91 92),o 6 (m 93)]),
 .ret])⟩
end
theorem k_wittinglaw36_UpgradeConservatively:compFn Tryz.prog f_wittinglaw36_UpgradeConservatively=some c_wittinglaw36_UpgradeConservatively:=by kernel_rfl
end Go.Ab
namespace Go.Ab
open Go Go.Proofs
set_option linter.unusedSimpArgs false
set_option linter.unusedVariables false
set_option maxRecDepth 10000
set_option maxHeartbeats 4000000
variable {T:Nat→Obj→Prop}
theorem rO:RanksOwn T:=fun _ _ h1 h2=>ranks_own h1 h2
theorem plain_fm {p:PM} (hc0:checkL p=0) {f:List Nd} (h:PlF p f) : ∃ x,Fm p f x 30 ∧ ∀ q:PM,q.W=p.W→q.val=p.val→q.cell.length=p.cell.length→Fm q f x 30:=by
 obtain ⟨h0,h1,h2⟩:=h
 obtain ⟨t,ht,hp⟩:=prop_ok (checkL_good hc0) h1 h2
 exact ⟨_,⟨⟨t,ht,rfl⟩,h0⟩,fun q hW hv hc=>⟨⟨t,okT_move hc (by rw [hv]) ht,ev_prop hW hv hp⟩,h0⟩⟩
theorem fn_holdsS (hR:RanksOk T) (p:PM) (hp:IntsOk p.rank) {f:List Nd} {x:BitVec 64} (h:holdsL p f=(x,0)):Fn Tryz.prog T f_wittinglaw36_holds [.d (dPM p),.d (dF f)] [] (.d (.tup [.u64 x,.bool true])) []:=by
 have c:=fn_holdsU (T:=T) hR p hp f
 rwa [h] at c
end Go.Ab
namespace Go.Ab
open Go Go.Proofs
set_option linter.unusedSimpArgs false
set_option linter.unusedVariables false
set_option maxRecDepth 10000
set_option maxHeartbeats 4000000
variable {T:Nat→Obj→Prop}
theorem law_Conservatively (p:PM) (hp:IntsOk p.rank) (f g h:List Nd) (x:Int) (hx0:0≤x) (hx1:x≤255):Fn Tryz.prog T f_wittinglaw36_UpgradeConservatively [.d (dPM p),.d (.agg [dF f,dF g,dF h]),.d (.int .u8 x)] [] (.d (.bool true)) []:=by
 have hR:=ranks_ok (T:=T)
 have hA:=fn_awakeU (T:=T) hR rO
 by_cases hpl:plainL p f g h
 ·have hP:=fn_plain (T:=T) hR p hp f g h (b:=true) (iff_of_true rfl hpl)
  obtain ⟨-,hc0,hn0,pf,pg,ph⟩:=hpl
  obtain ⟨F,fF,qF⟩:=plain_fm hc0 pf
  obtain ⟨G,fG,qG⟩:=plain_fm hc0 pg
  obtain ⟨H,fH,qH⟩:=plain_fm hc0 ph
  have cR:=fn_Conservative hR p hp f
  rw [show conL p f=(upL p fun a w=>bestL p a w F,0) by rw [conL,fF.holds hc0];rfl] at cR
  generalize hq:upL p (fun a w=>bestL p a w F)=q at cR
  have hqc:checkL q=0:=by rw [← hq];exact up_check hc0 _
  refine fn_dataR hmix k_wittinglaw36_UpgradeConservatively (by show 3≤94;decide) ?_
  have hx2:=Int.tmod_nonneg ((p.cell.map dI).length:Int) hx0
  have hx3:=Int.tmod_lt_of_pos x (show (0:Int) < ((p.cell.map dI).length:Int) by rw [List.length_map];omega)
  (repeat' ((conv=>whnf);first|refine vA ?_|refine vE ?_|refine vG ?_|refine vJ fun hg=>?_|((first|refine vO ?_ ?_|refine vP ?_ ?_);·omega)|(refine vU ?_ ?_;·kernel_rfl)|refine yD hP ⟨⟨rfl,rfl⟩,⟨rfl,rfl⟩,rfl⟩ rfl ?_|refine yN cR ⟨⟨rfl,rfl⟩,⟨rfl,rfl⟩,rfl⟩ ?_));all_goals try conv=>whnf
  generalize x.tmod ((p.cell.map dI).length:Int)=y at *
  rw [List.length_map] at hx3
  obtain ⟨a,rfl⟩ : ∃ a:Nat,y=a:=⟨y.toNat,by omega⟩
  have ha:a < p.cell.length:=by omega
  have s1:=fn_holdsS hR q (ints_of hqc) (bel_form hqc (by rw [← hq];exact ha) (qG q (by rw [← hq];rfl) (by rw [← hq];rfl) (by rw [← hq];rfl)) (qH q (by rw [← hq];rfl) (by rw [← hq];rfl) (by rw [← hq];rfl)))
  have s2:=fn_holdsS hR p hp (con_form hc0 ha fF fG fH)
  rw [← con_law hc0 ha,hq] at s2
  (repeat' ((conv=>whnf);fail));all_goals try conv=>whnf
  conv=>arg 2;whnf
  refine CallS.dataN (fn_FBelief _ _ _) (by (repeat refine ⟨⟨rfl,rfl⟩,?_⟩);rfl) ?_
  (repeat' ((conv=>whnf);fail));all_goals try conv=>whnf
  conv=>arg 2;whnf
  refine CallS.data (s1) (by (repeat refine ⟨⟨rfl,rfl⟩,?_⟩);rfl) rfl ?_
  (repeat' ((conv=>whnf);first|(refine vU ?_ ?_;·kernel_rfl)|fail));all_goals try conv=>whnf
  conv=>arg 2;whnf
  refine CallS.dataN (fn_FNot _) (by (repeat refine ⟨⟨rfl,rfl⟩,?_⟩);rfl) ?_
  (repeat' ((conv=>whnf);fail));all_goals try conv=>whnf
  conv=>arg 2;whnf
  refine CallS.dataN (fn_FBelief _ _ _) (by (repeat refine ⟨⟨rfl,rfl⟩,?_⟩);rfl) ?_
  (repeat' ((conv=>whnf);fail));all_goals try conv=>whnf
  conv=>arg 2;whnf
  refine CallS.dataN (fn_FBelief _ _ _) (by (repeat refine ⟨⟨rfl,rfl⟩,?_⟩);rfl) ?_
  (repeat' ((conv=>whnf);fail));all_goals try conv=>whnf
  conv=>arg 2;whnf
  refine CallS.dataN (fn_FAnd _ _) (by (repeat refine ⟨⟨rfl,rfl⟩,?_⟩);rfl) ?_
  (repeat' ((conv=>whnf);fail));all_goals try conv=>whnf
  conv=>arg 2;whnf
  refine CallS.dataN (fn_FNot _) (by (repeat refine ⟨⟨rfl,rfl⟩,?_⟩);rfl) ?_
  (repeat' ((conv=>whnf);fail));all_goals try conv=>whnf
  conv=>arg 2;whnf
  refine CallS.dataN (fn_FAnd _ _) (by (repeat refine ⟨⟨rfl,rfl⟩,?_⟩);rfl) ?_
  (repeat' ((conv=>whnf);fail));all_goals try conv=>whnf
  conv=>arg 2;whnf
  refine CallS.dataN (fn_FBelief _ _ _) (by (repeat refine ⟨⟨rfl,rfl⟩,?_⟩);rfl) ?_
  (repeat' ((conv=>whnf);fail));all_goals try conv=>whnf
  conv=>arg 2;whnf
  refine CallS.dataN (fn_FAnd _ _) (by (repeat refine ⟨⟨rfl,rfl⟩,?_⟩);rfl) ?_
  (repeat' ((conv=>whnf);fail));all_goals try conv=>whnf
  conv=>arg 2;whnf
  refine CallS.dataN (fn_FOr _ _) (by (repeat refine ⟨⟨rfl,rfl⟩,?_⟩);rfl) ?_
  (repeat' ((conv=>whnf);fail));all_goals try conv=>whnf
  conv=>arg 2;whnf
  refine CallS.data (s2) (by (repeat refine ⟨⟨rfl,rfl⟩,?_⟩);rfl) rfl ?_
  (repeat' ((conv=>whnf);first|refine vA ?_|refine vG ?_|(refine vF ?_ ?_<;>intro hc<;>try simp only [vL] at hc)|refine vZ ?_|refine yD hA rfl rfl ?_));all_goals try conv=>whnf
  exact absurd trivial hc
 ·have hP:=fn_plain (T:=T) hR p hp f g h (b:=false) (iff_of_false (by decide) hpl)
  refine fn_dataR hmix k_wittinglaw36_UpgradeConservatively (by show 3≤94;decide) ?_
  (repeat' ((conv=>whnf);first|refine vA ?_|refine vE ?_|refine vH ?_|refine vZ ?_|refine yD hP ⟨⟨rfl,rfl⟩,⟨rfl,rfl⟩,rfl⟩ rfl ?_|refine yD hA rfl rfl ?_));all_goals try conv=>whnf
end Go.Ab
namespace Go.Proofs.YtmaiaomgcpbccaaGreat
open Go Go.Ab Go.RowKit Go.ChangeShapes Go.WideShapes
set_option linter.unusedVariables false
set_option maxRecDepth 100000 in
theorem upgradeConservatively_holds:Rows.UpgradeConservativelySaid :=
 OpenClaim.holds_of_wide 7 Tryz.f7 rfl rfl rfl rfl rfl rfl rfl ⟨rfl,rfl,rfl,rfl,rfl⟩ rfl rfl rfl rfl rfl (by kernel_rfl) Tryz.func7 (by kernel_rfl)
  (of_decide_eq_true (by kernel_rfl)) (by unfold Func.isWrapper;rw [if_neg (of_decide_eq_false (by kernel_rfl))];exact ⟨rfl,rfl⟩)
  (fun os started H enc _=>strip_of <| law_lifted (C:=Tryz.checked) (s:=Rows.upgradeConservativelySpec) (laid:=[]) knob started (by kernel_rfl) Tryz.func7 laidOut [25,46,5] Tryz.params7 rfl Tryz.underlying4 rfl (by kernel_rfl)
   (fun ds hds=>by match ds,hds with|[d1,d2,d3],_=>rfl)
   (ChangeSpec.witness_shaped (enc:=enc) (C:=Tryz.checked) (os:=os) (X:=fun w _=>laidMetH Tryz.prog [] w) false (World.doorLaid Tryz.prog 14 os)
    #[.agg #[.int .i64 0,.slice none 0 0,.slice none 0 0,.slice none 0 0],.agg #[.slice none 0 0,.slice none 0 0,.slice none 0 0],.int .u8 0] 8 rfl (World.shaped_of_RefB (by kernel_rfl) (by kernel_rfl)) (by kernel_rfl) (by kernel_rfl) (by kernel_rfl) laid_nil)
   (fun W hL=>⟨noT,fun b o h=>h.elim,fun b h=>h.elim fun o h=>h.elim,fun ds hds=>by
    obtain ⟨p1,r,rfl,hc1,hp1,k1⟩:=arg_plaus hds
    obtain ⟨f2,g2,h2,r,rfl,k2⟩:=arg_three k1
    obtain ⟨a3,r,rfl,ha3,k3⟩:=arg_u8 k2
    obtain rfl:=arg0 k3
    exact Ab.law_Conservatively p1 hp1 f2 g2 h2 a3 ha3.1 ha3.2⟩))
end Go.Proofs.YtmaiaomgcpbccaaGreat
