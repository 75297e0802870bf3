/- What is proved here: the law DoxasticSets returns true at every input and leaves its arguments as they were. There is no further condition. -/
import Derived.Test.YtffknaghkomefaaMJ
set_option linter.unusedVariables false
set_option linter.unusedSimpArgs false
set_option linter.unusedSectionVars false
namespace Go.Ab
open Go Go.Proofs
section
open K
def f_wittinglaw34_DoxasticSets:Nat:=3
def c_wittinglaw34_DoxasticSets:CFn:=⟨79,[.tmp 4],(q [(.reg [o 2 (.box 4 (t 0)),o 3 (.box 5 (t 1)),o 4 (.mv (c .bf))]),
 (q [(.reg [o 13 (.call 10 []),o 14 (.un .not (t 13)),o 15 (m 14),g 16 15 false (la 4 2),g 17 15 false (.call 11 [(t 16),(c (.nils 1))]),g 18 15 false (.un .not (t 17)),o 19 (pt 15 18)]),
 (i 19 (q [(.reg [o 20 (.call 10 []),o 4 (m 20)]),
 .ret]) .skip)]),
 (.reg [o 22 (la 4 2),o 23 (f 0 3),o 24 (l 23),o 25 (f 2 3),o 26 (l 25),o 27 (f 3 3),o 28 (l 27),o 29 (.call 12 [(t 22),(t 24),(t 26),(t 28)]),o 21 (m 29),o 30 (e 21 0),o 31 (e 21 1),o 5 (m 30),o 6 (m 31)]),
 (.reg [o 33 (la 4 2),o 34 (f 0 3),o 35 (l 34),o 36 (f 2 3),o 37 (l 36),o 38 (f 3 3),o 39 (l 38),o 40 (.call 13 [(t 33),(t 35),(t 37),(t 39)]),o 32 (m 40),o 41 (e 32 0),o 42 (e 32 1),o 7 (m 41),o 8 (m 42)]),
 (.reg [o 44 (la 4 2),o 45 (f 0 3),o 46 (l 45),o 47 (f 2 3),o 48 (l 47),o 49 (.call 14 [(t 44),(t 46),(t 48)]),o 43 (m 49),o 50 (e 43 0),o 51 (e 43 1),o 9 (m 50),o 10 (m 51)]),
 (.reg [o 53 (la 4 2),o 54 (f 0 3),o 55 (l 54),o 56 (f 2 3),o 57 (l 56),o 58 (.call 15 [(t 53),(t 55),(t 57)]),o 52 (m 58),o 59 (e 52 0),o 60 (e 52 1),o 11 (m 59),o 12 (m 60)]),
 (.reg [o 61 (m 5),o 62 (m 7),o 63 (b .eql 61 62),o 64 (m 63),g 65 64 true (m 6),g 66 64 true (m 8),g 67 64 true (b .eql 65 66),o 68 (pf 64 67),o 69 (m 68),g 70 69 true (m 9),g 71 69 true (m 11),g 72 69 true (b .eql 70 71),o 73 (pf 69 72),o 74 (m 73),g 75 74 true (m 10),g 76 74 true (m 12),g 77 74 true (b .eql 75 76),o 78 (pf 74 77),o 4 (m 78)]),
 .ret])⟩
end
theorem k_wittinglaw34_DoxasticSets:compFn Try.prog f_wittinglaw34_DoxasticSets=some c_wittinglaw34_DoxasticSets:=by kernel_rfl
end Go.Ab
namespace Go.Ab
open Go Go.Proofs
set_option linter.unusedSimpArgs false
set_option linter.unusedVariables false
set_option maxRecDepth 10000
set_option maxHeartbeats 4000000
variable {T:Nat→Obj→Prop}
theorem law_Sets (p:PM) (hp:IntsOk p.rank) (a w:Int) (x y z:BitVec 64):Fn Try.prog T f_wittinglaw34_DoxasticSets [.d (dPM p),.d (.agg [.int .i64 a,.int .i64 w,.u64 x,.u64 y,.u64 z])] [] (.d (.bool true)) []:=by
 have hR:=ranks_ok (T:=T)
 have hA:=fn_awake (T:=T)
 have hF:=fn_few (T:=T) p []
 refine fn_dataR hmix k_wittinglaw34_DoxasticSets (by show 2≤79;decide) ?_
 (repeat' ((conv=>whnf);first|refine TestS.no (by decide) ?_|refine vA ?_|refine vE ?_|(refine vF ?_ ?_<;>intro hc<;>try simp only [vL] at hc)|refine vZ ?_|refine yD hA rfl rfl ?_|refine yD hF ⟨⟨rfl,rfl⟩,⟨rfl,rfl⟩,rfl⟩ rfl ?_|refine yN (fn_Believes hR p hp _ _ _) (by (repeat refine ⟨⟨rfl,rfl⟩,?_⟩);rfl) ?_|refine yN (fn_Believes34 p hp _ _ _) (by (repeat refine ⟨⟨rfl,rfl⟩,?_⟩);rfl) ?_|refine yN (fn_Strong hR p hp _ _) ⟨⟨rfl,rfl⟩,⟨rfl,rfl⟩,⟨rfl,rfl⟩,rfl⟩ ?_|refine yN (fn_Strong34 p hp _ _) ⟨⟨rfl,rfl⟩,⟨rfl,rfl⟩,⟨rfl,rfl⟩,rfl⟩ ?_));all_goals try conv=>whnf
 all_goals simp_all
end Go.Ab
namespace Go.Proofs.Ytffknaghkomefaa
open Go Go.Ab Go.RowKit Go.ChangeShapes Go.WideShapes
set_option linter.unusedVariables false
set_option maxRecDepth 100000 in
theorem doxasticSets_holds:Rows.DoxasticSetsSaid :=
 OpenClaim.holds_of_wide 3 Try.f3 rfl rfl rfl rfl rfl rfl rfl ⟨rfl,rfl,rfl,rfl,rfl⟩ rfl rfl rfl rfl rfl (by kernel_rfl) Try.func3 (by kernel_rfl)
  (of_decide_eq_true (by kernel_rfl)) (by unfold Func.isWrapper;rw [if_neg (of_decide_eq_false (by kernel_rfl))];exact ⟨rfl,rfl⟩)
  (fun os started H enc _=>strip_of <| law_lifted (C:=Try.checked) (s:=Rows.doxasticSetsSpec) (laid:=[]) knob started (by kernel_rfl) Try.func3 laidOut [25,28] Try.params3 rfl Try.underlying4 rfl (by kernel_rfl)
   (fun ds hds=>by match ds,hds with|[d1,d2],_=>rfl)
   (ChangeSpec.witness_shaped (enc:=enc) (C:=Try.checked) (os:=os) (X:=fun w _=>laidMetH Try.prog [] w) false (World.doorLaid Try.prog 14 os)
    #[.agg #[.int .i64 0,.slice none 0 0,.slice none 0 0,.slice none 0 0],.agg #[.int .i64 0,.int .i64 0,.int .u64 0,.int .u64 0,.int .u64 0]] 8 rfl (World.shaped_of_RefB (by kernel_rfl) (by kernel_rfl)) (by kernel_rfl) (by kernel_rfl) (by kernel_rfl) laid_nil)
   (fun W hL=>⟨noT,fun b o h=>h.elim,fun b h=>h.elim fun o h=>h.elim,fun ds hds=>by
    obtain ⟨p1,r,rfl,hc1,hp1,k1⟩:=arg25 hds
    obtain ⟨a2,w2,x2,y2,z2,r,rfl,k2⟩:=arg28 k1
    obtain rfl:=arg0 k2
    exact law_Sets p1 hp1 a2 w2 x2 y2 z2⟩))
end Go.Proofs.Ytffknaghkomefaa
