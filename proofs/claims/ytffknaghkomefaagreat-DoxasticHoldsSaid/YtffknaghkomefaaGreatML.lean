/- What is proved here: the law DoxasticHolds returns true at every input and leaves its arguments as they were. There is no further condition. -/
import Derived.Test.YtffknaghkomefaaGreatMK
set_option linter.unusedVariables false
set_option linter.unusedSimpArgs false
set_option linter.unusedSectionVars false
namespace Go.Ab
open Go Go.Proofs
section
open K
def f_wittinglaw34_DoxasticHolds:Nat:=3
def c_wittinglaw34_DoxasticHolds:CFn:=⟨69,[.tmp 6],(q [(.reg [o 3 (.box 4 (t 0)),o 6 (.mv (c .bf))]),
 (q [(.reg [o 15 (.call 4 []),o 16 (.un .not (t 15)),o 17 (m 16),g 18 17 false (la 4 3),g 19 17 false (m 1),g 20 17 false (.bslice 1 1 [(.nils 6)] [(0,(t 19))]),g 21 17 false (.call 5 [(t 18),(t 20)]),g 22 17 false (.un .not (t 21)),o 23 (pt 17 22)]),
 (i 23 (q [(.reg [o 24 (.call 4 []),o 6 (m 24)]),
 .ret]) .skip)]),
 (.reg [o 26 (la 4 3),o 27 (m 1),o 28 (.call 6 [(t 26),(t 27)]),o 25 (m 28),o 29 (e 25 0),o 30 (e 25 1),o 7 (m 29),o 8 (m 30)]),
 (.reg [o 32 (la 4 3),o 33 (m 1),o 34 (.call 7 [(t 32),(t 33)]),o 31 (m 34),o 35 (e 31 0),o 36 (e 31 1),o 9 (m 35),o 10 (m 36)]),
 (.reg [o 38 (la 4 3),o 39 (m 2),o 40 (m 1),o 41 (.call 8 [(t 38),(t 39),(t 40)]),o 37 (m 41),o 42 (e 37 0),o 43 (e 37 1),o 11 (m 42),o 12 (m 43)]),
 (.reg [o 45 (la 4 3),o 46 (m 2),o 47 (m 1),o 48 (.call 9 [(t 45),(t 46),(t 47)]),o 44 (m 48),o 49 (e 44 0),o 50 (e 44 1),o 13 (m 49),o 14 (m 50)]),
 (.reg [o 51 (m 7),o 52 (m 9),o 53 (b .eql 51 52),o 54 (m 53),g 55 54 true (m 8),g 56 54 true (m 10),g 57 54 true (b .eql 55 56),o 58 (pf 54 57),o 59 (m 58),g 60 59 true (m 11),g 61 59 true (m 13),g 62 59 true (.eqB false (t 60) (t 61)),o 63 (pf 59 62),o 64 (m 63),g 65 64 true (m 12),g 66 64 true (m 14),g 67 64 true (b .eql 65 66),o 68 (pf 64 67),o 6 (m 68)]),
 .ret])⟩
end
theorem k_wittinglaw34_DoxasticHolds:compFn Tryz.prog f_wittinglaw34_DoxasticHolds=some c_wittinglaw34_DoxasticHolds:=by kernel_rfl
end Go.Ab
namespace Go.Ab
open Go Go.Proofs
set_option linter.unusedSimpArgs false
set_option linter.unusedVariables false
set_option maxRecDepth 10000
set_option maxHeartbeats 4000000
variable {T:Nat→Obj→Prop}
theorem law_Holds (p:PM) (hp:IntsOk p.rank) (f:List Nd) (w:Int):Fn Tryz.prog T f_wittinglaw34_DoxasticHolds [.d (dPM p),.d (dF f),.d (.int .i64 w)] [] (.d (.bool true)) []:=by
 have hR:=ranks_ok (T:=T)
 have hA:=fn_awake (T:=T)
 have hF:=fn_few (T:=T) p [f]
 refine fn_dataR hmix k_wittinglaw34_DoxasticHolds (by show 3≤69;decide) ?_
 (repeat' ((conv=>whnf);first|refine TestS.no (by decide) ?_|refine vA ?_|refine vE ?_|((first|refine vF ?_ ?_|refine vI ?_ ?_)<;>intro hc<;>try simp only [vL] at hc)|refine vZ ?_|refine yD hA rfl rfl ?_|refine yD hF ⟨⟨rfl,rfl⟩,⟨rfl,rfl⟩,rfl⟩ rfl ?_|refine yN (fn_Holds hR p hp _) ⟨⟨rfl,rfl⟩,⟨rfl,rfl⟩,rfl⟩ ?_|refine yN (fn_Holds34 p hp _) ⟨⟨rfl,rfl⟩,⟨rfl,rfl⟩,rfl⟩ ?_|refine yN (fn_At hR p hp _ _) ⟨⟨rfl,rfl⟩,⟨rfl,rfl⟩,⟨rfl,rfl⟩,rfl⟩ ?_|refine yN (fn_At34 p hp _ _) ⟨⟨rfl,rfl⟩,⟨rfl,rfl⟩,⟨rfl,rfl⟩,rfl⟩ ?_));all_goals try conv=>whnf
 all_goals simp_all
end Go.Ab
namespace Go.Proofs.YtffknaghkomefaaGreat
open Go Go.Ab Go.RowKit Go.ChangeShapes Go.WideShapes
set_option linter.unusedVariables false
set_option maxRecDepth 100000 in
theorem doxasticHolds_holds:Rows.DoxasticHoldsSaid :=
 OpenClaim.holds_of_wide 3 Tryz.f3 rfl rfl rfl rfl rfl rfl rfl ⟨rfl,rfl,rfl,rfl,rfl⟩ rfl rfl rfl rfl rfl (by kernel_rfl) Tryz.func3 (by kernel_rfl)
  (of_decide_eq_true (by kernel_rfl)) (by unfold Func.isWrapper;rw [if_neg (of_decide_eq_false (by kernel_rfl))];exact ⟨rfl,rfl⟩)
  (fun os started H enc _=>strip_of <| law_lifted (C:=Tryz.checked) (s:=Rows.doxasticHoldsSpec) (laid:=[]) knob started (by kernel_rfl) Tryz.func3 laidOut [25,26,3] Tryz.params3 rfl Tryz.underlying4 rfl (by kernel_rfl)
   (fun ds hds=>by match ds,hds with|[d1,d2,d3],_=>rfl)
   (ChangeSpec.witness_shaped (enc:=enc) (C:=Tryz.checked) (os:=os) (X:=fun w _=>laidMetH Tryz.prog [] w) false (World.doorLaid Tryz.prog 14 os)
    #[.agg #[.int .i64 0,.slice none 0 0,.slice none 0 0,.slice none 0 0],.slice none 0 0,.int .i64 0] 8 rfl (World.shaped_of_RefB (by kernel_rfl) (by kernel_rfl)) (by kernel_rfl) (by kernel_rfl) (by kernel_rfl) laid_nil)
   (fun W hL=>⟨noT,fun b o h=>h.elim,fun b h=>h.elim fun o h=>h.elim,fun ds hds=>by
    obtain ⟨p1,r,rfl,hc1,hp1,k1⟩:=arg_plaus hds
    obtain ⟨f2,r,rfl,k2⟩:=arg_form k1
    obtain ⟨a3,r,rfl,ha3,k3⟩:=arg_int k2
    obtain rfl:=arg0 k3
    exact law_Holds p1 hp1 f2 a3⟩))
end Go.Proofs.YtffknaghkomefaaGreat
