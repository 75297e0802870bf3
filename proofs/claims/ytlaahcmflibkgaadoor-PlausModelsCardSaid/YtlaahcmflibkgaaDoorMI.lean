/- What is proved here: the law PlausModels of chapter 33 returns true at every input and leaves its arguments as they were; the condition is the row own: the listed table of math bits holds what the text lays. -/
import Derived.Test.YtlaahcmflibkgaaDoorMH
set_option linter.unusedVariables false
set_option linter.unusedSimpArgs false
set_option linter.unusedSectionVars false
namespace Go.Ab
open Go Go.Proofs
section
open K
def f_wittinglaw33_PlausModels:Nat:=8
def c_wittinglaw33_PlausModels:CFn:=⟨84,[.tmp 4],(q [(.reg [o 2 (.box 4 (t 0)),o 4 (.mv (c .bf))]),
 (q [(.reg [o 17 (la 4 2),o 18 (.call 10 [(t 17)]),o 19 (.un .not (t 18))]),
 (i 19 (q [(.reg [o 20 (.call 11 []),o 4 (m 20)]),
 .ret]) .skip)]),
 (.reg [o 22 (la 4 2),o 23 (m 1),o 24 (.call 20 [(t 22),(t 23)]),o 21 (m 24),o 25 (e 21 0),o 26 (e 21 1),o 5 (m 25),o 6 (m 26)]),
 (.reg [o 28 (la 4 2),o 29 (m 1),o 30 (.call 24 [(t 28),(t 29)]),o 27 (m 30),o 31 (e 27 0),o 32 (e 27 1),o 7 (m 31),o 8 (m 32)]),
 (.reg [o 34 (la 4 2),o 35 (.call 25 [(t 34)]),o 33 (m 35),o 36 (e 33 0),o 37 (e 33 1),o 9 (.alloc [(n 0),(.nils 1),(.nils 1)]),w (.store 3 (t 9) (t 36)),o 10 (m 37)]),
 (.reg [o 39 (la 4 2),o 40 (.call 26 [(t 39)]),o 38 (m 40),o 41 (e 38 0),o 42 (e 38 1),o 11 (.alloc [(n 0),(.nils 1),(.nils 1)]),w (.store 3 (t 11) (t 41)),o 12 (m 42)]),
 (.reg [o 44 (la 4 2),o 45 (.call 27 [(t 44)]),o 43 (m 45),o 46 (e 43 0),o 47 (e 43 1),o 13 (.alloc [(n 0),(.nils 1),(.nils 1)]),w (.store 3 (t 13) (t 46)),o 14 (m 47)]),
 (.reg [o 49 (la 4 2),o 50 (.call 28 [(t 49)]),o 48 (m 50),o 51 (e 48 0),o 52 (e 48 1),o 15 (.alloc [(n 0),(.nils 1),(.nils 1)]),w (.store 3 (t 15) (t 51)),o 16 (m 52)]),
 (.reg [o 53 (m 6),o 54 (m 8),o 55 (b .eql 53 54),o 56 (m 55),g 57 56 true (m 10),g 58 56 true (m 12),g 59 56 true (b .eql 57 58),o 60 (pf 56 59),o 61 (m 60),g 62 61 true (m 14),g 63 61 true (m 16),g 64 61 true (b .eql 62 63),o 65 (pf 61 64),o 66 (m 65),g 67 66 true (m 5),g 68 66 true (m 7),g 69 66 true (.call 22 [(t 67),(t 68)]),o 70 (pf 66 69),o 71 (m 70),g 72 71 true (la 3 9),g 73 71 true (la 3 11),g 74 71 true (.call 29 [(t 72),(t 73)]),o 75 (pf 71 74),o 76 (m 75),g 77 76 true (la 3 13),g 78 76 true (la 3 15),g 79 76 true (.call 29 [(t 77),(t 78)]),o 80 (pf 76 79),o 81 (m 80),g 82 81 true (.call 11 []),o 83 (pf 81 82),o 4 (m 83)]),
 .ret])⟩
end
theorem k_wittinglaw33_PlausModels:compFn Tryd.prog f_wittinglaw33_PlausModels=some c_wittinglaw33_PlausModels:=by kernel_rfl
end Go.Ab
namespace Go.Ab
open Go Go.Proofs
set_option linter.unusedSimpArgs false
set_option linter.unusedVariables false
set_option maxRecDepth 10000
set_option maxHeartbeats 4000000
variable {T:Nat→Obj→Prop}
set_option maxHeartbeats 4000000 in
theorem law_Models (hT:TzOk T) (p:PM) (hp:IntsOk p.rank) (a:Int):Fn Tryd.prog T f_wittinglaw33_PlausModels [.d (dPM p),.d (.int .i64 a)] [] (.d (.bool true)) []:=by
 have hR:=ranks_ok (T:=T)
 have hA:=fn_awake hT
 refine fn_dataR hmix k_wittinglaw33_PlausModels (by show 2≤84;decide) ?_
 (repeat' ((conv=>whnf);first|refine vA ?_|refine vE ?_|((first|refine vF ?_ ?_|refine vI ?_ ?_)<;>intro hc<;>try simp only [vL] at hc)|refine vZ ?_|refine yD (fn_Few _) ⟨⟨rfl,rfl⟩,rfl⟩ rfl ?_|refine yD hA rfl rfl ?_|refine yN (fn_Weaker hR _ hp _) ⟨⟨rfl,rfl⟩,⟨rfl,rfl⟩,rfl⟩ ?_|refine yN (fn_ref33_Weaker _ hp _) ⟨⟨rfl,rfl⟩,⟨rfl,rfl⟩,rfl⟩ ?_|refine yN (fn_Knowledge hR _ hp) ⟨⟨rfl,rfl⟩,rfl⟩ ?_|refine yN (fn_ref33_Knowledge _ hp) ⟨⟨rfl,rfl⟩,rfl⟩ ?_|refine yN (fn_Belief hR _ hp) ⟨⟨rfl,rfl⟩,rfl⟩ ?_|refine yN (fn_ref33_Belief _ hp) ⟨⟨rfl,rfl⟩,rfl⟩ ?_|refine yD (fn_ref02_Same _ _) ⟨⟨rfl,rfl⟩,⟨rfl,rfl⟩,rfl⟩ rfl ?_|refine yD (fn_sameModel _ _) ⟨⟨rfl,rfl⟩,⟨rfl,rfl⟩,rfl⟩ rfl ?_));all_goals try conv=>whnf
 all_goals first|rfl|exact absurd trivial hc|(simp at hc)
end Go.Ab
namespace Go.Proofs.YtlaahcmflibkgaaDoor
open Go Go.Ab Go.RowKit Go.ChangeShapes Go.WideShapes
set_option linter.unusedVariables false
set_option maxRecDepth 100000 in
theorem plausModels_holds:Rows.PlausModelsSaid :=
 OpenClaim.holds_of_wide 8 Tryd.f8 rfl rfl rfl rfl rfl rfl rfl ⟨rfl,rfl,rfl,rfl,rfl⟩ rfl rfl rfl rfl rfl (by kernel_rfl) Tryd.func8 (by kernel_rfl)
  (of_decide_eq_true (by kernel_rfl)) (by unfold Func.isWrapper;rw [if_neg (of_decide_eq_false (by kernel_rfl))];exact ⟨rfl,rfl⟩)
  (fun os started H enc _=>law_lifted (C:=Tryd.checked) (s:=Rows.plausModelsSpec) (laid:=laidL) knob started (by kernel_rfl) Tryd.func8 laidOut [25,3] Tryd.params8 rfl Tryd.underlying4 rfl (by kernel_rfl)
   (fun ds hds=>by match ds,hds with|[d1,d2],_=>rfl)
   (ChangeSpec.witness_shaped (enc:=enc) (C:=Tryd.checked) (os:=os) (X:=fun w _=>laidMetH Tryd.prog laidL w) false (World.doorLaid Tryd.prog 14 os)
    #[.agg #[.int .i64 0,.slice none 0 0,.slice none 0 0,.slice none 0 0],.int .i64 0] 8 rfl (World.shaped_of_RefB (by kernel_rfl) (by kernel_rfl)) (by kernel_rfl) (by kernel_rfl) (by kernel_rfl) (door_met os _))
   (fun W hL=>⟨TOf W,(laid_T hL).1,(laid_T hL).2,fun ds hds=>by
    obtain ⟨p1,r,rfl,hc1,hp1,k1⟩:=arg25 hds
    obtain ⟨a2,r,rfl,ha2,k2⟩:=arg3 k1
    obtain rfl:=arg0 k2
    exact law_Models (tz_of hL) p1 hp1 a2⟩))
theorem plausModels_card:Rows.PlausModelsCardSaid :=
 Claim7.holds_tied_plain_at .later [] [.data] true (true, "94bee8f41b3226e5d37178b5def64642b3a338ae831b1aec4758e198409df0af") false
  plausModels_holds (fun _ h=>by cases h) (by kernel_rfl) (fun _ h=>by cases h) plausModels_row_tie rfl ⟨rfl,rfl⟩ (by kernel_rfl) rfl
  (fun f fn hf hfn=>by
   obtain rfl:f=8:=Option.some.inj ((show Tryd.prog.funcNamed Rows.plausModelsRow.func=some 8 by kernel_rfl).symm.trans hf) |>.symm
   obtain rfl:fn=Tryd.f8:=(Option.some.inj (Tryd.func8.symm.trans hfn)).symm
   exact ⟨by kernel_rfl,fun j t ht=>by
    rw [Tryd.params8] at ht
    have hm:t∈[25,3]:=by
     have:=List.mem_of_getElem? (l:=[25,3]) (i:=j) (by simpa using ht)
     exact this
    have hall:([25,3].all fun t=>Tryd.prog.wantsStandIn t==false)=true:=by kernel_rfl
    exact eq_of_beq (List.all_eq_true.1 hall t hm)⟩)
  (by kernel_rfl)
end Go.Proofs.YtlaahcmflibkgaaDoor
