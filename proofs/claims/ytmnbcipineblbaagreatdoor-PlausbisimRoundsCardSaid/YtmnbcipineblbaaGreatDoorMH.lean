/- What is proved here: the law PlausbisimRounds returns true at every input and leaves its arguments as they were. The condition is the row own: the listed table of math bits holds what the text lays. -/
import Derived.Test.YtmnbcipineblbaaGreatDoorMG
set_option linter.unusedVariables false
set_option linter.unusedSimpArgs false
set_option linter.unusedSectionVars false
namespace Go.Ab
open Go Go.Proofs
section
open K
def f_wittinglaw35_PlausbisimRounds:Nat:=3
def f_wittinglaw35_few:Nat:=10
def c_wittinglaw35_PlausbisimRounds:CFn:=⟨60,[.tmp 4],(q [(.reg [o 2 (.box 4 (t 0)),o 4 (.mv (c .bf))]),
 (q [(.reg [o 13 (la 4 2),o 14 (.call 10 [(t 13),(c (n 10))]),o 15 (.un .not (t 14))]),
 (i 15 (q [(.reg [o 16 (.call 11 []),o 4 (m 16)]),
 .ret]) .skip)]),
 (.reg [o 18 (la 4 2),o 19 (m 1),o 20 (.call 12 [(t 18),(t 19)]),o 17 (m 20),o 21 (e 17 0),o 22 (e 17 1),o 5 (m 21),o 6 (m 22)]),
 (.reg [o 24 (la 4 2),o 25 (m 1),o 26 (.call 13 [(t 24),(t 25)]),o 23 (m 26),o 27 (e 23 0),o 28 (e 23 1),o 7 (m 27),o 8 (m 28)]),
 (.reg [o 30 (la 4 2),o 31 (.call 14 [(t 30)]),o 29 (m 31),o 32 (e 29 0),o 33 (e 29 1),o 9 (m 32),o 10 (m 33)]),
 (.reg [o 35 (la 4 2),o 36 (.call 15 [(t 35)]),o 34 (m 36),o 37 (e 34 0),o 38 (e 34 1),o 11 (m 37),o 12 (m 38)]),
 (.reg [o 39 (m 5),o 40 (m 7),o 41 (.call 16 [(t 39),(t 40)]),o 42 (m 41),g 43 42 true (m 6),g 44 42 true (m 8),g 45 42 true (b .eql 43 44),o 46 (pf 42 45),o 47 (m 46),g 48 47 true (m 9),g 49 47 true (m 11),g 50 47 true (.call 16 [(t 48),(t 49)]),o 51 (pf 47 50),o 52 (m 51),g 53 52 true (m 10),g 54 52 true (m 12),g 55 52 true (b .eql 53 54),o 56 (pf 52 55),o 57 (m 56),g 58 57 true (.call 11 []),o 59 (pf 57 58),o 4 (m 59)]),
 .ret])⟩
def c_wittinglaw35_few:CFn:=⟨31,[.tmp 4],(q [(.reg [o 2 (.box 4 (t 0)),o 4 (.mv (c .bf))]),
 (.reg [o 5 (f 0 2),o 6 (l 5),o 7 (m 1),o 8 (b .leq 6 7),o 9 (m 8),g 10 9 true (f 1 2),g 11 9 true (l 10),g 12 9 true (ln 11),g 13 9 true (bc .leq 12 (n 10)),o 14 (pf 9 13),o 15 (m 14),g 16 15 true (f 2 2),g 17 15 true (l 16),g 18 15 true (ln 17),g 19 15 true (bc .leq 18 (n 6)),o 20 (pf 15 19),o 21 (m 20),g 22 21 true (f 3 2),g 23 21 true (l 22),g 24 21 true (ln 23),g 25 21 true (bc .leq 24 (n 6)),o 26 (pf 21 25),o 27 (m 26),g 28 27 true (la 4 2),g 29 27 true (.call 33 [(t 28)]),o 30 (pf 27 29),o 4 (m 30)]),
 .ret])⟩
end
theorem k_wittinglaw35_PlausbisimRounds:compFn Tryz.prog f_wittinglaw35_PlausbisimRounds=some c_wittinglaw35_PlausbisimRounds:=by kernel_rfl
theorem k_wittinglaw35_few:compFn Tryz.prog f_wittinglaw35_few=some c_wittinglaw35_few:=by kernel_rfl
end Go.Ab
namespace Go.Ab
open Go Go.Proofs
set_option linter.unusedSimpArgs false
set_option linter.unusedVariables false
set_option maxRecDepth 10000
set_option maxHeartbeats 4000000
variable {T:Nat→Obj→Prop}
def fewB (p:PM) (n:Int):Bool:=decide (p.W≤n)&&(decide (p.val.length≤10)&&(decide (p.cell.length≤6)&&(decide (p.rank.length≤6)&&decide (p.val.length≤20∧p.cell.length≤8∧p.rank.length≤8∧(∀ a,a < p.cell.length→(rowAt p.cell a).length≤20) ∧ ∀ a,a < p.rank.length→(rowAt p.rank a).length≤20))))
theorem fn_few35 (p:PM) (n:Int):Fn Tryz.prog T f_wittinglaw35_few [.d (dPM p),.d (.int .i64 n)] [] (.d (.bool (fewB p n))) []:=by
 refine fn_dataR hmix k_wittinglaw35_few (by show 2≤31;decide) ?_
 (repeat' ((conv=>whnf);first|refine vA ?_|(refine vF ?_ ?_<;>intro hc<;>try simp only [vL] at hc)|refine vJ fun hg=>?_|refine vT ?_|refine vZ ?_|refine yD (fn_Few p) ⟨⟨rfl,rfl⟩,rfl⟩ rfl ?_));all_goals try conv=>whnf
 ·rw [fewB,decide_eq_true ‹p.W≤n›,decide_eq_true (show p.val.length≤10 by omega),decide_eq_true (show p.cell.length≤6 by omega),decide_eq_true (show p.rank.length≤6 by omega)];rfl
 ·rw [fewB,decide_eq_true ‹p.W≤n›,decide_eq_true (show p.val.length≤10 by omega),decide_eq_true (show p.cell.length≤6 by omega),decide_eq_false (show ¬ p.rank.length≤6 by omega)];rfl
 ·rw [fewB,decide_eq_true ‹p.W≤n›,decide_eq_true (show p.val.length≤10 by omega),decide_eq_false (show ¬ p.cell.length≤6 by omega)];rfl
 ·rw [fewB,decide_eq_true ‹p.W≤n›,decide_eq_false (show ¬ p.val.length≤10 by omega)];rfl
 ·rw [fewB,decide_eq_false (show ¬ p.W≤n by omega)];rfl
theorem law_Rounds (hT:TzOk T) (p:PM) (hp:IntsOk p.rank) (n:Int):Fn Tryz.prog T f_wittinglaw35_PlausbisimRounds [.d (dPM p),.d (.int .i64 n)] [] (.d (.bool true)) []:=by
 have hR:=ranks_ok (T:=T)
 have hA:=fn_awake35 hT
 have hf:=fn_few35 (T:=T) p 10
 refine fn_dataR hmix k_wittinglaw35_PlausbisimRounds (by show 2≤60;decide) ?_
 cases hb:fewB p 10 with
 | false =>
  rw [hb] at hf
  (repeat' ((conv=>whnf);first|refine vA ?_|refine vE ?_|refine vH ?_|refine vT ?_|refine vZ ?_|refine yD hf ⟨⟨rfl,rfl⟩,⟨rfl,rfl⟩,rfl⟩ rfl ?_|refine yD hA (by (repeat refine ⟨⟨rfl,rfl⟩,?_⟩);rfl) rfl ?_));all_goals try conv=>whnf
 | true =>
  rw [hb] at hf
  (repeat' ((conv=>whnf);first|refine vA ?_|refine vE ?_|refine vG ?_|((first|refine vF ?_ ?_|refine vI ?_ ?_)<;>intro hc<;>try simp only [vL] at hc)|refine vT ?_|refine vZ ?_|refine yD hf ⟨⟨rfl,rfl⟩,⟨rfl,rfl⟩,rfl⟩ rfl ?_|refine yN (fn_pRounds hR p hp n) ⟨⟨rfl,rfl⟩,⟨rfl,rfl⟩,rfl⟩ ?_|refine yN (fn_rRounds35 p hp n) ⟨⟨rfl,rfl⟩,⟨rfl,rfl⟩,rfl⟩ ?_|refine yN (fn_pCoarsest hR p hp) ⟨⟨rfl,rfl⟩,rfl⟩ ?_|refine yN (fn_rCoarsest35 p hp) ⟨⟨rfl,rfl⟩,rfl⟩ ?_|refine yD (fn_Equal_int _ _) ⟨⟨rfl,rfl⟩,⟨rfl,rfl⟩,rfl⟩ rfl ?_|refine yD hA (by (repeat refine ⟨⟨rfl,rfl⟩,?_⟩);rfl) rfl ?_));all_goals try conv=>whnf
  all_goals first|(exact absurd trivial ‹¬True›)|(have h:=‹(_==_)=false›;simp at h)
end Go.Ab
namespace Go.Proofs.YtmnbcipineblbaaGreatDoor
open Go Go.Ab Go.RowKit Go.ChangeShapes Go.WideShapes
set_option linter.unusedVariables false
set_option maxRecDepth 100000 in
theorem plausbisimRounds_holds:Rows.PlausbisimRoundsSaid :=
 OpenClaim.holds_of_wide 3 Tryz.f3 rfl rfl rfl rfl rfl rfl rfl ⟨rfl,rfl,rfl,rfl,rfl⟩ rfl rfl rfl rfl rfl (by kernel_rfl) Tryz.func3 (by kernel_rfl)
  (of_decide_eq_true (by kernel_rfl)) (by unfold Func.isWrapper;rw [if_neg (of_decide_eq_false (by kernel_rfl))];exact ⟨rfl,rfl⟩)
  (fun os started H enc _=>law_lifted (C:=Tryz.checked) (s:=Rows.plausbisimRoundsSpec) (laid:=laidL) knob started (by kernel_rfl) Tryz.func3 laidOut [25,3] Tryz.params3 rfl Tryz.underlying4 rfl (by kernel_rfl)
   (fun ds hds=>by match ds,hds with|[d1,d2],_=>rfl)
   (ChangeSpec.witness_shaped (enc:=enc) (C:=Tryz.checked) (os:=os) (X:=fun w _=>laidMetH Tryz.prog laidL w) false (World.doorLaid Tryz.prog 14 os)
    #[.agg #[.int .i64 0,.slice none 0 0,.slice none 0 0,.slice none 0 0],.int .i64 0] 8 rfl (World.shaped_of_RefB (by kernel_rfl) (by kernel_rfl)) (by kernel_rfl) (by kernel_rfl) (by kernel_rfl) (door_met os _))
   (fun W hL=>⟨TOf W,(laid_T hL).1,(laid_T hL).2,fun ds hds=>by
    obtain ⟨p1,r,rfl,hc1,hp1,k1⟩:=arg_plaus hds
    obtain ⟨a2,r,rfl,ha2,k2⟩:=arg_int k1
    obtain rfl:=arg0 k2
    exact law_Rounds (tz_of hL) p1 hp1 a2⟩))
theorem plausbisimRounds_card:Rows.PlausbisimRoundsCardSaid :=
 Claim7.holds_tied_plain_at .later [] [.data] true (true, "18dfd4ab517486b5b4083ac9653826283ad51281ee160e75dab1c2a0d205e19f") false
  plausbisimRounds_holds (fun _ h=>by cases h) (by kernel_rfl) (fun _ h=>by cases h) plausbisimRounds_row_tie rfl ⟨rfl,rfl⟩ (by kernel_rfl) rfl
  (fun f fn hf hfn=>by
   obtain rfl:f=3:=Option.some.inj ((show Tryz.prog.funcNamed Rows.plausbisimRoundsRow.func=some 3 by kernel_rfl).symm.trans hf) |>.symm
   obtain rfl:fn=Tryz.f3:=(Option.some.inj (Tryz.func3.symm.trans hfn)).symm
   exact ⟨by kernel_rfl,fun j t ht=>by
    rw [Tryz.params3] at ht
    have hm:t∈[25,3]:=by
     have:=List.mem_of_getElem? (l:=[25,3]) (i:=j) (by simpa using ht)
     exact this
    have hall:([25,3].all fun t=>Tryz.prog.wantsStandIn t==false)=true:=by kernel_rfl
    exact eq_of_beq (List.all_eq_true.1 hall t hm)⟩)
  (by kernel_rfl)
end Go.Proofs.YtmnbcipineblbaaGreatDoor
