/- What is proved here: the law PlausbisimMinimize returns true at every input and leaves its arguments as they were. The condition is the row own: the listed table of math bits holds what the text lays. -/
import Derived.Test.YtmnbcipineblbaaGreatDoorMH
set_option linter.unusedVariables false
set_option linter.unusedSimpArgs false
set_option linter.unusedSectionVars false
namespace Go.Ab
open Go Go.Proofs
section
open K
def zbD:Nat:=4
def zdP:CFn:=⟨41,[.tmp 2],(q [(.reg [o 1 (.box 4 (t 0)),o 2 (.mv (c .bf))]),
 (q [(.reg [o 9 (la 4 1),o 10 (.call 10 [(t 9),(c (n 10))]),o 11 (.un .not (t 10))]),
 (i 11 (q [(.reg [o 12 (.call 11 []),o 2 (m 12)]),
 .ret]) .skip)]),
 (.reg [o 14 (la 4 1),o 15 (.call 17 [(t 14)]),o 13 (m 15),o 16 (e 13 0),o 17 (e 13 1),o 18 (e 13 2),o 3 (.alloc [(n 0),(.nils 1),(.nils 1),(.nils 1)]),w (.store 4 (t 3) (t 16)),o 4 (m 17),o 5 (m 18)]),
 (.reg [o 20 (la 4 1),o 21 (.call 18 [(t 20)]),o 19 (m 21),o 22 (e 19 0),o 23 (e 19 1),o 24 (e 19 2),o 6 (.alloc [(n 0),(.nils 1),(.nils 1),(.nils 1)]),w (.store 4 (t 6) (t 22)),o 7 (m 23),o 8 (m 24)]),
 (.reg [o 25 (la 4 3),o 26 (la 4 6),o 27 (.call 19 [(t 25),(t 26)]),o 28 (m 27),g 29 28 true (m 4),g 30 28 true (m 7),g 31 28 true (.call 16 [(t 29),(t 30)]),o 32 (pf 28 31),o 33 (m 32),g 34 33 true (m 5),g 35 33 true (m 8),g 36 33 true (b .eql 34 35),o 37 (pf 33 36),o 38 (m 37),g 39 38 true (.call 11 []),o 40 (pf 38 39),o 2 (m 40)]),
 .ret])⟩
end
theorem zdV:zh Tryz.prog zbD=some zdP:=by kernel_rfl
end Go.Ab
namespace Go.Ab
open Go Go.Proofs
set_option maxRecDepth 10000
set_option maxHeartbeats 4000000
variable {T:Nat→Obj→Prop}
theorem zrY (hT:zd3 T) (p:PM) (hp:zav p.rank):Fn Tryz.prog T zbD [.d (dPM p)] [] (.d (.bool true)) []:=by
 have hA:=zuf hT
 have hf:=zw0 (T:=T) p 10
 refine zd zw zdV (by show 1≤41;decide) ?_
 cases hb:zlB p 10 with
 | false =>
  rw [hb] at hf
  (repeat' ((conv=>whnf);first|refine vA ?_|refine vE ?_|refine vH ?_|refine vT ?_|refine vZ ?_|refine yD hf ⟨⟨rfl,rfl⟩,⟨rfl,rfl⟩,rfl⟩ rfl ?_|refine yD hA (by (repeat refine ⟨⟨rfl,rfl⟩,?_⟩);rfl) rfl ?_));all_goals try conv=>whnf
 | true =>
  rw [hb] at hf
  have hW:p.W≤12:=by
   have:=hb;unfold zlB at this;simp only [Bool.and_eq_true,decide_eq_true_eq] at this;omega
  (repeat' ((conv=>whnf);first|refine vA ?_|refine vE ?_|refine vG ?_|((first|refine vF ?_ ?_|refine vI ?_ ?_)<;>intro hc<;>try simp only [vL] at hc)|refine vT ?_|refine vZ ?_|refine yD hf ⟨⟨rfl,rfl⟩,⟨rfl,rfl⟩,rfl⟩ rfl ?_|refine yN (zsY hT p hp hW) ⟨⟨rfl,rfl⟩,rfl⟩ ?_|refine yN (zrP p hp) ⟨⟨rfl,rfl⟩,rfl⟩ ?_|refine yD (zqC _ _) ⟨⟨rfl,rfl⟩,⟨rfl,rfl⟩,rfl⟩ rfl ?_|refine yD (zlH _ _) ⟨⟨rfl,rfl⟩,⟨rfl,rfl⟩,rfl⟩ rfl ?_|refine yD hA (by (repeat refine ⟨⟨rfl,rfl⟩,?_⟩);rfl) rfl ?_));all_goals try conv=>whnf
  all_goals first|(exact absurd trivial ‹¬True›)|(have h:=‹(_==_)=false›;simp at h)
end Go.Ab
namespace Go.Proofs.YtmnbcipineblbaaGreatDoor
open Go Go.Ab Go.RowKit Go.ChangeShapes Go.WideShapes
set_option maxRecDepth 100000 in
theorem plausbisimMinimize_holds:Rows.PlausbisimMinimizeSaid :=
 OpenClaim.holds_of_wide 4 Tryz.f4 rfl rfl rfl rfl rfl rfl rfl ⟨rfl,rfl,rfl,rfl,rfl⟩ rfl rfl rfl rfl rfl (by kernel_rfl) Tryz.func4 (by kernel_rfl)
  (of_decide_eq_true (by kernel_rfl)) (by unfold Func.isWrapper;rw [if_neg (of_decide_eq_false (by kernel_rfl))];exact ⟨rfl,rfl⟩)
  (fun os started H enc _=>zuo (C:=Tryz.checked) (s:=Rows.plausbisimMinimizeSpec) (laid:=laidL) knob started (by kernel_rfl) Tryz.func4 laidOut [25] Tryz.params4 rfl Tryz.underlying4 rfl (by kernel_rfl)
   (fun ds hds=>by match ds,hds with|[d1],_=>rfl)
   (ChangeSpec.witness_shaped (enc:=enc) (C:=Tryz.checked) (os:=os) (X:=fun w _=>laidMetH Tryz.prog laidL w) false (World.doorLaid Tryz.prog 14 os)
    #[.agg #[.int .i64 0,.slice none 0 0,.slice none 0 0,.slice none 0 0]] 8 rfl (World.shaped_of_RefB (by kernel_rfl) (by kernel_rfl)) (by kernel_rfl) (by kernel_rfl) (by kernel_rfl) (door_met os _))
   (fun W hL=>⟨TOf W,(zvw hL).1,(zvw hL).2,fun ds hds=>by
    obtain ⟨p1,r,rfl,hc1,hp1,k1⟩:=zuX hds
    obtain rfl:=zzL k1
    exact zrY (tz_of hL) p1 hp1⟩))
theorem plausbisimMinimize_card:Rows.PlausbisimMinimizeCardSaid :=
 Claim7.holds_tied_plain_at .later [] [.data] true (true, "18dfd4ab517486b5b4083ac9653826283ad51281ee160e75dab1c2a0d205e19f") false
  plausbisimMinimize_holds (fun _ h=>by cases h) (by kernel_rfl) (fun _ h=>by cases h) plausbisimMinimize_row_tie rfl ⟨rfl,rfl⟩ (by kernel_rfl) rfl
  (fun f fn hf hfn=>by
   obtain rfl:f=4:=Option.some.inj ((show Tryz.prog.funcNamed Rows.plausbisimMinimizeRow.func=some 4 by kernel_rfl).symm.trans hf) |>.symm
   obtain rfl:fn=Tryz.f4:=(Option.some.inj (Tryz.func4.symm.trans hfn)).symm
   exact ⟨by kernel_rfl,fun j t ht=>by
    rw [Tryz.params4] at ht
    have hm:t∈[25]:=by
     have:=List.mem_of_getElem? (l:=[25]) (i:=j) (by simpa using ht)
     exact this
    have hall:([25].all fun t=>Tryz.prog.wantsStandIn t==false)=true:=by kernel_rfl
    exact eq_of_beq (List.all_eq_true.1 hall t hm)⟩)
  (by kernel_rfl)
end Go.Proofs.YtmnbcipineblbaaGreatDoor
