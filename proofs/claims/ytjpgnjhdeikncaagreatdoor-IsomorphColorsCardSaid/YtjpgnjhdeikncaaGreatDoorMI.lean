/- What is proved here: the law IsomorphColors returns true at every input and leaves its arguments as they were. The condition is the row own: the listed table of math bits holds what the text lays. -/
import Derived.Test.YtjpgnjhdeikncaaGreatDoorMH
set_option linter.unusedVariables false
set_option linter.unusedSimpArgs false
set_option linter.unusedSectionVars false
namespace Go.Ab
open Go Go.Proofs
section
open K
def f_wittinglaw16_IsomorphColors:Nat:=3
def c_wittinglaw16_IsomorphColors:CFn:=⟨64,[.tmp 2],(q [(.reg [o 1 (.box 3 (t 0)),o 2 (.mv (c .bf))]),
 (q [(.reg [o 11 (la 3 1),o 12 (.call 13 [(t 11),(c (n 10))]),o 13 (.un .not (t 12))]),
 (i 13 (q [(.reg [o 14 (.call 14 []),o 2 (m 14)]),
 .ret]) .skip)]),
 (.reg [o 16 (la 3 1),o 17 (.call 15 [(t 16)]),o 15 (m 17),o 18 (e 15 0),o 19 (e 15 1),o 3 (m 18),o 4 (m 19)]),
 (.reg [o 21 (la 3 1),o 22 (.call 16 [(t 21)]),o 20 (m 22),o 23 (e 20 0),o 24 (e 20 1),o 5 (m 23),o 6 (m 24)]),
 (.reg [o 7 (.mv (c (n 0))),o 8 (.mv (c (n 0)))]),
 (.reg [o 9 (.mv (c (n 0))),o 10 (.mv (c (n 0)))]),
 (q [(.reg [o 25 (f 0 1),o 26 (l 25),o 27 (bc .leq 26 (n 6)),o 28 (m 27),g 29 28 false (f 0 1),g 30 28 false (l 29),g 31 28 false (bc .gtr 30 (n 8)),o 32 (pt 28 31)]),
 (i 32 (q [(.reg [o 34 (la 3 1),o 35 (.call 17 [(t 34)]),o 33 (m 35),o 36 (e 33 0),o 37 (e 33 1),o 7 (m 36),o 8 (m 37)]),
 (.reg [o 39 (la 3 1),o 40 (.call 18 [(t 39)]),o 38 (m 40),o 41 (e 38 0),o 42 (e 38 1),o 9 (m 41),o 10 (m 42)])]) .skip)]),
 (.reg [o 43 (m 3),o 44 (m 5),o 45 (.call 19 [(t 43),(t 44)]),o 46 (m 45),g 47 46 true (m 4),g 48 46 true (m 6),g 49 46 true (b .eql 47 48),o 50 (pf 46 49),o 51 (m 50),g 52 51 true (m 7),g 53 51 true (m 9),g 54 51 true (b .eql 52 53),o 55 (pf 51 54),o 56 (m 55),g 57 56 true (m 8),g 58 56 true (m 10),g 59 56 true (b .eql 57 58),o 60 (pf 56 59),o 61 (m 60),g 62 61 true (.call 14 []),o 63 (pf 61 62),o 2 (m 63)]),
 .ret])⟩
end
theorem k_wittinglaw16_IsomorphColors:zi Tryz.prog f_wittinglaw16_IsomorphColors=some c_wittinglaw16_IsomorphColors:=by kernel_rfl
end Go.Ab
namespace Go.Ab
open Go Go.Proofs
set_option maxRecDepth 10000
set_option maxHeartbeats 4000000
variable {T:Nat→Obj→Prop}
theorem law_Colors (hT:zeN T) (m:KM):Fn Tryz.prog T f_wittinglaw16_IsomorphColors [.d (dKM m)] [] (.d (.bool true)) []:=by
 have hA:=zv7 hT
 have hf:=zwo (T:=T) m 10
 refine zg zp k_wittinglaw16_IsomorphColors (by show 1≤64;decide) ?_
 cases hbw:zoz m 10 with
 | false =>
  rw [hbw] at hf
  (repeat' ((conv=>whnf);first|refine vA ?_|refine vB fun b hb=>?_|refine vC (fun hl=>?_) fun i kv vv hi=>?_|refine vE ?_|refine vG ?_|refine vH ?_|((first|refine vD ?_ ?_|refine vF ?_ ?_|refine vI ?_ ?_)<;>intro hc<;>try simp only [vL] at hc)|refine vJ fun hg=>?_|refine vK fun hg=>?_|refine vT ?_|refine vN ‹_› ?_|(refine vQ ?_ fun x hx=>?_;·first|omega|(simp only [vM] at *;omega))|((first|refine vO ?_ ?_|refine vR ?_ ‹_› ?_|refine vS ?_ fun x hx=>?_|refine vP ?_ ?_);·first|omega|(simp only [vM] at *;omega))|refine vW ⟨by omega,by omega⟩ ?_|(refine vU ?_ ?_;·kernel_rfl)|refine vX ?_|refine vY ?_|refine vZ ?_|refine yD hf ⟨⟨rfl,rfl⟩,⟨rfl,rfl⟩,rfl⟩ rfl ?_|refine yD hA (by (repeat refine ⟨⟨rfl,rfl⟩,?_⟩);rfl) rfl ?_|refine yN hA (by (repeat refine ⟨⟨rfl,rfl⟩,?_⟩);rfl) ?_|refine za.mk _ ‹_› ?_|refine vP (show (_:BitVec 64)≠_ by decide) ?_));all_goals try conv=>whnf
 | true =>
  rw [hbw] at hf
  have h12:zj m=0→m.W≤12:=fun h0=>by
   have:=of_decide_eq_true hbw
   have w2:=(zw h0).w2
   omega
  have ci:=zfP hT m h12
  have cr:=zv8 (T:=T) m
  (repeat' ((conv=>whnf);first|refine vA ?_|refine vB fun b hb=>?_|refine vC (fun hl=>?_) fun i kv vv hi=>?_|refine vE ?_|refine vG ?_|refine vH ?_|((first|refine vD ?_ ?_|refine vF ?_ ?_|refine vI ?_ ?_)<;>intro hc<;>try simp only [vL] at hc)|refine vJ fun hg=>?_|refine vK fun hg=>?_|refine vT ?_|refine vN ‹_› ?_|(refine vQ ?_ fun x hx=>?_;·first|omega|(simp only [vM] at *;omega))|((first|refine vO ?_ ?_|refine vR ?_ ‹_› ?_|refine vS ?_ fun x hx=>?_|refine vP ?_ ?_);·first|omega|(simp only [vM] at *;omega))|refine vW ⟨by omega,by omega⟩ ?_|(refine vU ?_ ?_;·kernel_rfl)|refine vX ?_|refine vY ?_|refine vZ ?_|refine yD hf ⟨⟨rfl,rfl⟩,⟨rfl,rfl⟩,rfl⟩ rfl ?_|refine yN ci ⟨⟨rfl,rfl⟩,rfl⟩ ?_|refine yN cr ⟨⟨rfl,rfl⟩,rfl⟩ ?_|refine yD (zvH _ _) ⟨⟨rfl,rfl⟩,⟨rfl,rfl⟩,rfl⟩ rfl ?_|refine yD hA (by (repeat refine ⟨⟨rfl,rfl⟩,?_⟩);rfl) rfl ?_|refine yN hA (by (repeat refine ⟨⟨rfl,rfl⟩,?_⟩);rfl) ?_|refine yN (ztu hT _) ⟨⟨rfl,rfl⟩,rfl⟩ ?_|refine yN (zsZ _) ⟨⟨rfl,rfl⟩,rfl⟩ ?_|refine za.mk _ ‹_› ?_|refine vP (show (_:BitVec 64)≠_ by decide) ?_));all_goals try conv=>whnf
  all_goals first|exact absurd trivial ‹¬True›|exact absurd (beq_self_eq_true _) (by rw [hc];decide)|skip
end Go.Ab
namespace Go.Proofs.YtjpgnjhdeikncaaGreatDoor
open Go Go.Ab Go.RowKit Go.ChangeShapes Go.WideShapes
set_option maxRecDepth 100000 in
theorem isomorphColors_holds:Rows.IsomorphColorsSaid :=
 OpenClaim.holds_of_wide 3 Tryz.f3 rfl rfl rfl rfl rfl rfl rfl ⟨rfl,rfl,rfl,rfl,rfl⟩ rfl rfl rfl rfl rfl (by kernel_rfl) Tryz.func3 (by kernel_rfl)
  (of_decide_eq_true (by kernel_rfl)) (by unfold Func.isWrapper;rw [if_neg (of_decide_eq_false (by kernel_rfl))];exact ⟨rfl,rfl⟩)
  (fun os started H enc _=>zwb (C:=Tryz.checked) (s:=Rows.isomorphColorsSpec) (laid:=laidL) knob started (by kernel_rfl) Tryz.func3 laidOut [25] Tryz.params3 rfl Tryz.underlying4 rfl (by kernel_rfl)
   (fun ds hds=>by match ds,hds with|[d1],_=>rfl)
   (ChangeSpec.witness_shaped (enc:=enc) (C:=Tryz.checked) (os:=os) (X:=fun w _=>laidMetH Tryz.prog laidL w) false (World.doorLaid Tryz.prog 14 os)
    #[.agg #[.int .i64 0,.slice none 0 0,.slice none 0 0]] 8 rfl (World.shaped_of_RefB (by kernel_rfl) (by kernel_rfl)) (by kernel_rfl) (by kernel_rfl) (by kernel_rfl) (door_met os _))
   (fun W hL=>⟨TOf W,(zwr hL).1,(zwr hL).2,fun ds hds=>by
    obtain ⟨m1,r,rfl,hm1,k1⟩:=zwg hds
    obtain rfl:=zwu k1
    exact law_Colors (tz_of hL) m1⟩))
theorem isomorphColors_card:Rows.IsomorphColorsCardSaid :=
 Claim7.holds_tied_plain_at .later [] [.data] true (true, "c96b12866c1abf5fdfd17610126ecda506524b3457cc7270fbd11550e856ea1c") false
  isomorphColors_holds (fun _ h=>by cases h) (by kernel_rfl) (fun _ h=>by cases h) isomorphColors_row_tie rfl ⟨rfl,rfl⟩ (by kernel_rfl) rfl
  (fun f fn hf hfn=>by
   obtain rfl:f=3:=Option.some.inj ((show Tryz.prog.funcNamed Rows.isomorphColorsRow.func=some 3 by kernel_rfl).symm.trans hf) |>.symm
   obtain rfl:fn=Tryz.f3:=(Option.some.inj (Tryz.func3.symm.trans hfn)).symm
   exact ⟨by kernel_rfl,fun j t ht=>by
    rw [Tryz.params3] at ht
    have hm:t∈[25]:=by
     have:=List.mem_of_getElem? (l:=[25]) (i:=j) (by simpa using ht)
     exact this
    have hall:([25].all fun t=>Tryz.prog.wantsStandIn t==false)=true:=by kernel_rfl
    exact eq_of_beq (List.all_eq_true.1 hall t hm)⟩)
  (by kernel_rfl)
end Go.Proofs.YtjpgnjhdeikncaaGreatDoor
