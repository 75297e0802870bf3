/- What is proved here: the law QuotientSame returns true at every input and leaves its arguments as they were. The condition is the row own: the listed table of math bits holds what the text lays. -/
import Derived.Test.YtjehkdhnhfghiaaGreatDoorMH
set_option linter.unusedVariables false
set_option linter.unusedSimpArgs false
set_option linter.unusedSectionVars false
namespace Go.Ab
open Go Go.Proofs
section
open K
def f_wittinglaw20_QuotientBy:Nat:=4
def f_wittinglaw20_QuotientSame:Nat:=9
def c_wittinglaw20_QuotientBy:CFn:=⟨77,[.tmp 4],(q [(.reg [o 2 (.box 3 (t 0)),o 4 (.mv (c .bf))]),
 (q [(.reg [o 11 (la 3 2),o 12 (.call 13 [(t 11),(c (n 10))]),o 13 (.un .not (t 12)),o 14 (m 13),g 15 14 false (m 1),g 16 14 false (ln 15),g 17 14 false (bc .gtr 16 (n 70)),o 18 (pt 14 17)]),
 (i 18 (q [(.reg [o 19 (.call 21 []),o 4 (m 19)]),
 .ret]) .skip)]),
 (.reg [o 21 (la 3 2),o 22 (m 1),o 23 (.call 22 [(t 21),(t 22)]),o 20 (m 23),o 24 (e 20 0),o 25 (e 20 1),o 26 (e 20 2),o 5 (.alloc [(n 0),(.nils 1),(.nils 1)]),w (.store 3 (t 5) (t 24)),o 6 (m 25),o 7 (m 26)]),
 (.reg [o 28 (la 3 2),o 29 (m 1),o 30 (.call 23 [(t 28),(t 29)]),o 27 (m 30),o 31 (e 27 0),o 32 (e 27 1),o 33 (e 27 2),o 8 (.alloc [(n 0),(.nils 1),(.nils 1)]),w (.store 3 (t 8) (t 31)),o 9 (m 32),o 10 (m 33)]),
 (q [(.reg [o 34 (m 7),o 35 (m 10),o 36 (b .neq 34 35),o 37 (m 36),g 38 37 false (la 3 5),g 39 37 false (la 3 8),g 40 37 false (.call 24 [(t 38),(t 39)]),g 41 37 false (.un .not (t 40)),o 42 (pt 37 41),o 43 (m 42),g 44 43 false (m 6),g 45 43 false (m 9),g 46 43 false (.call 25 [(t 44),(t 45)]),g 47 43 false (.un .not (t 46)),o 48 (pt 43 47)]),
 (i 48 (q [(.reg [o 4 (.mv (c .bf))]),
 .ret]) .skip)]),
 (.reg [o 50 (la 3 2),o 51 (.call 18 [(t 50)]),o 49 (m 51),o 52 (e 49 0),o 53 (e 49 1),o 54 (e 49 2),w (.store 3 (t 5) (t 52)),o 6 (m 53),o 7 (m 54)]),
 (.reg [o 56 (la 3 2),o 57 (.call 26 [(t 56)]),o 55 (m 57),o 58 (e 55 0),o 59 (e 55 1),o 60 (e 55 2),w (.store 3 (t 8) (t 58)),o 9 (m 59),o 10 (m 60)]),
 (.reg [o 61 (m 7),o 62 (m 10),o 63 (b .eql 61 62),o 64 (m 63),g 65 64 true (la 3 5),g 66 64 true (la 3 8),g 67 64 true (.call 24 [(t 65),(t 66)]),o 68 (pf 64 67),o 69 (m 68),g 70 69 true (m 6),g 71 69 true (m 9),g 72 69 true (.call 25 [(t 70),(t 71)]),o 73 (pf 69 72),o 74 (m 73),g 75 74 true (.call 21 []),o 76 (pf 74 75),o 4 (m 76)]),
 .ret])⟩
def c_wittinglaw20_QuotientSame:CFn:=⟨51,[.tmp 6],(q [(.reg [o 3 (.box 3 (t 0)),o 4 (.box 3 (t 1)),o 5 (.box 2 (t 2)),o 6 (.mv (c .bf))]),
 (q [(.reg [o 11 (la 3 3),o 12 (.call 13 [(t 11),(c (n 8))]),o 13 (.un .not (t 12)),o 14 (m 13),g 15 14 false (la 3 4),g 16 14 false (.call 13 [(t 15),(c (n 8))]),g 17 14 false (.un .not (t 16)),o 18 (pt 14 17)]),
 (i 18 (q [(.reg [o 19 (.call 21 []),o 6 (m 19)]),
 .ret]) .skip)]),
 (.reg [o 21 (la 3 3),o 22 (.iaddrA 2 1 (t 5) (c (n 0))),o 23 (l 22),o 24 (la 3 4),o 25 (.iaddrA 2 1 (t 5) (c (n 1))),o 26 (l 25),o 27 (.call 35 [(t 21),(t 23),(t 24),(t 26)]),o 20 (m 27),o 28 (e 20 0),o 29 (e 20 1),o 7 (m 28),o 8 (m 29)]),
 (.reg [o 31 (la 3 3),o 32 (.iaddrA 2 1 (t 5) (c (n 0))),o 33 (l 32),o 34 (la 3 4),o 35 (.iaddrA 2 1 (t 5) (c (n 1))),o 36 (l 35),o 37 (.call 36 [(t 31),(t 33),(t 34),(t 36)]),o 30 (m 37),o 38 (e 30 0),o 39 (e 30 1),o 9 (m 38),o 10 (m 39)]),
 (.reg [o 40 (m 7),o 41 (m 9),o 42 (.eqB false (t 40) (t 41)),o 43 (m 42),g 44 43 true (m 8),g 45 43 true (m 10),g 46 43 true (b .eql 44 45),o 47 (pf 43 46),o 48 (m 47),g 49 48 true (.call 21 []),o 50 (pf 48 49),o 6 (m 50)]),
 .ret])⟩
end
theorem k_wittinglaw20_QuotientBy:zc Tryz.prog f_wittinglaw20_QuotientBy=some c_wittinglaw20_QuotientBy:=by kernel_rfl
theorem k_wittinglaw20_QuotientSame:zc Tryz.prog f_wittinglaw20_QuotientSame=some c_wittinglaw20_QuotientSame:=by kernel_rfl
end Go.Ab
namespace Go.Ab
open Go Go.Proofs
set_option maxRecDepth 10000
set_option maxHeartbeats 4000000
variable {T:Nat→Obj→Prop}
theorem few12 {m:KM} {n:Int} (h:ztH m n=true) (hn:n≤12):za m=0→m.W≤12:=fun h0=>by
 have:=of_decide_eq_true h
 have w2:=(zn h0).w2
 omega
theorem law_By (hT:zbV T) (hX:zfj T) (m:KM) (p:List Int):Fn Tryz.prog T f_wittinglaw20_QuotientBy [.d (dKM m),.d (dI p)] [] (.d (.bool true)) []:=by
 have hA:=zC8 hT hX
 have hf:=zDt (T:=T) m 10
 refine zb zm k_wittinglaw20_QuotientBy (by show 2≤77;decide) ?_
 cases hbw:ztH m 10 with
 | false =>
  rw [hbw] at hf
  (repeat' ((conv=>whnf);first|refine vA ?_|refine vE ?_|refine vH ?_|refine vT ?_|refine vZ ?_|refine yD hf ⟨⟨rfl,rfl⟩,⟨rfl,rfl⟩,rfl⟩ rfl ?_|refine yD hA (by (repeat refine ⟨⟨rfl,rfl⟩,?_⟩);rfl) rfl ?_));all_goals try conv=>whnf
 | true =>
  rw [hbw] at hf
  have h12:=few12 hbw (by omega)
  have cb1:=zC6 (T:=T) m p h12
  have cb2:=zDu (T:=T) m p
  have cm1:=zu9 (T:=T) hT hX m h12
  have cm2:=ztW (T:=T) m
  (repeat' ((conv=>whnf);first|refine vA ?_|refine vE ?_|refine vG ?_|((first|refine vD ?_ ?_|refine vF ?_ ?_|refine vI ?_ ?_)<;>intro hc<;>try simp only [vL] at hc)|refine vJ fun hg=>?_|refine vT ?_|refine vZ ?_|refine yD hf ⟨⟨rfl,rfl⟩,⟨rfl,rfl⟩,rfl⟩ rfl ?_|refine yN cb1 ⟨⟨rfl,rfl⟩,⟨rfl,rfl⟩,rfl⟩ ?_|refine yN cb2 ⟨⟨rfl,rfl⟩,⟨rfl,rfl⟩,rfl⟩ ?_|refine yD (zwT _ _) ⟨⟨rfl,rfl⟩,⟨rfl,rfl⟩,rfl⟩ rfl ?_|refine yD (zwS _ _) ⟨⟨rfl,rfl⟩,⟨rfl,rfl⟩,rfl⟩ rfl ?_|refine yN cm1 ⟨⟨rfl,rfl⟩,rfl⟩ ?_|refine yN cm2 ⟨⟨rfl,rfl⟩,rfl⟩ ?_|refine yD hA (by (repeat refine ⟨⟨rfl,rfl⟩,?_⟩);rfl) rfl ?_));all_goals try conv=>whnf
  all_goals first|exact absurd rfl ‹_≠_›|exact absurd trivial ‹¬True›|exact absurd (beq_self_eq_true _) (by rw [hc];decide)|skip
end Go.Ab
namespace Go.Ab
open Go Go.Proofs
set_option maxRecDepth 10000
set_option maxHeartbeats 4000000
variable {T:Nat→Obj→Prop}
theorem law_Same (hT:zbV T) (hX:zfj T) (a b:KM) (v w:Int):Fn Tryz.prog T f_wittinglaw20_QuotientSame [.d (dKM a),.d (dKM b),.d (.agg [.int .i64 v,.int .i64 w])] [] (.d (.bool true)) []:=by
 have hA:=zC8 hT hX
 have hf1:=zDt (T:=T) a 8
 have hf2:=zDt (T:=T) b 8
 refine zb zm k_wittinglaw20_QuotientSame (by show 3≤51;decide) ?_
 cases ha:ztH a 8 with
 | false =>
  rw [ha] at hf1
  (repeat' ((conv=>whnf);first|refine vA ?_|refine vE ?_|refine vH ?_|refine vT ?_|refine vZ ?_|refine yD hf1 ⟨⟨rfl,rfl⟩,⟨rfl,rfl⟩,rfl⟩ rfl ?_|refine yD hA (by (repeat refine ⟨⟨rfl,rfl⟩,?_⟩);rfl) rfl ?_));all_goals try conv=>whnf
 | true =>
  cases hb1:ztH b 8 with
  | false =>
   rw [ha] at hf1;rw [hb1] at hf2
   (repeat' ((conv=>whnf);first|refine vA ?_|refine vE ?_|refine vG ?_|refine vH ?_|refine vT ?_|refine vZ ?_|refine yD hf1 ⟨⟨rfl,rfl⟩,⟨rfl,rfl⟩,rfl⟩ rfl ?_|refine yD hf2 ⟨⟨rfl,rfl⟩,⟨rfl,rfl⟩,rfl⟩ rfl ?_|refine yD hA (by (repeat refine ⟨⟨rfl,rfl⟩,?_⟩);rfl) rfl ?_));all_goals try conv=>whnf
  | true =>
   rw [ha] at hf1;rw [hb1] at hf2
   have cs1:=zDn (T:=T) hT hX a b (few12 ha (by omega)) (few12 hb1 (by omega)) v w
   have cs2:=zC9 (T:=T) hT a b v w
   rw [← zDp] at cs2
   (repeat' ((conv=>whnf);first|refine vA ?_|refine vE ?_|refine vG ?_|(refine vF ?_ ?_<;>intro hc<;>try simp only [vL] at hc)|refine vT ?_|(refine vP ?_ ?_;·omega)|refine vZ ?_|refine yD hf1 ⟨⟨rfl,rfl⟩,⟨rfl,rfl⟩,rfl⟩ rfl ?_|refine yD hf2 ⟨⟨rfl,rfl⟩,⟨rfl,rfl⟩,rfl⟩ rfl ?_|refine yN cs1 (by (repeat refine ⟨⟨rfl,rfl⟩,?_⟩);rfl) ?_|refine yN cs2 (by (repeat refine ⟨⟨rfl,rfl⟩,?_⟩);rfl) ?_|refine yD hA (by (repeat refine ⟨⟨rfl,rfl⟩,?_⟩);rfl) rfl ?_));all_goals try conv=>whnf
   all_goals first|exact absurd rfl ‹_≠_›|exact absurd trivial ‹¬True›|exact absurd (beq_self_eq_true _) (by rw [hc];decide)|skip
end Go.Ab
namespace Go.Proofs.YtjehkdhnhfghiaaGreatDoor
open Go Go.Ab Go.RowKit Go.ChangeShapes Go.WideShapes
set_option maxRecDepth 100000
theorem quotientSame_c9:(Rows.quotientSameRow.inPlace==Tryz.pinned.checked.prog.inPlace 9)=true:=by kernel_rfl
theorem quotientSame_c10:(Rows.quotientSameRow.unfollowed==Tryz.pinned.checked.prog.unfollowed 9)=true:=by kernel_rfl
theorem quotientSame_c11:(Rows.quotientSameRow.recurses==Tryz.pinned.checked.prog.recurses 9)=true:=by kernel_rfl
theorem quotientSame_c12:(Rows.quotientSameRow.named==Tryz.pinned.checked.prog.varsNamed 9)=true:=by kernel_rfl
theorem quotientSame_c25:Tryz.pinned.checked.prog.mayEnter=true:=by kernel_rfl
theorem quotientSame_c26:(Rows.quotientSameRow.lifted==Tryz.pinned.checked.prog.liftsFinal)=true:=by kernel_rfl
theorem quotientSame_c27:(Tryz.pinned.checked.prog.make==some Rows.quotientSameRow.make)=true:=by kernel_rfl
theorem quotientSame_facts:joinedFacts Tryz.pinned.checked.prog 9 Tryz.f9 Rows.quotientSameSpec Rows.quotientSameRow=true:=(zDy (zDy (zDy (zDy (zDy (zDy (zDy (zDy (zDy (zDy (zDy (zDy (zDy (zDy (zDy (zDy (zDy (zDy (zDy (zDy (zDy (zDy (zDy (zDy (zDy (zDy (zDy (zDy (zDy (zDy (zDy (by kernel_rfl) (by kernel_rfl)) (by kernel_rfl)) (by kernel_rfl)) (by kernel_rfl)) (by kernel_rfl)) (by kernel_rfl)) (by kernel_rfl)) (by kernel_rfl)) quotientSame_c9) quotientSame_c10) quotientSame_c11) quotientSame_c12) (by kernel_rfl)) (by kernel_rfl)) (by kernel_rfl)) (by kernel_rfl)) (by kernel_rfl)) (by kernel_rfl)) (by kernel_rfl)) (by kernel_rfl)) (by kernel_rfl)) (by kernel_rfl)) (by kernel_rfl)) (by kernel_rfl)) quotientSame_c25) quotientSame_c26) quotientSame_c27) (by kernel_rfl)) (by kernel_rfl)) (by kernel_rfl)) (by kernel_rfl))
theorem quotientSame_holds:Rows.QuotientSameSaid :=
 OpenClaim.holds_of_wide 9 Tryz.f9 rfl rfl rfl rfl rfl rfl rfl ⟨rfl,rfl,rfl,rfl,rfl⟩ rfl rfl rfl rfl rfl (by kernel_rfl) Tryz.func9 quotientSame_facts
  (of_decide_eq_true (by kernel_rfl)) (by unfold Func.isWrapper;rw [if_neg (of_decide_eq_false (by kernel_rfl))];exact ⟨rfl,rfl⟩)
  (fun os started H enc _=>zDc (C:=Tryz.checked) (s:=Rows.quotientSameSpec) (laid:=laidL) knob started (by kernel_rfl) Tryz.func9 laidOut [25,25,50] Tryz.params9 rfl Tryz.underlying4 rfl (by kernel_rfl)
   (fun ds hds=>by match ds,hds with|[d1,d2,d3],_=>rfl)
   (ChangeSpec.witness_shaped (enc:=enc) (C:=Tryz.checked) (os:=os) (X:=fun w _=>laidMetH Tryz.prog laidL w) false (World.doorLaid Tryz.prog 14 os)
    #[.agg #[.int .i64 0,.slice none 0 0,.slice none 0 0],.agg #[.int .i64 0,.slice none 0 0,.slice none 0 0],.agg #[.int .i64 0,.int .i64 0]] 8 rfl (World.shaped_of_RefB (by kernel_rfl) (by kernel_rfl)) (by kernel_rfl) (by kernel_rfl) (by kernel_rfl) (door_met os _))
   (fun W hL=>⟨TOf W,(zDw hL).1,(zDw hL).2,fun ds hds=>by
    obtain ⟨m1,r,rfl,hm1,k1⟩:=zDh hds
    obtain ⟨m2,r,rfl,hm2,k2⟩:=zDh k1
    obtain ⟨a3,b3,r,rfl,ha3,hb3,k3⟩:=zDk k2
    obtain rfl:=zDz k3
    exact law_Same (tz_of hL) (hex_of hL) m1 m2 a3 b3⟩))
theorem quotientSame_card:Rows.QuotientSameCardSaid :=
 Claim7.holds_tied_plain_at .later [] [.data,.data,.data] true (true, "8d566f0265d904fd78765531ba56d84e46aac9efdae886bb35f471103bd136f7") false
  quotientSame_holds (fun _ h=>by cases h) (by kernel_rfl) (fun _ h=>by cases h) quotientSame_row_tie rfl ⟨rfl,rfl⟩ (by kernel_rfl) rfl
  (fun f fn hf hfn=>by
   obtain rfl:f=9:=Option.some.inj ((show Tryz.prog.funcNamed Rows.quotientSameRow.func=some 9 by kernel_rfl).symm.trans hf) |>.symm
   obtain rfl:fn=Tryz.f9:=(Option.some.inj (Tryz.func9.symm.trans hfn)).symm
   exact ⟨by kernel_rfl,fun j t ht=>by
    rw [Tryz.params9] at ht
    have hm:t∈[25,25,50]:=by
     have:=List.mem_of_getElem? (l:=[25,25,50]) (i:=j) (by simpa using ht)
     exact this
    have hall:([25,25,50].all fun t=>Tryz.prog.wantsStandIn t==false)=true:=by kernel_rfl
    exact eq_of_beq (List.all_eq_true.1 hall t hm)⟩)
  (by kernel_rfl)
end Go.Proofs.YtjehkdhnhfghiaaGreatDoor
