/- What is proved here: the law QuotientPoints returns true at every input and leaves its arguments as they were. The condition is the row own: the listed table of math bits holds what the text lays. -/
import Derived.Test.YtjehkdhnhfghiaaGreatDoorMH
set_option linter.unusedVariables false
set_option linter.unusedSimpArgs false
set_option linter.unusedSectionVars false
namespace Go.Ab
open Go Go.Proofs
section
open K
def f_wittinglaw20_QuotientBy:Nat:=4
def f_wittinglaw20_QuotientPoints:Nat:=8
def c_wittinglaw20_QuotientBy:CFn:=⟨77,[.tmp 4],(q [(.reg [o 2 (.box 3 (t 0)),o 4 (.mv (c .bf))]),
 (q [(.reg [o 11 (la 3 2),o 12 (.call 13 [(t 11),(c (n 10))]),o 13 (.un .not (t 12)),o 14 (m 13),g 15 14 false (m 1),g 16 14 false (ln 15),g 17 14 false (bc .gtr 16 (n 70)),o 18 (pt 14 17)]),
 (i 18 (q [(.reg [o 19 (.call 21 []),o 4 (m 19)]),
 .ret]) .skip)]),
 (.reg [o 21 (la 3 2),o 22 (m 1),o 23 (.call 22 [(t 21),(t 22)]),o 20 (m 23),o 24 (e 20 0),o 25 (e 20 1),o 26 (e 20 2),o 5 (.alloc [(n 0),(.nils 1),(.nils 1)]),w (.store 3 (t 5) (t 24)),o 6 (m 25),o 7 (m 26)]),
 (.reg [o 28 (la 3 2),o 29 (m 1),o 30 (.call 23 [(t 28),(t 29)]),o 27 (m 30),o 31 (e 27 0),o 32 (e 27 1),o 33 (e 27 2),o 8 (.alloc [(n 0),(.nils 1),(.nils 1)]),w (.store 3 (t 8) (t 31)),o 9 (m 32),o 10 (m 33)]),
 (q [(.reg [o 34 (m 7),o 35 (m 10),o 36 (b .neq 34 35),o 37 (m 36),g 38 37 false (la 3 5),g 39 37 false (la 3 8),g 40 37 false (.call 24 [(t 38),(t 39)]),g 41 37 false (.un .not (t 40)),o 42 (pt 37 41),o 43 (m 42),g 44 43 false (m 6),g 45 43 false (m 9),g 46 43 false (.call 25 [(t 44),(t 45)]),g 47 43 false (.un .not (t 46)),o 48 (pt 43 47)]),
 (i 48 (q [(.reg [o 4 (.mv (c .bf))]),
 .ret]) .skip)]),
 (.reg [o 50 (la 3 2),o 51 (.call 18 [(t 50)]),o 49 (m 51),o 52 (e 49 0),o 53 (e 49 1),o 54 (e 49 2),w (.store 3 (t 5) (t 52)),o 6 (m 53),o 7 (m 54)]),
 (.reg [o 56 (la 3 2),o 57 (.call 26 [(t 56)]),o 55 (m 57),o 58 (e 55 0),o 59 (e 55 1),o 60 (e 55 2),w (.store 3 (t 8) (t 58)),o 9 (m 59),o 10 (m 60)]),
 (.reg [o 61 (m 7),o 62 (m 10),o 63 (b .eql 61 62),o 64 (m 63),g 65 64 true (la 3 5),g 66 64 true (la 3 8),g 67 64 true (.call 24 [(t 65),(t 66)]),o 68 (pf 64 67),o 69 (m 68),g 70 69 true (m 6),g 71 69 true (m 9),g 72 69 true (.call 25 [(t 70),(t 71)]),o 73 (pf 69 72),o 74 (m 73),g 75 74 true (.call 21 []),o 76 (pf 74 75),o 4 (m 76)]),
 .ret])⟩
def c_wittinglaw20_QuotientPoints:CFn:=⟨78,[.tmp 4],(q [(.reg [o 2 (.box 3 (t 0)),o 4 (.mv (c .bf))]),
 (q [(.reg [o 15 (la 3 2),o 16 (.call 13 [(t 15),(c (n 10))]),o 17 (.un .not (t 16))]),
 (i 17 (q [(.reg [o 18 (.call 21 []),o 4 (m 18)]),
 .ret]) .skip)]),
 (.reg [o 20 (la 3 2),o 21 (m 1),o 22 (.call 31 [(t 20),(t 21)]),o 19 (m 22),o 23 (e 19 0),o 24 (e 19 1),o 25 (e 19 2),o 5 (.alloc [(n 0),(.nils 1),(.nils 1)]),w (.store 3 (t 5) (t 23)),o 6 (m 24),o 7 (m 25)]),
 (.reg [o 27 (la 3 2),o 28 (m 1),o 29 (.call 32 [(t 27),(t 28)]),o 26 (m 29),o 30 (e 26 0),o 31 (e 26 1),o 32 (e 26 2),o 8 (.alloc [(n 0),(.nils 1),(.nils 1)]),w (.store 3 (t 8) (t 30)),o 9 (m 31),o 10 (m 32)]),
 (.reg [o 34 (la 3 2),o 35 (m 1),o 36 (.call 30 [(t 34),(t 35)]),o 33 (m 36),o 37 (e 33 0),o 38 (e 33 1),o 11 (.alloc [(n 0),(.nils 1),(.nils 1)]),w (.store 3 (t 11) (t 37)),o 12 (m 38)]),
 (.reg [o 40 (la 3 2),o 41 (m 1),o 42 (.call 33 [(t 40),(t 41)]),o 39 (m 42),o 43 (e 39 0),o 44 (e 39 1),o 13 (.alloc [(n 0),(.nils 1),(.nils 1)]),w (.store 3 (t 13) (t 43)),o 14 (m 44)]),
 (.regd [o 45 (m 7),o 46 (m 10),o 47 (b .eql 45 46),o 48 (m 47),g 49 48 true (m 12),g 50 48 true (m 14),g 51 48 true (b .eql 49 50),o 52 (pf 48 51),o 53 (m 52),g 54 53 true (m 6),g 55 53 true (m 9),g 56 53 true (b .eql 54 55),o 57 (pf 53 56),o 58 (m 57),g 59 58 true (la 3 5),g 60 58 true (la 3 8),g 61 58 true (.call 24 [(t 59),(t 60)]),o 62 (pf 58 61),o 63 (m 62),g 64 63 true (la 3 11),g 65 63 true (la 3 13),g 66 63 true (.call 24 [(t 64),(t 65)]),o 67 (pf 63 66),o 68 (m 67),g 69 68 true (la 3 2),g 70 68 true (.call 27 [(t 69)]),g 71 68 true (la 3 2),g 72 68 true (.call 34 [(t 71)]),g 73 68 true (.eqB false (t 70) (t 72)),o 74 (pf 68 73),o 75 (m 74),g 76 75 true (.call 21 []),o 77 (pf 75 76),o 4 (m 77)] [0,0,3,7,15,15,63,127,255,511,511,2047,4095,8191,16383,16383,65535,131071,262143,524287,524287,2097151,4194303,8388607,16777215,33554431,16777215,134217727,268435455,536870911,1073741823,2147483647,4294967295,8589934591]),
 .ret])⟩
end
theorem k_wittinglaw20_QuotientBy:zc Tryz.prog f_wittinglaw20_QuotientBy=some c_wittinglaw20_QuotientBy:=by kernel_rfl
theorem k_wittinglaw20_QuotientPoints:zc Tryz.prog f_wittinglaw20_QuotientPoints=some c_wittinglaw20_QuotientPoints:=by kernel_rfl
end Go.Ab
namespace Go.Ab
open Go Go.Proofs
set_option maxRecDepth 10000
set_option maxHeartbeats 4000000
variable {T:Nat→Obj→Prop}
theorem few12 {m:KM} {n:Int} (h:ztH m n=true) (hn:n≤12):za m=0→m.W≤12:=fun h0=>by
 have:=of_decide_eq_true h
 have w2:=(zn h0).w2
 omega
theorem law_By (hT:zbV T) (hX:zfj T) (m:KM) (p:List Int):Fn Tryz.prog T f_wittinglaw20_QuotientBy [.d (dKM m),.d (dI p)] [] (.d (.bool true)) []:=by
 have hA:=zC8 hT hX
 have hf:=zDt (T:=T) m 10
 refine zb zm k_wittinglaw20_QuotientBy (by show 2≤77;decide) ?_
 cases hbw:ztH m 10 with
 | false =>
  rw [hbw] at hf
  (repeat' ((conv=>whnf);first|refine vA ?_|refine vE ?_|refine vH ?_|refine vT ?_|refine vZ ?_|refine yD hf ⟨⟨rfl,rfl⟩,⟨rfl,rfl⟩,rfl⟩ rfl ?_|refine yD hA (by (repeat refine ⟨⟨rfl,rfl⟩,?_⟩);rfl) rfl ?_));all_goals try conv=>whnf
 | true =>
  rw [hbw] at hf
  have h12:=few12 hbw (by omega)
  have cb1:=zC6 (T:=T) m p h12
  have cb2:=zDu (T:=T) m p
  have cm1:=zu9 (T:=T) hT hX m h12
  have cm2:=ztW (T:=T) m
  (repeat' ((conv=>whnf);first|refine vA ?_|refine vE ?_|refine vG ?_|((first|refine vD ?_ ?_|refine vF ?_ ?_|refine vI ?_ ?_)<;>intro hc<;>try simp only [vL] at hc)|refine vJ fun hg=>?_|refine vT ?_|refine vZ ?_|refine yD hf ⟨⟨rfl,rfl⟩,⟨rfl,rfl⟩,rfl⟩ rfl ?_|refine yN cb1 ⟨⟨rfl,rfl⟩,⟨rfl,rfl⟩,rfl⟩ ?_|refine yN cb2 ⟨⟨rfl,rfl⟩,⟨rfl,rfl⟩,rfl⟩ ?_|refine yD (zwT _ _) ⟨⟨rfl,rfl⟩,⟨rfl,rfl⟩,rfl⟩ rfl ?_|refine yD (zwS _ _) ⟨⟨rfl,rfl⟩,⟨rfl,rfl⟩,rfl⟩ rfl ?_|refine yN cm1 ⟨⟨rfl,rfl⟩,rfl⟩ ?_|refine yN cm2 ⟨⟨rfl,rfl⟩,rfl⟩ ?_|refine yD hA (by (repeat refine ⟨⟨rfl,rfl⟩,?_⟩);rfl) rfl ?_));all_goals try conv=>whnf
  all_goals first|exact absurd rfl ‹_≠_›|exact absurd trivial ‹¬True›|exact absurd (beq_self_eq_true _) (by rw [hc];decide)|skip
end Go.Ab
namespace Go.Ab
open Go Go.Proofs
set_option maxRecDepth 10000
set_option maxHeartbeats 4000000
variable {T:Nat→Obj→Prop}
theorem law_Points (hT:zbV T) (hX:zfj T) (m:KM) (w:Int):Fn Tryz.prog T f_wittinglaw20_QuotientPoints [.d (dKM m),.d (.int .i64 w)] [] (.d (.bool true)) []:=by
 have hA:=zC8 hT hX
 have hf:=zDt (T:=T) m 10
 refine zb zm k_wittinglaw20_QuotientPoints (by show 2≤78;decide) ?_
 cases hbw:ztH m 10 with
 | false =>
  rw [hbw] at hf
  (repeat' ((conv=>whnf);first|refine vA ?_|refine vE ?_|refine vH ?_|refine vT ?_|refine vZ ?_|refine yD hf ⟨⟨rfl,rfl⟩,⟨rfl,rfl⟩,rfl⟩ rfl ?_|refine yD hA (by (repeat refine ⟨⟨rfl,rfl⟩,?_⟩);rfl) rfl ?_));all_goals try conv=>whnf
 | true =>
  rw [hbw] at hf
  have h12:=few12 hbw (by omega)
  have cp1:=zwI (T:=T) hT hX m h12 w
  have cp2:=zvi (T:=T) m w
  have cc1:=zlW (T:=T) hT hX m h12 w
  have cc2:=zi4 (T:=T) hT m w
  have cm1:=zC7 (T:=T) hT hX m h12
  have cm2:=zCU (T:=T) m
  (repeat' ((conv=>whnf);first|refine vA ?_|refine vE ?_|refine vG ?_|(refine vF ?_ ?_<;>intro hc<;>try simp only [vL] at hc)|refine vT ?_|(refine vU ?_ ?_;·kernel_rfl)|refine vZ ?_|refine yD hf ⟨⟨rfl,rfl⟩,⟨rfl,rfl⟩,rfl⟩ rfl ?_|refine yN cp1 ⟨⟨rfl,rfl⟩,⟨rfl,rfl⟩,rfl⟩ ?_|refine yN cp2 ⟨⟨rfl,rfl⟩,⟨rfl,rfl⟩,rfl⟩ ?_|refine yN cc1 ⟨⟨rfl,rfl⟩,⟨rfl,rfl⟩,rfl⟩ ?_|refine yN cc2 ⟨⟨rfl,rfl⟩,⟨rfl,rfl⟩,rfl⟩ ?_|refine yD (zwT _ _) ⟨⟨rfl,rfl⟩,⟨rfl,rfl⟩,rfl⟩ rfl ?_|refine yD cm1 ⟨⟨rfl,rfl⟩,rfl⟩ rfl ?_|refine yD cm2 ⟨⟨rfl,rfl⟩,rfl⟩ rfl ?_|refine yD hA (by (repeat refine ⟨⟨rfl,rfl⟩,?_⟩);rfl) rfl ?_));all_goals try conv=>whnf
  all_goals first|exact absurd rfl ‹_≠_›|exact absurd trivial ‹¬True›|exact absurd (beq_self_eq_true _) (by rw [hc];decide)|skip
end Go.Ab
namespace Go.Proofs.YtjehkdhnhfghiaaGreatDoor
open Go Go.Ab Go.RowKit Go.ChangeShapes Go.WideShapes
set_option maxRecDepth 100000
theorem quotientPoints_c9:(Rows.quotientPointsRow.inPlace==Tryz.pinned.checked.prog.inPlace 8)=true:=by kernel_rfl
theorem quotientPoints_c10:(Rows.quotientPointsRow.unfollowed==Tryz.pinned.checked.prog.unfollowed 8)=true:=by kernel_rfl
theorem quotientPoints_c11:(Rows.quotientPointsRow.recurses==Tryz.pinned.checked.prog.recurses 8)=true:=by kernel_rfl
theorem quotientPoints_c12:(Rows.quotientPointsRow.named==Tryz.pinned.checked.prog.varsNamed 8)=true:=by kernel_rfl
theorem quotientPoints_c25:Tryz.pinned.checked.prog.mayEnter=true:=by kernel_rfl
theorem quotientPoints_c26:(Rows.quotientPointsRow.lifted==Tryz.pinned.checked.prog.liftsFinal)=true:=by kernel_rfl
theorem quotientPoints_c27:(Tryz.pinned.checked.prog.make==some Rows.quotientPointsRow.make)=true:=by kernel_rfl
theorem quotientPoints_facts:joinedFacts Tryz.pinned.checked.prog 8 Tryz.f8 Rows.quotientPointsSpec Rows.quotientPointsRow=true:=(zDy (zDy (zDy (zDy (zDy (zDy (zDy (zDy (zDy (zDy (zDy (zDy (zDy (zDy (zDy (zDy (zDy (zDy (zDy (zDy (zDy (zDy (zDy (zDy (zDy (zDy (zDy (zDy (zDy (zDy (zDy (by kernel_rfl) (by kernel_rfl)) (by kernel_rfl)) (by kernel_rfl)) (by kernel_rfl)) (by kernel_rfl)) (by kernel_rfl)) (by kernel_rfl)) (by kernel_rfl)) quotientPoints_c9) quotientPoints_c10) quotientPoints_c11) quotientPoints_c12) (by kernel_rfl)) (by kernel_rfl)) (by kernel_rfl)) (by kernel_rfl)) (by kernel_rfl)) (by kernel_rfl)) (by kernel_rfl)) (by kernel_rfl)) (by kernel_rfl)) (by kernel_rfl)) (by kernel_rfl)) (by kernel_rfl)) quotientPoints_c25) quotientPoints_c26) quotientPoints_c27) (by kernel_rfl)) (by kernel_rfl)) (by kernel_rfl)) (by kernel_rfl))
theorem quotientPoints_holds:Rows.QuotientPointsSaid :=
 OpenClaim.holds_of_wide 8 Tryz.f8 rfl rfl rfl rfl rfl rfl rfl ⟨rfl,rfl,rfl,rfl,rfl⟩ rfl rfl rfl rfl rfl (by kernel_rfl) Tryz.func8 quotientPoints_facts
  (of_decide_eq_true (by kernel_rfl)) (by unfold Func.isWrapper;rw [if_neg (of_decide_eq_false (by kernel_rfl))];exact ⟨rfl,rfl⟩)
  (fun os started H enc _=>zDc (C:=Tryz.checked) (s:=Rows.quotientPointsSpec) (laid:=laidL) knob started (by kernel_rfl) Tryz.func8 laidOut [25,3] Tryz.params8 rfl Tryz.underlying4 rfl (by kernel_rfl)
   (fun ds hds=>by match ds,hds with|[d1,d2],_=>rfl)
   (ChangeSpec.witness_shaped (enc:=enc) (C:=Tryz.checked) (os:=os) (X:=fun w _=>laidMetH Tryz.prog laidL w) false (World.doorLaid Tryz.prog 14 os)
    #[.agg #[.int .i64 0,.slice none 0 0,.slice none 0 0],.int .i64 0] 8 rfl (World.shaped_of_RefB (by kernel_rfl) (by kernel_rfl)) (by kernel_rfl) (by kernel_rfl) (by kernel_rfl) (door_met os _))
   (fun W hL=>⟨TOf W,(zDw hL).1,(zDw hL).2,fun ds hds=>by
    obtain ⟨m1,r,rfl,hm1,k1⟩:=zDh hds
    obtain ⟨a2,r,rfl,ha2,k2⟩:=zDs k1
    obtain rfl:=zDz k2
    exact law_Points (tz_of hL) (hex_of hL) m1 a2⟩))
theorem quotientPoints_card:Rows.QuotientPointsCardSaid :=
 Claim7.holds_tied_plain_at .later [] [.data,.data,.data] true (true, "8d566f0265d904fd78765531ba56d84e46aac9efdae886bb35f471103bd136f7") false
  quotientPoints_holds (fun _ h=>by cases h) (by kernel_rfl) (fun _ h=>by cases h) quotientPoints_row_tie rfl ⟨rfl,rfl⟩ (by kernel_rfl) rfl
  (fun f fn hf hfn=>by
   obtain rfl:f=8:=Option.some.inj ((show Tryz.prog.funcNamed Rows.quotientPointsRow.func=some 8 by kernel_rfl).symm.trans hf) |>.symm
   obtain rfl:fn=Tryz.f8:=(Option.some.inj (Tryz.func8.symm.trans hfn)).symm
   exact ⟨by kernel_rfl,fun j t ht=>by
    rw [Tryz.params8] at ht
    have hm:t∈[25,3]:=by
     have:=List.mem_of_getElem? (l:=[25,3]) (i:=j) (by simpa using ht)
     exact this
    have hall:([25,3].all fun t=>Tryz.prog.wantsStandIn t==false)=true:=by kernel_rfl
    exact eq_of_beq (List.all_eq_true.1 hall t hm)⟩)
  (by kernel_rfl)
end Go.Proofs.YtjehkdhnhfghiaaGreatDoor
