/- What is proved here: the law QuotientDecides returns true at every input and leaves its arguments as they were. The condition is the row own: the listed table of math bits holds what the text lays. -/
import Derived.Test.YtjehkdhnhfghiaaGreatDoorMG
set_option linter.unusedVariables false
set_option linter.unusedSimpArgs false
set_option linter.unusedSectionVars false
namespace Go.Ab
open Go Go.Proofs
section
open K
def f_wittinglaw20_QuotientDecides:Nat:=10
def c_wittinglaw20_QuotientDecides:CFn:=⟨71,[.tmp 6],(q [(.reg [o 3 (.box 3 (t 0)),o 4 (.box 3 (t 1)),o 5 (.box 2 (t 2)),o 6 (.mv (c .bf))]),
 (q [(.reg [o 13 (la 3 3),o 14 (.call 13 [(t 13),(c (n 8))]),o 15 (.un .not (t 14)),o 16 (m 15),g 17 16 false (la 3 4),g 18 16 false (.call 13 [(t 17),(c (n 8))]),g 19 16 false (.un .not (t 18)),o 20 (pt 16 19),o 21 (m 20),g 22 21 false (la 3 3),g 23 21 false (.call 14 [(t 22)]),g 24 21 false (bc .neq 23 (n 0)),o 25 (pt 21 24),o 26 (m 25),g 27 26 false (la 3 4),g 28 26 false (.call 14 [(t 27)]),g 29 26 false (bc .neq 28 (n 0)),o 30 (pt 26 29)]),
 (i 30 (q [(.reg [o 31 (.call 21 []),o 6 (m 31)]),
 .ret]) .skip)]),
 (.regd [o 32 (.iaddrA 2 1 (t 5) (c (n 0))),o 33 (l 32),o 34 (.conv .i64 (t 33)),o 35 (f 0 3),o 36 (l 35),o 37 (b .rem 34 36),o 38 (.iaddrA 2 1 (t 5) (c (n 1))),o 39 (l 38),o 40 (.conv .i64 (t 39)),o 41 (f 0 4),o 42 (l 41),o 43 (b .rem 40 42),o 7 (m 37),o 8 (m 43)] [0,1,3,0,8,31,0,64,192,0,512,1984,63,8191]),
 (.reg [o 45 (la 3 3),o 46 (m 7),o 47 (la 3 4),o 48 (m 8),o 49 (.call 35 [(t 45),(t 46),(t 47),(t 48)]),o 44 (m 49),o 50 (e 44 0),o 51 (e 44 1),o 9 (m 50),o 10 (m 51)]),
 (.reg [o 53 (la 3 3),o 54 (m 7),o 55 (la 3 4),o 56 (m 8),o 57 (.call 37 [(t 53),(t 54),(t 55),(t 56)]),o 52 (m 57),o 58 (e 52 0),o 59 (e 52 1),o 11 (m 58),o 12 (m 59)]),
 (.reg [o 60 (m 10),o 61 (m 12),o 62 (b .eql 60 61),o 63 (m 62),g 64 63 true (m 9),g 65 63 true (m 11),g 66 63 true (.eqB false (t 64) (t 65)),o 67 (pf 63 66),o 68 (m 67),g 69 68 true (.call 21 []),o 70 (pf 68 69),o 6 (m 70)]),
 .ret])⟩
end
theorem k_wittinglaw20_QuotientDecides:zi Tryz.prog f_wittinglaw20_QuotientDecides=some c_wittinglaw20_QuotientDecides:=by kernel_rfl
end Go.Ab
namespace Go.Ab
open Go Go.Proofs
set_option maxRecDepth 10000
set_option maxHeartbeats 4000000
variable {T:Nat→Obj→Prop}
theorem few12 {m:KM} {n:Int} (h:zrb m n=true) (hn:n≤12):za m=0→m.W≤12:=fun h0=>by
 have:=of_decide_eq_true h
 have w2:=(zq h0).w2
 omega
end Go.Ab
namespace Go.Ab
open Go Go.Proofs
set_option maxRecDepth 10000
set_option maxHeartbeats 4000000
variable {T:Nat→Obj→Prop}
theorem same_bsm {a b:KM} (ha:za a=0) (hb:za b=0) {v w:Int} (hv0:0≤v) (hv:v < a.W) (hw0:0≤w) (hw:w < b.W):zuD a v b w=zke a v b w:=by
 obtain ⟨v,rfl⟩ : ∃ k:Nat,v=(k:Int):=⟨v.toNat,by omega⟩
 obtain ⟨w,rfl⟩ : ∃ k:Nat,w=(k:Int):=⟨w.toNat,by omega⟩
 obtain ⟨a1,-⟩:=znR ha (w:=v) (by omega)
 obtain ⟨b1,-⟩:=znR hb (w:=w) (by omega)
 unfold zuD zke zde
 rw [if_neg (not_not_intro ha),if_neg (not_not_intro hb),if_neg (not_not_intro ha),if_neg (not_not_intro hb)]
 by_cases hl:a.rel.length≠b.rel.length∨a.val.length≠b.val.length
 ·rw [if_pos hl,if_pos hl,if_pos (by decide)]
 ·rw [if_neg hl,if_neg hl,if_neg (not_not_intro a1),if_neg (not_not_intro b1),if_neg (by decide),if_neg (by omega),Int.toNat_natCast,Int.toNat_natCast]
  congr 1
  rw [Bool.eq_iff_iff,decide_eq_true_eq,zAl]
  exact ⟨zAj ha hb (by omega) (by omega),zAo ha hb (by omega) (by omega) (by omega)⟩
theorem law_Decides (hT:zbP T) (hX:zfd T) (a b:KM) (x y:Int) (hx0:0≤x) (hx:x≤255) (hy0:0≤y) (hy:y≤255):Fn Tryz.prog T f_wittinglaw20_QuotientDecides [.d (dKM a),.d (dKM b),.d (.agg [.int .u8 x,.int .u8 y])] [] (.d (.bool true)) []:=by
 have hA:=zz2 hT hX
 have hf1:=zAk (T:=T) a 8
 have hf2:=zAk (T:=T) b 8
 have ck1:=zar (T:=T) a
 have ck2:=zar (T:=T) b
 refine zj zy k_wittinglaw20_QuotientDecides (by show 3≤71;decide) ?_
 cases ha:zrb a 8 with
 | false =>
  rw [ha] at hf1
  (repeat' ((conv=>whnf);first|refine vA ?_|refine vE ?_|refine vH ?_|refine vT ?_|refine vZ ?_|refine yD hf1 ⟨⟨rfl,rfl⟩,⟨rfl,rfl⟩,rfl⟩ rfl ?_|refine yD hA (by (repeat refine ⟨⟨rfl,rfl⟩,?_⟩);rfl) rfl ?_));all_goals try conv=>whnf
 | true =>
  cases hb1:zrb b 8 with
  | false =>
   rw [ha] at hf1;rw [hb1] at hf2
   (repeat' ((conv=>whnf);first|refine vA ?_|refine vE ?_|refine vG ?_|refine vH ?_|refine vT ?_|refine vZ ?_|refine yD hf1 ⟨⟨rfl,rfl⟩,⟨rfl,rfl⟩,rfl⟩ rfl ?_|refine yD hf2 ⟨⟨rfl,rfl⟩,⟨rfl,rfl⟩,rfl⟩ rfl ?_|refine yD hA (by (repeat refine ⟨⟨rfl,rfl⟩,?_⟩);rfl) rfl ?_));all_goals try conv=>whnf
  | true =>
   rw [ha] at hf1;rw [hb1] at hf2
   by_cases hka:za a=0
   ·by_cases hkb:za b=0
    ·have wa:=(zq hka).w1
     have wb:=(zq hkb).w1
     have wa2:=(zq hka).w2
     have wb2:=(zq hkb).w2
     have hx2:=Int.tmod_nonneg a.W hx0
     have hx3:=Int.tmod_lt_of_pos x (show (0:Int) < a.W by omega)
     have hy2:=Int.tmod_nonneg b.W hy0
     have hy3:=Int.tmod_lt_of_pos y (show (0:Int) < b.W by omega)
     have cs:=zAe (T:=T) hT hX a b (few12 ha (by omega)) (few12 hb1 (by omega)) (x.tmod a.W) (y.tmod b.W)
     have cb:=zzj (T:=T) hT a (x.tmod a.W) b (y.tmod b.W)
     rw [same_bsm hka hkb hx2 hx3 hy2 hy3] at cs
     generalize zke a (x.tmod a.W) b (y.tmod b.W)=z at *
     obtain ⟨z1,z2⟩:=z
     dsimp only at cs cb
     (repeat' ((conv=>whnf);first|refine vA ?_|refine vE ?_|refine vG ?_|((first|refine vD ?_ ?_|refine vF ?_ ?_)<;>intro hc<;>try simp only [vL] at hc)|refine vT ?_|((first|refine vO ?_ ?_|refine vP ?_ ?_);·omega)|(refine vU ?_ ?_;·kernel_rfl)|refine vZ ?_|refine yD hf1 ⟨⟨rfl,rfl⟩,⟨rfl,rfl⟩,rfl⟩ rfl ?_|refine yD hf2 ⟨⟨rfl,rfl⟩,⟨rfl,rfl⟩,rfl⟩ rfl ?_|refine yD ck1 ⟨⟨rfl,rfl⟩,rfl⟩ rfl ?_|refine yD ck2 ⟨⟨rfl,rfl⟩,rfl⟩ rfl ?_|refine yN cs (by (repeat refine ⟨⟨rfl,rfl⟩,?_⟩);rfl) ?_|refine yN cb (by (repeat refine ⟨⟨rfl,rfl⟩,?_⟩);rfl) ?_|refine yD hA (by (repeat refine ⟨⟨rfl,rfl⟩,?_⟩);rfl) rfl ?_));all_goals try conv=>whnf
     all_goals first|exact absurd rfl ‹_≠_›|exact absurd trivial ‹¬True›|exact absurd (beq_self_eq_true _) (by rw [hc];decide)|skip
    ·(repeat' ((conv=>whnf);first|refine vA ?_|refine vE ?_|refine vG ?_|(refine vD ?_ ?_<;>intro hc)|refine vT ?_|((first|refine vO ?_ ?_|refine vP ?_ ?_);·omega)|(refine vU ?_ ?_;·kernel_rfl)|refine vZ ?_|refine yD hf1 ⟨⟨rfl,rfl⟩,⟨rfl,rfl⟩,rfl⟩ rfl ?_|refine yD hf2 ⟨⟨rfl,rfl⟩,⟨rfl,rfl⟩,rfl⟩ rfl ?_|refine yD ck1 ⟨⟨rfl,rfl⟩,rfl⟩ rfl ?_|refine yD ck2 ⟨⟨rfl,rfl⟩,rfl⟩ rfl ?_|refine yD hA (by (repeat refine ⟨⟨rfl,rfl⟩,?_⟩);rfl) rfl ?_));all_goals try conv=>whnf
     all_goals exact absurd ‹za b=0› hkb
   ·(repeat' ((conv=>whnf);first|refine vA ?_|refine vE ?_|refine vG ?_|(refine vD ?_ ?_<;>intro hc)|refine vT ?_|((first|refine vO ?_ ?_|refine vP ?_ ?_);·omega)|(refine vU ?_ ?_;·kernel_rfl)|refine vZ ?_|refine yD hf1 ⟨⟨rfl,rfl⟩,⟨rfl,rfl⟩,rfl⟩ rfl ?_|refine yD hf2 ⟨⟨rfl,rfl⟩,⟨rfl,rfl⟩,rfl⟩ rfl ?_|refine yD ck1 ⟨⟨rfl,rfl⟩,rfl⟩ rfl ?_|refine yD ck2 ⟨⟨rfl,rfl⟩,rfl⟩ rfl ?_|refine yD hA (by (repeat refine ⟨⟨rfl,rfl⟩,?_⟩);rfl) rfl ?_));all_goals try conv=>whnf
    all_goals exact absurd ‹za a=0› hka
end Go.Ab
namespace Go.Proofs.YtjehkdhnhfghiaaGreatDoor
open Go Go.Ab Go.RowKit Go.ChangeShapes Go.WideShapes
set_option maxRecDepth 100000
theorem quotientDecides_c9:(Rows.quotientDecidesRow.inPlace==Tryz.pinned.checked.prog.inPlace 10)=true:=by kernel_rfl
theorem quotientDecides_c10:(Rows.quotientDecidesRow.unfollowed==Tryz.pinned.checked.prog.unfollowed 10)=true:=by kernel_rfl
theorem quotientDecides_c11:(Rows.quotientDecidesRow.recurses==Tryz.pinned.checked.prog.recurses 10)=true:=by kernel_rfl
theorem quotientDecides_c12:(Rows.quotientDecidesRow.named==Tryz.pinned.checked.prog.varsNamed 10)=true:=by kernel_rfl
theorem quotientDecides_c25:Tryz.pinned.checked.prog.mayEnter=true:=by kernel_rfl
theorem quotientDecides_c26:(Rows.quotientDecidesRow.lifted==Tryz.pinned.checked.prog.liftsFinal)=true:=by kernel_rfl
theorem quotientDecides_c27:(Tryz.pinned.checked.prog.make==some Rows.quotientDecidesRow.make)=true:=by kernel_rfl
theorem quotientDecides_facts:joinedFacts Tryz.pinned.checked.prog 10 Tryz.f10 Rows.quotientDecidesSpec Rows.quotientDecidesRow=true:=(zAq (zAq (zAq (zAq (zAq (zAq (zAq (zAq (zAq (zAq (zAq (zAq (zAq (zAq (zAq (zAq (zAq (zAq (zAq (zAq (zAq (zAq (zAq (zAq (zAq (zAq (zAq (zAq (zAq (zAq (zAq (by kernel_rfl) (by kernel_rfl)) (by kernel_rfl)) (by kernel_rfl)) (by kernel_rfl)) (by kernel_rfl)) (by kernel_rfl)) (by kernel_rfl)) (by kernel_rfl)) quotientDecides_c9) quotientDecides_c10) quotientDecides_c11) quotientDecides_c12) (by kernel_rfl)) (by kernel_rfl)) (by kernel_rfl)) (by kernel_rfl)) (by kernel_rfl)) (by kernel_rfl)) (by kernel_rfl)) (by kernel_rfl)) (by kernel_rfl)) (by kernel_rfl)) (by kernel_rfl)) (by kernel_rfl)) quotientDecides_c25) quotientDecides_c26) quotientDecides_c27) (by kernel_rfl)) (by kernel_rfl)) (by kernel_rfl)) (by kernel_rfl))
theorem quotientDecides_holds:Rows.QuotientDecidesSaid :=
 OpenClaim.holds_of_wide 10 Tryz.f10 rfl rfl rfl rfl rfl rfl rfl ⟨rfl,rfl,rfl,rfl,rfl⟩ rfl rfl rfl rfl rfl (by kernel_rfl) Tryz.func10 quotientDecides_facts
  (of_decide_eq_true (by kernel_rfl)) (by unfold Func.isWrapper;rw [if_neg (of_decide_eq_false (by kernel_rfl))];exact ⟨rfl,rfl⟩)
  (fun os started H enc _=>zz5 (C:=Tryz.checked) (s:=Rows.quotientDecidesSpec) (laid:=laidL) knob started (by kernel_rfl) Tryz.func10 laidOut [25,25,54] Tryz.params10 rfl Tryz.underlying4 rfl (by kernel_rfl)
   (fun ds hds=>by match ds,hds with|[d1,d2,d3],_=>rfl)
   (ChangeSpec.witness_shaped (enc:=enc) (C:=Tryz.checked) (os:=os) (X:=fun w _=>laidMetH Tryz.prog laidL w) false (World.doorLaid Tryz.prog 14 os)
    #[.agg #[.int .i64 0,.slice none 0 0,.slice none 0 0],.agg #[.int .i64 0,.slice none 0 0,.slice none 0 0],.agg #[.int .u8 0,.int .u8 0]] 8 rfl (World.shaped_of_RefB (by kernel_rfl) (by kernel_rfl)) (by kernel_rfl) (by kernel_rfl) (by kernel_rfl) (door_met os _))
   (fun W hL=>⟨TOf W,(zAn hL).1,(zAn hL).2,fun ds hds=>by
    obtain ⟨m1,r,rfl,hm1,k1⟩:=zAa hds
    obtain ⟨m2,r,rfl,hm2,k2⟩:=zAa k1
    obtain ⟨a3,b3,r,rfl,ha3,hb3,k3⟩:=zAi k2
    obtain rfl:=zAr k3
    exact law_Decides (tz_of hL) (hex_of hL) m1 m2 a3 b3 ha3.1 ha3.2 hb3.1 hb3.2⟩))
theorem quotientDecides_card:Rows.QuotientDecidesCardSaid :=
 Claim7.holds_tied_plain_at .later [] [.data,.data,.data] true (true, "8d566f0265d904fd78765531ba56d84e46aac9efdae886bb35f471103bd136f7") false
  quotientDecides_holds (fun _ h=>by cases h) (by kernel_rfl) (fun _ h=>by cases h) quotientDecides_row_tie rfl ⟨rfl,rfl⟩ (by kernel_rfl) rfl
  (fun f fn hf hfn=>by
   obtain rfl:f=10:=Option.some.inj ((show Tryz.prog.funcNamed Rows.quotientDecidesRow.func=some 10 by kernel_rfl).symm.trans hf) |>.symm
   obtain rfl:fn=Tryz.f10:=(Option.some.inj (Tryz.func10.symm.trans hfn)).symm
   exact ⟨by kernel_rfl,fun j t ht=>by
    rw [Tryz.params10] at ht
    have hm:t∈[25,25,54]:=by
     have:=List.mem_of_getElem? (l:=[25,25,54]) (i:=j) (by simpa using ht)
     exact this
    have hall:([25,25,54].all fun t=>Tryz.prog.wantsStandIn t==false)=true:=by kernel_rfl
    exact eq_of_beq (List.all_eq_true.1 hall t hm)⟩)
  (by kernel_rfl)
end Go.Proofs.YtjehkdhnhfghiaaGreatDoor
