/- What is proved here: the law QuotientRenamed returns true at every input and leaves its arguments as they were. The condition is the row own: the listed table of math bits holds what the text lays. -/
import Derived.Test.YtjehkdhnhfghiaaGreatDoorMG
set_option linter.unusedVariables false
set_option linter.unusedSimpArgs false
set_option linter.unusedSectionVars false
namespace Go.Ab
open Go Go.Proofs
section
open K
def f_wittinglaw20_QuotientRenamed:Nat:=7
def c_wittinglaw20_QuotientRenamed:CFn:=⟨97,[.tmp 6],(q [(.reg [o 3 (.box 3 (t 0)),o 6 (.mv (c .bf))]),
 (q [(.reg [o 16 (la 3 3),o 17 (.call 13 [(t 16),(c (n 8))]),o 18 (.un .not (t 17)),o 19 (m 18),g 20 19 false (la 3 3),g 21 19 false (.call 14 [(t 20)]),g 22 19 false (bc .neq 21 (n 0)),o 23 (pt 19 22),o 24 (m 23),g 25 24 false (m 1),g 26 24 false (ln 25),g 27 24 false (bc .gtr 26 (n 64)),o 28 (pt 24 27)]),
 (i 28 (q [(.reg [o 29 (.call 21 []),o 6 (m 29)]),
 .ret]) .skip)]),
 (.reg [o 31 (la 3 3),o 32 (m 1),o 33 (.call 16 [(t 31),(t 32)]),o 30 (m 33),o 34 (e 30 0),o 35 (e 30 1),o 7 (.alloc [(n 0),(.nils 1),(.nils 1)]),w (.store 3 (t 7) (t 34)),o 8 (m 35)]),
 (.reg [o 36 (m 2),o 37 (.conv .i64 (t 36)),o 38 (f 0 3),o 39 (l 38),o 40 (b .rem 37 39),o 9 (m 40)]),
 (.reg [o 42 (la 3 3),o 43 (m 9),o 44 (.call 30 [(t 42),(t 43)]),o 41 (m 44),o 45 (e 41 0),o 46 (e 41 1),o 10 (.alloc [(n 0),(.nils 1),(.nils 1)]),w (.store 3 (t 10) (t 45)),o 11 (m 46)]),
 (.reg [o 48 (la 3 10),o 49 (.call 30 [(t 48),(c (n 0))]),o 47 (m 49),o 50 (e 47 0),o 51 (e 47 1),o 12 (.alloc [(n 0),(.nils 1),(.nils 1)]),w (.store 3 (t 12) (t 50)),o 13 (m 51)]),
 (q [(.reg [o 52 (m 11),o 53 (bc .neq 52 (n 0)),o 54 (m 53),g 55 54 false (m 13),g 56 54 false (bc .neq 55 (n 0)),o 57 (pt 54 56),o 58 (m 57),g 59 58 false (la 3 10),g 60 58 false (la 3 12),g 61 58 false (.call 24 [(t 59),(t 60)]),g 62 58 false (.un .not (t 61)),o 63 (pt 58 62)]),
 (i 63 (q [(.reg [o 6 (.mv (c .bf))]),
 .ret]) .skip)]),
 (q [(.reg [o 64 (m 8),o 65 (bc .neq 64 (n 0)),o 66 (m 65),g 67 66 false (m 1),g 68 66 false (ln 67),g 69 66 false (f 0 3),g 70 66 false (l 69),g 71 66 false (b .neq 68 70),o 72 (pt 66 71)]),
 (i 72 (q [(.reg [o 73 (m 8),o 74 (bc .neq 73 (n 0)),o 75 (m 74),g 76 75 true (.call 21 []),o 77 (pf 75 76),o 6 (m 77)]),
 .ret]) .skip)]),
 (.regd [o 79 (la 3 7),o 80 (m 1),o 81 (m 9),o 82 (ia 1 80 81),o 83 (l 82),o 84 (.call 30 [(t 79),(t 83)]),o 78 (m 84),o 85 (e 78 0),o 86 (e 78 1),o 14 (.alloc [(n 0),(.nils 1),(.nils 1)]),w (.store 3 (t 14) (t 85)),o 15 (m 86)] [0,0,0,6,14,31,63,127,127,0,767,2047]),
 (.reg [o 87 (m 15),o 88 (bc .eql 87 (n 0)),o 89 (m 88),g 90 89 true (la 3 10),g 91 89 true (la 3 14),g 92 89 true (.call 24 [(t 90),(t 91)]),o 93 (pf 89 92),o 94 (m 93),g 95 94 true (.call 21 []),o 96 (pf 94 95),o 6 (m 96)]),
 .ret])⟩
end
theorem k_wittinglaw20_QuotientRenamed:zi Tryz.prog f_wittinglaw20_QuotientRenamed=some c_wittinglaw20_QuotientRenamed:=by kernel_rfl
end Go.Ab
namespace Go.Ab
open Go Go.Proofs
set_option maxRecDepth 10000
set_option maxHeartbeats 4000000
variable {T:Nat→Obj→Prop}
theorem few12 {m:KM} {n:Int} (h:zsd m n=true) (hn:n≤12):za m=0→m.W≤12:=fun h0=>by
 have:=of_decide_eq_true h
 have w2:=(zk h0).w2
 omega
end Go.Ab
namespace Go.Ab
open Go Go.Proofs
set_option maxRecDepth 10000
set_option maxHeartbeats 4000000
variable {T:Nat→Obj→Prop}
theorem law_Renamed (hT:za0 T) (hX:zfv T) (m:KM) (to:List Int) (x:Int) (hx0:0≤x) (hx:x≤255):Fn Tryz.prog T f_wittinglaw20_QuotientRenamed [.d (dKM m),.d (dI to),.d (.int .u8 x)] [] (.d (.bool true)) []:=by
 have hA:=zBr hT hX
 have hf:=zBP (T:=T) m 8
 refine zg zx k_wittinglaw20_QuotientRenamed (by show 3≤97;decide) ?_
 cases hbw:zsd m 8 with
 | false =>
  rw [hbw] at hf
  (repeat' ((conv=>whnf);first|refine vA ?_|refine vE ?_|refine vH ?_|refine vT ?_|refine vZ ?_|refine yD hf ⟨⟨rfl,rfl⟩,⟨rfl,rfl⟩,rfl⟩ rfl ?_|refine yD hA (by (repeat refine ⟨⟨rfl,rfl⟩,?_⟩);rfl) rfl ?_));all_goals try conv=>whnf
 | true =>
  rw [hbw] at hf
  have h12:=few12 hbw (by omega)
  have ck:=zau (T:=T) m
  by_cases hk0:za m=0
  ·have hg:=zk hk0
   have w1:=hg.w1
   have w2:=hg.w2
   have hx2:=Int.tmod_nonneg m.W hx0
   have hx3:=Int.tmod_lt_of_pos x (show (0:Int) < m.W by omega)
   have cr:=zvk (T:=T) m to
   have c1:=zAG (T:=T) hT hX m h12 (x.tmod m.W)
   obtain ⟨w,hw⟩ : ∃ w:Nat,x.tmod m.W=(w:Int):=⟨(x.tmod m.W).toNat,by omega⟩
   have hwl:w < m.W.toNat:=by omega
   obtain ⟨a1,a2,a3,a4,a5,a6⟩:=ziS hk0 hwl
   have hcl:(cnL m (w:Int)).1.W≤12:=by
    have h1:=zcp (zG m.W.toNat (zf m) w).length (coa (zG m.W.toNat (zf m) w).length (zF (zG m.W.toNat (zf m) w) (zf m)) (zac (zG m.W.toNat (zf m) w) (zz m)))
    have h2:=zjd (n:=m.W.toNat) (R:=zf m) (w:=w)
    have h3:(ptM m w).can.n=zu (zG m.W.toNat (zf m) w).length (coa (zG m.W.toNat (zf m) w).length (zF (zG m.W.toNat (zf m) w) (zf m)) (zac (zG m.W.toNat (zf m) w) (zz m))):=rfl
    have:=h12 hk0
    omega
   have c2:=zAG (T:=T) hT hX (cnL m (w:Int)).1 (fun _=>hcl) 0
   rw [zBJ hk0 hwl] at c2
   have e1:cnL m (x.tmod m.W)=((cnL m (w:Int)).1,0):=by rw [hw];exact Prod.ext rfl a1
   rw [e1] at c1
   clear e1
   generalize hC:(cnL m (w:Int)).1=C at *
   by_cases hp:zcF to m.W.toNat=true
   ·obtain ⟨p1,p2,p3⟩:=zel.1 hp
    have e3:=zBR hk0 hp hwl
    rw [hC] at e3
    have c3:=zAG (T:=T) hT hX (zC m (za9 to m.W.toNat)) (fun _=>by show ((za9 to m.W.toNat).length:Int)≤12;rw [zji];have:=h12 hk0;omega) (at0 to w)
    rw [e3] at c3
    have cx : ∀ y,to[(x.tmod m.W).toNat]? = some y→Fn Tryz.prog T zfG [.d (dKM (zC m (za9 to m.W.toNat))),.d (.int .i64 y)] [] (.d (dKI (C,0))) []:=fun y hy=>by
     rw [hw,Int.toNat_natCast,zdb (by omega)] at hy
     cases hy
     exact c3
    clear c3
    have er:zoc m to=(zC m (za9 to m.W.toNat),0):=by unfold zoc;rw [if_neg (not_not_intro hk0),if_pos hp]
    rw [er] at cr
    (repeat' ((conv=>whnf);first|refine vA ?_|refine vE ?_|refine vG ?_|refine vH ?_|((first|refine vD ?_ ?_|refine vF ?_ ?_)<;>intro hc<;>try simp only [vL] at hc)|refine vJ fun hg=>?_|refine vT ?_|((first|refine vO ?_ ?_|refine vS ?_ fun x hx=>?_|refine vP ?_ ?_);·omega)|(refine vU ?_ ?_;·kernel_rfl)|refine vZ ?_|refine yD hf ⟨⟨rfl,rfl⟩,⟨rfl,rfl⟩,rfl⟩ rfl ?_|refine yD ck ⟨⟨rfl,rfl⟩,rfl⟩ rfl ?_|refine yN cr ⟨⟨rfl,rfl⟩,⟨rfl,rfl⟩,rfl⟩ ?_|refine yN c1 ⟨⟨rfl,rfl⟩,⟨rfl,rfl⟩,rfl⟩ ?_|refine yN c2 ⟨⟨rfl,rfl⟩,⟨rfl,rfl⟩,rfl⟩ ?_|refine yN (cx _ (by assumption)) (by (repeat refine ⟨⟨rfl,rfl⟩,?_⟩);rfl) ?_|refine yD (zBs _ _) ⟨⟨rfl,rfl⟩,⟨rfl,rfl⟩,rfl⟩ rfl ?_|refine yD hA (by (repeat refine ⟨⟨rfl,rfl⟩,?_⟩);rfl) rfl ?_));all_goals try conv=>whnf
    all_goals first|exact absurd rfl ‹_≠_›|exact absurd trivial ‹¬True›|exact absurd (beq_self_eq_true _) (by rw [hc];decide)|(exfalso;omega)|skip
   ·have er:zoc m to=(zbi,1):=by unfold zoc;rw [if_neg (not_not_intro hk0),if_neg hp]
    rw [er] at cr
    (repeat' ((conv=>whnf);first|refine vA ?_|refine vE ?_|refine vG ?_|refine vH ?_|((first|refine vD ?_ ?_|refine vF ?_ ?_)<;>intro hc<;>try simp only [vL] at hc)|refine vJ fun hg=>?_|refine vT ?_|((first|refine vO ?_ ?_|refine vP ?_ ?_);·omega)|refine vZ ?_|refine yD hf ⟨⟨rfl,rfl⟩,⟨rfl,rfl⟩,rfl⟩ rfl ?_|refine yD ck ⟨⟨rfl,rfl⟩,rfl⟩ rfl ?_|refine yN cr ⟨⟨rfl,rfl⟩,⟨rfl,rfl⟩,rfl⟩ ?_|refine yN c1 ⟨⟨rfl,rfl⟩,⟨rfl,rfl⟩,rfl⟩ ?_|refine yN c2 ⟨⟨rfl,rfl⟩,⟨rfl,rfl⟩,rfl⟩ ?_|refine yD (zBs _ _) ⟨⟨rfl,rfl⟩,⟨rfl,rfl⟩,rfl⟩ rfl ?_|refine yD hA (by (repeat refine ⟨⟨rfl,rfl⟩,?_⟩);rfl) rfl ?_));all_goals try conv=>whnf
    all_goals first|exact absurd rfl ‹_≠_›|exact absurd trivial ‹¬True›|exact absurd (beq_self_eq_true _) (by rw [hc];decide)|(exfalso;omega)|skip
  ·(repeat' ((conv=>whnf);first|refine vA ?_|refine vE ?_|refine vG ?_|((first|refine vD ?_ ?_|refine vF ?_ ?_)<;>intro hc<;>try simp only [vL] at hc)|refine vJ fun hg=>?_|refine vT ?_|refine vZ ?_|refine yD hf ⟨⟨rfl,rfl⟩,⟨rfl,rfl⟩,rfl⟩ rfl ?_|refine yD ck ⟨⟨rfl,rfl⟩,rfl⟩ rfl ?_|refine yD hA (by (repeat refine ⟨⟨rfl,rfl⟩,?_⟩);rfl) rfl ?_));all_goals try conv=>whnf
   all_goals exact absurd ‹za m=0› hk0
end Go.Ab
namespace Go.Proofs.YtjehkdhnhfghiaaGreatDoor
open Go Go.Ab Go.RowKit Go.ChangeShapes Go.WideShapes
set_option maxRecDepth 100000
theorem quotientRenamed_c9:(Rows.quotientRenamedRow.inPlace==Tryz.pinned.checked.prog.inPlace 7)=true:=by kernel_rfl
theorem quotientRenamed_c10:(Rows.quotientRenamedRow.unfollowed==Tryz.pinned.checked.prog.unfollowed 7)=true:=by kernel_rfl
theorem quotientRenamed_c11:(Rows.quotientRenamedRow.recurses==Tryz.pinned.checked.prog.recurses 7)=true:=by kernel_rfl
theorem quotientRenamed_c12:(Rows.quotientRenamedRow.named==Tryz.pinned.checked.prog.varsNamed 7)=true:=by kernel_rfl
theorem quotientRenamed_c25:Tryz.pinned.checked.prog.mayEnter=true:=by kernel_rfl
theorem quotientRenamed_c26:(Rows.quotientRenamedRow.lifted==Tryz.pinned.checked.prog.liftsFinal)=true:=by kernel_rfl
theorem quotientRenamed_c27:(Tryz.pinned.checked.prog.make==some Rows.quotientRenamedRow.make)=true:=by kernel_rfl
theorem quotientRenamed_facts:joinedFacts Tryz.pinned.checked.prog 7 Tryz.f7 Rows.quotientRenamedSpec Rows.quotientRenamedRow=true:=(zBW (zBW (zBW (zBW (zBW (zBW (zBW (zBW (zBW (zBW (zBW (zBW (zBW (zBW (zBW (zBW (zBW (zBW (zBW (zBW (zBW (zBW (zBW (zBW (zBW (zBW (zBW (zBW (zBW (zBW (zBW (by kernel_rfl) (by kernel_rfl)) (by kernel_rfl)) (by kernel_rfl)) (by kernel_rfl)) (by kernel_rfl)) (by kernel_rfl)) (by kernel_rfl)) (by kernel_rfl)) quotientRenamed_c9) quotientRenamed_c10) quotientRenamed_c11) quotientRenamed_c12) (by kernel_rfl)) (by kernel_rfl)) (by kernel_rfl)) (by kernel_rfl)) (by kernel_rfl)) (by kernel_rfl)) (by kernel_rfl)) (by kernel_rfl)) (by kernel_rfl)) (by kernel_rfl)) (by kernel_rfl)) (by kernel_rfl)) quotientRenamed_c25) quotientRenamed_c26) quotientRenamed_c27) (by kernel_rfl)) (by kernel_rfl)) (by kernel_rfl)) (by kernel_rfl))
theorem quotientRenamed_holds:Rows.QuotientRenamedSaid :=
 OpenClaim.holds_of_wide 7 Tryz.f7 rfl rfl rfl rfl rfl rfl rfl ⟨rfl,rfl,rfl,rfl,rfl⟩ rfl rfl rfl rfl rfl (by kernel_rfl) Tryz.func7 quotientRenamed_facts
  (of_decide_eq_true (by kernel_rfl)) (by unfold Func.isWrapper;rw [if_neg (of_decide_eq_false (by kernel_rfl))];exact ⟨rfl,rfl⟩)
  (fun os started H enc _=>zBv (C:=Tryz.checked) (s:=Rows.quotientRenamedSpec) (laid:=laidL) knob started (by kernel_rfl) Tryz.func7 laidOut [25,26,5] Tryz.params7 rfl Tryz.underlying4 rfl (by kernel_rfl)
   (fun ds hds=>by match ds,hds with|[d1,d2,d3],_=>rfl)
   (ChangeSpec.witness_shaped (enc:=enc) (C:=Tryz.checked) (os:=os) (X:=fun w _=>laidMetH Tryz.prog laidL w) false (World.doorLaid Tryz.prog 14 os)
    #[.agg #[.int .i64 0,.slice none 0 0,.slice none 0 0],.slice none 0 0,.int .u8 0] 8 rfl (World.shaped_of_RefB (by kernel_rfl) (by kernel_rfl)) (by kernel_rfl) (by kernel_rfl) (by kernel_rfl) (door_met os _))
   (fun W hL=>⟨TOf W,(zBU hL).1,(zBU hL).2,fun ds hds=>by
    obtain ⟨m1,r,rfl,hm1,k1⟩:=zBC hds
    obtain ⟨l2,r,rfl,hl2,k2⟩:=zBH k1
    obtain ⟨a3,r,rfl,ha3,k3⟩:=zBQ k2
    obtain rfl:=zBX k3
    exact law_Renamed (tz_of hL) (hex_of hL) m1 l2 a3 ha3.1 ha3.2⟩))
theorem quotientRenamed_card:Rows.QuotientRenamedCardSaid :=
 Claim7.holds_tied_plain_at .later [] [.data,.data,.data] true (true, "8d566f0265d904fd78765531ba56d84e46aac9efdae886bb35f471103bd136f7") false
  quotientRenamed_holds (fun _ h=>by cases h) (by kernel_rfl) (fun _ h=>by cases h) quotientRenamed_row_tie rfl ⟨rfl,rfl⟩ (by kernel_rfl) rfl
  (fun f fn hf hfn=>by
   obtain rfl:f=7:=Option.some.inj ((show Tryz.prog.funcNamed Rows.quotientRenamedRow.func=some 7 by kernel_rfl).symm.trans hf) |>.symm
   obtain rfl:fn=Tryz.f7:=(Option.some.inj (Tryz.func7.symm.trans hfn)).symm
   exact ⟨by kernel_rfl,fun j t ht=>by
    rw [Tryz.params7] at ht
    have hm:t∈[25,26,5]:=by
     have:=List.mem_of_getElem? (l:=[25,26,5]) (i:=j) (by simpa using ht)
     exact this
    have hall:([25,26,5].all fun t=>Tryz.prog.wantsStandIn t==false)=true:=by kernel_rfl
    exact eq_of_beq (List.all_eq_true.1 hall t hm)⟩)
  (by kernel_rfl)
end Go.Proofs.YtjehkdhnhfghiaaGreatDoor
