/- What is proved here: the law TopCanonicalTells returns true at every input and leaves its arguments as they were. The condition is the row own: the listed table of math bits holds what the text lays. -/
import Derived.Test.YtkmhdnlmghaooaaGreatDoorMG
set_option linter.unusedVariables false
set_option linter.unusedSimpArgs false
set_option linter.unusedSectionVars false
namespace Go.Ab
open Go Go.Proofs
section
open K
def f_wittingtop_TopCanonicalTells:Nat:=5
def c_wittingtop_TopCanonicalTells:CFn:=⟨105,[.tmp 4],(q [(.reg [o 2 (.box 3 (t 0)),o 4 (.mv (c .bf))]),
 (q [(.reg [o 15 (la 3 2),o 16 (.call 6 [(t 15),(c (n 8))]),o 17 (.un .not (t 16)),o 18 (m 17),g 19 18 false (m 1),g 20 18 false (ln 19),g 21 18 false (bc .gtr 20 (n 30)),o 22 (pt 18 21)]),
 (i 22 (q [(.reg [o 23 (.call 19 []),o 4 (m 23)]),
 .ret]) .skip)]),
 (.reg [o 25 (la 3 2),o 26 (m 1),o 27 (.call 8 [(t 25),(t 26)]),o 24 (m 27),o 28 (e 24 0),o 29 (e 24 1),o 5 (m 28),o 6 (m 29)]),
 (q [(.reg [o 30 (m 6),o 31 (bc .neq 30 (n 0)),o 32 (m 31),g 33 32 false (m 1),g 34 32 false (.call 9 [(t 33)]),g 35 32 false (bc .and 34 (n 4)),g 36 32 false (bc .neq 35 (n 0)),o 37 (pt 32 36)]),
 (i 37 (q [(.reg [o 38 (.call 19 []),o 4 (m 38)]),
 .ret]) .skip)]),
 (q [(.reg [o 7 (.mv (c (n 0)))]),
 (.block 0 (.loop (q [(q [(.reg [o 39 (m 7),o 40 (f 0 2),o 41 (l 40),o 42 (b .lss 39 41)]),
 (i 42 .skip (.exit 0))]),
 (.block 1 (q [(q [(.reg [o 8 (.mv (c (n 0)))]),
 (.block 2 (.loop (q [(q [(.reg [o 45 (m 8),o 46 (m 7),o 47 (b .lss 45 46)]),
 (i 47 .skip (.exit 2))]),
 (.block 3 (q [(.reg [o 51 (la 3 2),o 52 (m 7),o 53 (la 3 2),o 54 (m 8),o 55 (.call 20 [(t 51),(t 52),(t 53),(t 54)]),o 50 (m 55),o 56 (e 50 0),o 57 (e 50 1),o 9 (m 56),o 10 (m 57)]),
 (.reg [o 58 (m 10),o 59 (bc .neq 58 (n 0)),o 60 (m 59),g 61 60 false (m 9),g 62 60 false (m 61),g 63 62 true (m 5),g 64 62 true (m 7),g 65 62 true (.conv .u64 (t 64)),g 66 62 true (b .shr 63 65),g 67 62 true (bc .and 66 (u 1)),g 68 62 true (m 5),g 69 62 true (m 8),g 70 62 true (.conv .u64 (t 69)),g 71 62 true (b .shr 68 70),g 72 62 true (bc .and 71 (u 1)),g 73 62 true (b .neq 67 72),g 74 60 false (pf 62 73),o 75 (pt 60 74)]),
 (i 75 (q [(.reg [o 4 (.mv (c .bf))]),
 .ret]) .skip)])),
 (.reg [o 48 (m 8),o 49 (bc .add 48 (n 1)),o 8 (m 49)])])))]),
 (.reg [o 77 (la 3 2),o 78 (m 7),o 79 (.call 21 [(t 77),(t 78)]),o 76 (m 79),o 80 (e 76 0),o 81 (e 76 1),o 11 (.alloc [(n 0),(.nils 1),(.nils 1)]),w (.store 3 (t 11) (t 80)),o 12 (m 81)]),
 (.reg [o 83 (la 3 11),o 84 (m 1),o 85 (.call 22 [(t 83),(c (n 0)),(t 84)]),o 82 (m 85),o 86 (e 82 0),o 87 (e 82 1),o 13 (m 86),o 14 (m 87)]),
 (.reg [o 88 (m 12),o 89 (bc .neq 88 (n 0)),o 90 (m 89),g 91 90 false (m 14),g 92 90 false (bc .neq 91 (n 0)),o 93 (pt 90 92),o 94 (m 93),g 95 94 false (m 13),g 96 94 false (m 5),g 97 94 false (m 7),g 98 94 false (.conv .u64 (t 97)),g 99 94 false (b .shr 96 98),g 100 94 false (bc .and 99 (u 1)),g 101 94 false (bc .eql 100 (u 1)),g 102 94 false (.eqB true (t 95) (t 101)),o 103 (pt 94 102)]),
 (i 103 (q [(.reg [o 4 (.mv (c .bf))]),
 .ret]) .skip)])),
 (.reg [o 43 (m 7),o 44 (bc .add 43 (n 1)),o 7 (m 44)])])))]),
 (.reg [o 104 (.call 19 []),o 4 (m 104)]),
 .ret])⟩
end
theorem k_wittingtop_TopCanonicalTells:zd Tryz.prog f_wittingtop_TopCanonicalTells=some c_wittingtop_TopCanonicalTells:=by kernel_rfl
end Go.Ab
namespace Go.Ab
open Go Go.Proofs
set_option maxRecDepth 10000
set_option maxHeartbeats 4000000
variable {T:Nat→Obj→Prop}
theorem few12 {m:KM} {n:Int} (h:zuE m n=true) (hn:n≤12):za m=0→m.W≤12:=fun h0=>by
 have:=of_decide_eq_true h
 have w2:=(zx h0).w2
 omega
end Go.Ab
namespace Go.Ab
open Go Go.Proofs
set_option maxRecDepth 10000
set_option maxHeartbeats 4000000
variable {T:Nat→Obj→Prop}
theorem law_Tells (hT:zdf T) (hX:zf9 T) (m:KM) (f:List Nd):Fn Tryz.prog T f_wittingtop_TopCanonicalTells [.d (dKM m),.d (dF f)] [] (.d (.bool true)) []:=by
 have hA:=zEs hT hX
 have hf:=zE5 (T:=T) m 8
 have ch:=zy6 (T:=T) m f
 have cfr:=zBg (T:=T) f
 refine zb zn k_wittingtop_TopCanonicalTells (by show 2≤105;decide) ?_
 cases hbw:zuE m 8 with
 | false =>
  rw [hbw] at hf
  (repeat' ((conv=>whnf);first|refine vA ?_|refine vE ?_|refine vH ?_|refine vT ?_|refine vZ ?_|refine yD hf ⟨⟨rfl,rfl⟩,⟨rfl,rfl⟩,rfl⟩ rfl ?_|refine yD hA (by (repeat refine ⟨⟨rfl,rfl⟩,?_⟩);rfl) rfl ?_));all_goals try conv=>whnf
 | true =>
  rw [hbw] at hf
  have h12:=few12 hbw (by omega)
  by_cases hr:zbw m f=0
  ·by_cases hd:zbx .i64 (fun p q=>p&&&q) (uni zcJ (cL f):Int) 4=0
   ·obtain ⟨hk0,hf0,-,-⟩:=zky hr
    have gm:=zx hk0
    have w1:=gm.w1
    have w2:=gm.w2
    have hnd:=zE6 hf0 hd
    obtain ⟨s0,s1⟩:=zEH hr
    have hN : ∀ k:Nat,k < 64→(BitVec.ofInt 64 (k:Int)).toNat=k:=fun k hk=>zkq (k := .i64) (Nat.lt_of_lt_of_le hk (by decide))
    have hsame : ∀ v w,v < m.W.toNat→w < m.W.toNat→(zyn m (v:Int) m (w:Int)).2=0∧((zyn m (v:Int) m (w:Int)).1=true→(zdM m f).1.getLsbD v=(zdM m f).1.getLsbD w):=fun v w hv hw=>by
     obtain ⟨a1,-⟩:=zup hk0 hv
     obtain ⟨b1,-⟩:=zup hk0 hw
     unfold zyn
     rw [if_neg (not_not_intro hk0),if_neg (not_not_intro hk0),if_neg (by omega),if_neg (not_not_intro a1),if_neg (not_not_intro b1)]
     refine ⟨rfl,fun h=>?_⟩
     rw [Bool.eq_iff_iff,s1,s1,zEZ rfl (zE3 hk0 hk0 hv hw (of_decide_eq_true h)) hnd]
     exact ⟨fun h=>⟨hw,h.2⟩,fun h=>⟨hv,h.2⟩⟩
    have hcan : ∀ v,v < m.W.toNat→(cnL m (v:Int)).2=0∧(atK (cnL m (v:Int)).1 0 f).2=0∧(atK (cnL m (v:Int)).1 0 f).1=(zdM m f).1.getLsbD v:=fun v hv=>by
     obtain ⟨a1,a2,a3,a4,a5,a6⟩:=zup hk0 hv
     obtain ⟨p1,p2⟩:=zE4 hk0 hv
     have hq:=zEY hr a2 a5 a4
     have u1:=(zEH hq).2
     have hat:atK (cnL m (v:Int)).1 0 f=((zdM (cnL m (v:Int)).1 f).1.getLsbD 0,0):=by
      unfold atK
      rw [if_neg (by omega),if_neg (by omega)];rfl
     refine ⟨a1,by rw [hat],?_⟩
     rw [hat,Bool.eq_iff_iff,s1,u1,← zEZ a4 p2 hnd]
     exact ⟨fun h=>⟨hv,h.2⟩,fun h=>⟨p1,h.2⟩⟩
    rw [s0] at ch
    generalize (zdM m f).1=s at *
    (repeat' ((conv=>whnf);first|refine vA ?_|refine vE ?_|refine vG ?_|refine vH ?_|((first|refine vD ?_ ?_|refine vF ?_ ?_)<;>intro hc<;>try simp only [vL] at hc)|refine vJ fun hg=>?_|refine vT ?_|refine vZ ?_|refine yD hf ⟨⟨rfl,rfl⟩,⟨rfl,rfl⟩,rfl⟩ rfl ?_|refine yN ch ⟨⟨rfl,rfl⟩,⟨rfl,rfl⟩,rfl⟩ ?_|refine yD cfr ⟨⟨rfl,rfl⟩,rfl⟩ rfl ?_|refine yD hA (by (repeat refine ⟨⟨rfl,rfl⟩,?_⟩);rfl) rfl ?_));all_goals try conv=>whnf
    refine zy (fun (v:Nat)=>[(1,.d (dF f)),(2,.ptr 0 0),(5,.d (.u64 (s))),(7,.d (.int .i64 ((v:Int))))]) (fun (v:Nat)=>[(0,some (zco m))]) 1 (fun (v:Nat)=>v≤m.W.toNat) (fun (v:Nat)=>m.W.toNat - v) (0) [(0,0)] [] (by omega) (by (refine ⟨rfl,rfl,rfl,?_,?_⟩;repeat' first|exact trivial|exact rfl|refine And.intro ?_ ?_|refine ⟨_,rfl,?_⟩|decide)) ?_
    rintro v hv
    by_cases hvl:v < m.W.toNat
    ·have hsm:=hsame v
     (repeat' ((conv=>whnf);first|refine vA ?_|(refine vF ?_ ?_<;>intro hc<;>try simp only [vL] at hc)|refine vT ?_));all_goals try conv=>whnf
     refine zy (fun (w:Nat)=>[(1,.d (dF f)),(2,.ptr 0 0),(5,.d (.u64 (s))),(7,.d (.int .i64 ((v:Int)))),(8,.d (.int .i64 ((w:Int))))]) (fun (w:Nat)=>[(0,some (zco m))]) 1 (fun (w:Nat)=>w≤v) (fun (w:Nat)=>v - w) (0) [(0,0)] [] (by omega) (by (refine ⟨rfl,rfl,rfl,?_,?_⟩;repeat' first|exact trivial|exact rfl|refine And.intro ?_ ?_|refine ⟨_,rfl,?_⟩|decide)) ?_
     rintro w hw
     by_cases hwl:w < v
     ·obtain ⟨e1,e2⟩:=hsm w hvl (by omega)
      have cs:=zET (T:=T) hT hX m m h12 h12 (v:Int) (w:Int)
      rw [e1] at cs
      generalize (zyn m (v:Int) m (w:Int)).1=b at *
      (repeat' ((conv=>whnf);first|refine vA ?_|refine vH ?_|((first|refine vD ?_ ?_|refine vF ?_ ?_|refine vI ?_ ?_)<;>intro hc<;>try simp only [vL] at hc)|refine vT ?_|(refine vO ?_ ?_;·omega)|refine vZ ?_|refine yN cs (by (repeat refine ⟨⟨rfl,rfl⟩,?_⟩);rfl) ?_));all_goals try conv=>whnf
      ·refine absurd ?_ ‹_≠_›
       rw [hN _ (by omega),hN _ (by omega)]
       exact zE2.2 (e2 ‹b=true›)
      ·refine ⟨w+1,[(0,0)],[],?_,?_,by (refine ⟨rfl,rfl,rfl,?_,?_⟩;repeat' first|exact trivial|exact rfl|refine And.intro ?_ ?_|refine ⟨_,rfl,?_⟩|decide)⟩
       ·(omega)
       ·(omega)
      ·refine ⟨w+1,[(0,0)],[],?_,?_,by (refine ⟨rfl,rfl,rfl,?_,?_⟩;repeat' first|exact trivial|exact rfl|refine And.intro ?_ ?_|refine ⟨_,rfl,?_⟩|decide)⟩
       ·(omega)
       ·(omega)
      ·exfalso;omega
     ·obtain rfl:w=v:=by omega
      obtain ⟨c1,c2,c3⟩:=hcan w hvl
      have cc:=zlP (T:=T) hT hX m h12 (w:Int)
      have cat:=zE7 (T:=T) (cnL m (w:Int)).1 0 f
      rw [c2,c3] at cat
      rw [show cnL m (w:Int)=((cnL m (w:Int)).1,0) from Prod.ext rfl c1] at cc
      generalize (cnL m (w:Int)).1=C at *
      have e3:decide (s >>> (BitVec.ofInt 64 (w:Int)).toNat&&&1#64=1#64)=s.getLsbD w:=by
       rw [Bool.eq_iff_iff,decide_eq_true_eq,hN _ (by omega)];exact zcS s _
      (repeat' ((conv=>whnf);first|refine vA ?_|refine vE ?_|refine vH ?_|(refine vF ?_ ?_<;>intro hc<;>try simp only [vL] at hc)|refine vT ?_|(refine vO ?_ ?_;·omega)|refine vZ ?_|refine yN cc ⟨⟨rfl,rfl⟩,⟨rfl,rfl⟩,rfl⟩ ?_|refine yN cat ⟨⟨rfl,rfl⟩,⟨rfl,rfl⟩,⟨rfl,rfl⟩,rfl⟩ ?_));all_goals try conv=>whnf
      ·exfalso;omega
      ·refine ⟨w+1,[(0,0)],[],?_,?_,by (refine ⟨rfl,rfl,rfl,?_,?_⟩;repeat' first|exact trivial|exact rfl|refine And.intro ?_ ?_|refine ⟨_,rfl,?_⟩|decide)⟩
       ·(omega)
       ·(omega)
      ·exact absurd e3.symm ‹¬_=_›
     exfalso;omega
    ·obtain rfl:v=m.W.toNat:=by omega
     (repeat' ((conv=>whnf);first|refine vA ?_|(refine vF ?_ ?_<;>intro hc<;>try simp only [vL] at hc)|refine vT ?_|refine vZ ?_|refine yD hA (by (repeat refine ⟨⟨rfl,rfl⟩,?_⟩);rfl) rfl ?_));all_goals try conv=>whnf
     all_goals (exfalso;omega)
   ·(repeat' ((conv=>whnf);first|refine vA ?_|refine vE ?_|refine vG ?_|((first|refine vD ?_ ?_|refine vF ?_ ?_)<;>intro hc<;>try simp only [vL] at hc)|refine vJ fun hg=>?_|refine vT ?_|refine vZ ?_|refine yD hf ⟨⟨rfl,rfl⟩,⟨rfl,rfl⟩,rfl⟩ rfl ?_|refine yN ch ⟨⟨rfl,rfl⟩,⟨rfl,rfl⟩,rfl⟩ ?_|refine yD cfr ⟨⟨rfl,rfl⟩,rfl⟩ rfl ?_|refine yD hA (by (repeat refine ⟨⟨rfl,rfl⟩,?_⟩);rfl) rfl ?_));all_goals try conv=>whnf
    all_goals exact absurd ‹zbx _ _ _ _=0› hd
  ·rw [zqT hr] at ch
   dsimp only at ch
   (repeat' ((conv=>whnf);first|refine vA ?_|refine vE ?_|refine vG ?_|((first|refine vD ?_ ?_|refine vF ?_ ?_)<;>intro hc<;>try simp only [vL] at hc)|refine vJ fun hg=>?_|refine vT ?_|refine vZ ?_|refine yD hf ⟨⟨rfl,rfl⟩,⟨rfl,rfl⟩,rfl⟩ rfl ?_|refine yN ch ⟨⟨rfl,rfl⟩,⟨rfl,rfl⟩,rfl⟩ ?_|refine yD cfr ⟨⟨rfl,rfl⟩,rfl⟩ rfl ?_|refine yD hA (by (repeat refine ⟨⟨rfl,rfl⟩,?_⟩);rfl) rfl ?_));all_goals try conv=>whnf
   all_goals exact absurd ‹zbw m f=0› hr
end Go.Ab
namespace Go.Proofs.YtkmhdnlmghaooaaGreatDoor
open Go Go.Ab Go.RowKit Go.ChangeShapes Go.WideShapes
set_option maxRecDepth 100000
theorem topCanonicalTells_c9:(Rows.topCanonicalTellsRow.inPlace==Tryz.pinned.checked.prog.inPlace 5)=true:=by kernel_rfl
theorem topCanonicalTells_c10:(Rows.topCanonicalTellsRow.unfollowed==Tryz.pinned.checked.prog.unfollowed 5)=true:=by kernel_rfl
theorem topCanonicalTells_c11:(Rows.topCanonicalTellsRow.recurses==Tryz.pinned.checked.prog.recurses 5)=true:=by kernel_rfl
theorem topCanonicalTells_c12:(Rows.topCanonicalTellsRow.named==Tryz.pinned.checked.prog.varsNamed 5)=true:=by kernel_rfl
theorem topCanonicalTells_c25:Tryz.pinned.checked.prog.mayEnter=true:=by kernel_rfl
theorem topCanonicalTells_c26:(Rows.topCanonicalTellsRow.lifted==Tryz.pinned.checked.prog.liftsFinal)=true:=by kernel_rfl
theorem topCanonicalTells_c27:(Tryz.pinned.checked.prog.make==some Rows.topCanonicalTellsRow.make)=true:=by kernel_rfl
theorem topCanonicalTells_facts:joinedFacts Tryz.pinned.checked.prog 5 Tryz.f5 Rows.topCanonicalTellsSpec Rows.topCanonicalTellsRow=true:=(zFb (zFb (zFb (zFb (zFb (zFb (zFb (zFb (zFb (zFb (zFb (zFb (zFb (zFb (zFb (zFb (zFb (zFb (zFb (zFb (zFb (zFb (zFb (zFb (zFb (zFb (zFb (zFb (zFb (zFb (zFb (by kernel_rfl) (by kernel_rfl)) (by kernel_rfl)) (by kernel_rfl)) (by kernel_rfl)) (by kernel_rfl)) (by kernel_rfl)) (by kernel_rfl)) (by kernel_rfl)) topCanonicalTells_c9) topCanonicalTells_c10) topCanonicalTells_c11) topCanonicalTells_c12) (by kernel_rfl)) (by kernel_rfl)) (by kernel_rfl)) (by kernel_rfl)) (by kernel_rfl)) (by kernel_rfl)) (by kernel_rfl)) (by kernel_rfl)) (by kernel_rfl)) (by kernel_rfl)) (by kernel_rfl)) (by kernel_rfl)) topCanonicalTells_c25) topCanonicalTells_c26) topCanonicalTells_c27) (by kernel_rfl)) (by kernel_rfl)) (by kernel_rfl)) (by kernel_rfl))
theorem topCanonicalTells_holds:Rows.TopCanonicalTellsSaid :=
 OpenClaim.holds_of_wide 5 Tryz.f5 rfl rfl rfl rfl rfl rfl rfl ⟨rfl,rfl,rfl,rfl,rfl⟩ rfl rfl rfl rfl rfl (by kernel_rfl) Tryz.func5 topCanonicalTells_facts
  (of_decide_eq_true (by kernel_rfl)) (by unfold Func.isWrapper;rw [if_neg (of_decide_eq_false (by kernel_rfl))];exact ⟨rfl,rfl⟩)
  (fun os started H enc _=>zEJ (C:=Tryz.checked) (s:=Rows.topCanonicalTellsSpec) (laid:=laidL) knob started (by kernel_rfl) Tryz.func5 laidOut [25,26] Tryz.params5 rfl Tryz.underlying4 rfl (by kernel_rfl)
   (fun ds hds=>by match ds,hds with|[d1,d2],_=>rfl)
   (ChangeSpec.witness_shaped (enc:=enc) (C:=Tryz.checked) (os:=os) (X:=fun w _=>laidMetH Tryz.prog laidL w) false (World.doorLaid Tryz.prog 14 os)
    #[.agg #[.int .i64 0,.slice none 0 0,.slice none 0 0],.slice none 0 0] 8 rfl (World.shaped_of_RefB (by kernel_rfl) (by kernel_rfl)) (by kernel_rfl) (by kernel_rfl) (by kernel_rfl) (door_met os _))
   (fun W hL=>⟨TOf W,(zE9 hL).1,(zE9 hL).2,fun ds hds=>by
    obtain ⟨m1,r,rfl,hm1,k1⟩:=zEO hds
    obtain ⟨f2,r,rfl,k2⟩:=zER k1
    obtain rfl:=zFc k2
    exact law_Tells (tz_of hL) (hex_of hL) m1 f2⟩))
theorem topCanonicalTells_card:Rows.TopCanonicalTellsCardSaid :=
 Claim7.holds_tied_plain_at .later [] [.data,.data,.data] true (true, "86b97d0b0e390b30dd7ea571d7e291ffbe1eddf6a7df1e56dfb71c129d4366ea") false
  topCanonicalTells_holds (fun _ h=>by cases h) (by kernel_rfl) (fun _ h=>by cases h) topCanonicalTells_row_tie rfl ⟨rfl,rfl⟩ (by kernel_rfl) rfl
  (fun f fn hf hfn=>by
   obtain rfl:f=5:=Option.some.inj ((show Tryz.prog.funcNamed Rows.topCanonicalTellsRow.func=some 5 by kernel_rfl).symm.trans hf) |>.symm
   obtain rfl:fn=Tryz.f5:=(Option.some.inj (Tryz.func5.symm.trans hfn)).symm
   exact ⟨by kernel_rfl,fun j t ht=>by
    rw [Tryz.params5] at ht
    have hm:t∈[25,26]:=by
     have:=List.mem_of_getElem? (l:=[25,26]) (i:=j) (by simpa using ht)
     exact this
    have hall:([25,26].all fun t=>Tryz.prog.wantsStandIn t==false)=true:=by kernel_rfl
    exact eq_of_beq (List.all_eq_true.1 hall t hm)⟩)
  (by kernel_rfl)
end Go.Proofs.YtkmhdnlmghaooaaGreatDoor
