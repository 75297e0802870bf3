/- What is proved here: the law QuotientTruth returns true at every input and leaves its arguments as they were. The condition is the row own: the listed table of math bits holds what the text lays. -/
import Derived.Test.YtkmhdnlmghaooaaGreatDoorMG
set_option linter.unusedVariables false
set_option linter.unusedSimpArgs false
set_option linter.unusedSectionVars false
namespace Go.Ab
open Go Go.Proofs
section
open K
def f_wittinglaw20_QuotientTruth:Nat:=3
def c_wittinglaw20_QuotientTruth:CFn:=⟨142,[.tmp 4],(q [(.reg [o 2 (.box 3 (t 0)),o 4 (.mv (c .bf))]),
 (q [(.reg [o 18 (la 3 2),o 19 (.call 6 [(t 18),(c (n 10))]),o 20 (.un .not (t 19)),o 21 (m 20),g 22 21 false (m 1),g 23 21 false (ln 22),g 24 21 false (bc .gtr 23 (n 40)),o 25 (pt 21 24)]),
 (i 25 (q [(.reg [o 26 (.call 7 []),o 4 (m 26)]),
 .ret]) .skip)]),
 (.reg [o 28 (la 3 2),o 29 (m 1),o 30 (.call 8 [(t 28),(t 29)]),o 27 (m 30),o 31 (e 27 0),o 32 (e 27 1),o 5 (m 31),o 6 (m 32)]),
 (q [(.reg [o 33 (m 6),o 34 (bc .neq 33 (n 0)),o 35 (m 34),g 36 35 false (m 1),g 37 35 false (.call 9 [(t 36)]),g 38 35 false (bc .and 37 (n 4)),g 39 35 false (bc .neq 38 (n 0)),o 40 (pt 35 39)]),
 (i 40 (q [(.reg [o 41 (.call 7 []),o 4 (m 41)]),
 .ret]) .skip)]),
 (.reg [o 43 (la 3 2),o 44 (.call 10 [(t 43)]),o 42 (m 44),o 45 (e 42 0),o 46 (e 42 1),o 47 (e 42 2),o 7 (.alloc [(n 0),(.nils 1),(.nils 1)]),w (.store 3 (t 7) (t 45)),o 8 (m 46),o 9 (m 47)]),
 (.reg [o 49 (la 3 7),o 50 (m 1),o 51 (.call 8 [(t 49),(t 50)]),o 48 (m 51),o 52 (e 48 0),o 53 (e 48 1),o 10 (m 52),o 11 (m 53)]),
 (q [(.reg [o 54 (m 9),o 55 (bc .neq 54 (n 0)),o 56 (m 55),g 57 56 false (m 11),g 58 56 false (bc .neq 57 (n 0)),o 59 (pt 56 58),o 60 (m 59),g 61 60 false (m 8),g 62 60 false (ln 61),g 63 60 false (f 0 2),g 64 60 false (l 63),g 65 60 false (b .neq 62 64),o 66 (pt 60 65)]),
 (i 66 (q [(.reg [o 4 (.mv (c .bf))]),
 .ret]) .skip)]),
 (q [(.reg [o 12 (.mv (c (n 0)))]),
 (.block 0 (.loop (q [(q [(.reg [o 67 (m 12),o 68 (f 0 2),o 69 (l 68),o 70 (b .lss 67 69)]),
 (i 70 .skip (.exit 0))]),
 (.block 1 (q [(.reg [o 74 (la 3 2),o 75 (m 12),o 76 (.call 11 [(t 74),(t 75)]),o 73 (m 76),o 77 (e 73 0),o 78 (e 73 1),o 79 (e 73 2),o 13 (.alloc [(n 0),(.nils 1),(.nils 1)]),w (.store 3 (t 13) (t 77)),o 14 (m 78),o 15 (m 79)]),
 (.reg [o 81 (la 3 13),o 82 (m 1),o 83 (.call 8 [(t 81),(t 82)]),o 80 (m 83),o 84 (e 80 0),o 85 (e 80 1),o 16 (m 84),o 17 (m 85)]),
 (q [(.reg [o 86 (m 15),o 87 (bc .neq 86 (n 0)),o 88 (m 87),g 89 88 false (m 17),g 90 88 false (bc .neq 89 (n 0)),o 91 (pt 88 90),o 92 (m 91),g 93 92 false (m 8),g 94 92 false (m 12),g 95 92 false (ia 1 93 94),g 96 92 false (l 95),g 97 92 false (bc .lss 96 (n 0)),o 98 (pt 92 97),o 99 (m 98),g 100 99 false (m 8),g 101 99 false (m 12),g 102 99 false (ia 1 100 101),g 103 99 false (l 102),g 104 99 false (bc .gtr 103 (n 63)),o 105 (pt 99 104),o 106 (m 105),g 107 106 false (m 14),g 108 106 false (bc .lss 107 (n 0)),o 109 (pt 106 108),o 110 (m 109),g 111 110 false (m 14),g 112 110 false (bc .gtr 111 (n 63)),o 113 (pt 110 112)]),
 (i 113 (q [(.reg [o 4 (.mv (c .bf))]),
 .ret]) .skip)]),
 (.reg [o 114 (m 5),o 115 (m 12),o 116 (.conv .u64 (t 115)),o 117 (b .shr 114 116),o 118 (bc .and 117 (u 1)),o 119 (m 10),o 120 (m 8),o 121 (m 12),o 122 (ia 1 120 121),o 123 (l 122),o 124 (.conv .u64 (t 123)),o 125 (b .shr 119 124),o 126 (bc .and 125 (u 1)),o 127 (b .neq 118 126),o 128 (m 127),g 129 128 false (m 5),g 130 128 false (m 12),g 131 128 false (.conv .u64 (t 130)),g 132 128 false (b .shr 129 131),g 133 128 false (bc .and 132 (u 1)),g 134 128 false (m 16),g 135 128 false (m 14),g 136 128 false (.conv .u64 (t 135)),g 137 128 false (b .shr 134 136),g 138 128 false (bc .and 137 (u 1)),g 139 128 false (b .neq 133 138),o 140 (pt 128 139)]),
 (i 140 (q [(.reg [o 4 (.mv (c .bf))]),
 .ret]) .skip)])),
 (.reg [o 71 (m 12),o 72 (bc .add 71 (n 1)),o 12 (m 72)])])))]),
 (.reg [o 141 (.call 7 []),o 4 (m 141)]),
 .ret])⟩
end
theorem k_wittinglaw20_QuotientTruth:zi Tryz.prog f_wittinglaw20_QuotientTruth=some c_wittinglaw20_QuotientTruth:=by kernel_rfl
end Go.Ab
namespace Go.Ab
open Go Go.Proofs
set_option maxRecDepth 10000
set_option maxHeartbeats 4000000
variable {T:Nat→Obj→Prop}
theorem few12 {m:KM} {n:Int} (h:zsb m n=true) (hn:n≤12):zg m=0→m.W≤12:=fun h0=>by
 have:=of_decide_eq_true h
 have w2:=(zz h0).w2
 omega
end Go.Ab
namespace Go.Ab
open Go Go.Proofs
set_option maxRecDepth 10000
set_option maxHeartbeats 4000000
variable {T:Nat→Obj→Prop}
theorem law_Truth (hT:ze5 T) (hX:zgD T) (m:KM) (f:List Nd):Fn Tryz.prog T f_wittinglaw20_QuotientTruth [.d (dKM m),.d (dF f)] [] (.d (.bool true)) []:=by
 have hA:=zBv hT hX
 have hf:=zBW (T:=T) m 10
 have ch:=zBH (T:=T) m f
 have cfr:=zyc (T:=T) f
 refine zf zu k_wittinglaw20_QuotientTruth (by show 2≤142;decide) ?_
 cases hbw:zsb m 10 with
 | false =>
  rw [hbw] at hf
  (repeat' ((conv=>whnf);first|refine vA ?_|refine vE ?_|refine vH ?_|refine vT ?_|refine vZ ?_|refine yD hf ⟨⟨rfl,rfl⟩,⟨rfl,rfl⟩,rfl⟩ rfl ?_|refine yD hA (by (repeat refine ⟨⟨rfl,rfl⟩,?_⟩);rfl) rfl ?_));all_goals try conv=>whnf
 | true =>
  rw [hbw] at hf
  have h12:=few12 hbw (by omega)
  by_cases hr:zbD m f=0
  ·by_cases hd:za7 .i64 (fun p q=>p&&&q) (uni zb9 (cL f):Int) 4=0
   ·obtain ⟨hk0,hf0,-,-⟩:=zjb hr
    have gm:=zz hk0
    have w1:=gm.w1
    have hnd:=zBX hf0 hd
    obtain ⟨s0,s1⟩:=zBx hr
    have hq:zbD (zap m (cq m)) f=0:=zBR hr (zA8 hk0 (zha m)) (by simp [zap]) (by simp [zap])
    obtain ⟨t0,t1⟩:=zBx hq
    have ct:=zBH (T:=T) (zap m (cq m)) f
    have cm:=ztq (T:=T) hT hX m h12
    rw [show zsD m=(zap m (cq m),ptL m.W.toNat (zI (cq m)),0) by rw [zsD,if_neg (by omega)]] at cm
    have hpt : ∀ w,w < m.W.toNat→(zps m (zl1 f) w↔zps (zap m (cq m)) (zl1 f) (zI (cq m) w)):=fun w hw=>zBS (by simp [zap]) (zBQ hk0 hw) hnd
    have hptW : ∀ w,w < m.W.toNat→zI (cq m) w < (zap m (cq m)).W.toNat:=fun w hw=>by rw [zwV];exact zcZ (zha m) hw
    have hst : ∀ w,w < m.W.toNat→(zfj m f).1.getLsbD w=(zfj (zap m (cq m)) f).1.getLsbD (zI (cq m) w):=fun w hw=>by
     rw [Bool.eq_iff_iff,s1,t1,hpt w hw]
     exact ⟨fun h=>⟨hptW w hw,h.2⟩,fun h=>⟨hw,h.2⟩⟩
    have hQ64:(zap m (cq m)).W.toNat≤64:=by have:=(zz (zA8 hk0 (zha m))).w2;omega
    have hll:(ptL m.W.toNat (zI (cq m))).length=m.W.toNat:=by simp [ptL]
    have hlx : ∀ (w:Nat) (x:Int),(ptL m.W.toNat (zI (cq m)))[w]? = some x→w < m.W.toNat∧x=(zI (cq m) w:Int):=fun w x h=>by
     have hw:w < m.W.toNat:=by have:=(List.getElem?_eq_some_iff.1 h).1;omega
     refine ⟨hw,?_⟩
     simp only [ptL,List.getElem?_map,List.getElem?_range hw,Option.map_some,Option.some.injEq] at h
     exact h.symm
    rw [s0] at ch
    rw [t0] at ct
    clear t1 hpt
    generalize (zfj (zap m (cq m)) f).1=t at *
    generalize zap m (cq m)=Q at *
    generalize ptL m.W.toNat (zI (cq m))=l at *
    generalize (zfj m f).1=s at *
    (repeat' ((conv=>whnf);first|refine vA ?_|refine vE ?_|refine vG ?_|refine vH ?_|((first|refine vD ?_ ?_|refine vF ?_ ?_)<;>intro hc<;>try simp only [vL] at hc)|refine vJ fun hg=>?_|refine vT ?_|refine vZ ?_|refine yD hf ⟨⟨rfl,rfl⟩,⟨rfl,rfl⟩,rfl⟩ rfl ?_|refine yN ch ⟨⟨rfl,rfl⟩,⟨rfl,rfl⟩,rfl⟩ ?_|refine yD cfr ⟨⟨rfl,rfl⟩,rfl⟩ rfl ?_|refine yN cm ⟨⟨rfl,rfl⟩,rfl⟩ ?_|refine yN ct ⟨⟨rfl,rfl⟩,⟨rfl,rfl⟩,rfl⟩ ?_|refine yD hA (by (repeat refine ⟨⟨rfl,rfl⟩,?_⟩);rfl) rfl ?_));all_goals try conv=>whnf
    ·exfalso;omega
    refine zM (fun (w:Nat)=>[(1,.d (dF f)),(2,.ptr 0 0),(5,.d (.u64 (s))),(8,.d (dI l)),(10,.d (.u64 (t))),(12,.d (.int .i64 ((w:Int))))]) (fun (w:Nat)=>[(0,some (zcJ m))]) 1 (fun (w:Nat)=>w≤m.W.toNat) (fun (w:Nat)=>m.W.toNat - w) (0) [(0,0)] [] (by omega) (by (refine ⟨rfl,rfl,rfl,?_,?_⟩;repeat' first|exact trivial|exact rfl|refine And.intro ?_ ?_|refine ⟨_,rfl,?_⟩|decide)) ?_
    rintro w hw
    by_cases hwl:w < m.W.toNat
    ·obtain ⟨q0,q1,⟨r,q2,q3,q4⟩,q5,q6,q7⟩:=zBP hk0 hwl
     have cp:=zBu (T:=T) hT hX m h12 (w:Int)
     have hp:zbD (zb3 m (w:Int)).1 f=0:=zBR hr q0 q6 q5
     obtain ⟨u0,u1⟩:=zBx hp
     have cu:=zBH (T:=T) (zb3 m (w:Int)).1 f
     have hsu:s.getLsbD w=(zfj (zb3 m (w:Int)).1 f).1.getLsbD r:=by
      rw [Bool.eq_iff_iff,s1,u1,zBS q5 q4 hnd]
      exact ⟨fun h=>⟨q3,h.2⟩,fun h=>⟨hwl,h.2⟩⟩
     have hP64:=(zz q0).w2
     rw [q1,q2] at cp
     rw [u0] at cu
     clear u1 hp q4 q1 q2
     generalize (zfj (zb3 m (w:Int)).1 f).1=z at *
     generalize (zb3 m (w:Int)).1=P at *
     have w2:=gm.w2
     have hN : ∀ k:Nat,k < 64→(BitVec.ofInt 64 (k:Int)).toNat=k:=fun k hk=>zi4 (k := .i64) (Nat.lt_of_lt_of_le hk (by decide))
     have hb:=hptW w hwl
     have hsw:=hst w hwl
     have hlw:=hlx w
     (repeat' ((conv=>whnf);first|refine vA ?_|refine vH ?_|((first|refine vD ?_ ?_|refine vF ?_ ?_)<;>intro hc<;>try simp only [vL] at hc)|refine vT ?_|refine vN ‹_› ?_|(refine vQ ?_ fun x hx=>?_;·omega)|(refine vO ?_ ?_;·omega)|refine vZ ?_|refine yN cp ⟨⟨rfl,rfl⟩,⟨rfl,rfl⟩,rfl⟩ ?_|refine yN cu ⟨⟨rfl,rfl⟩,⟨rfl,rfl⟩,rfl⟩ ?_));all_goals try conv=>whnf
     ·have:=(hlw _ hx).2;exfalso;omega
     ·have:=(hlw _ hx).2;exfalso;omega
     ·exfalso;omega
     ·refine absurd ?_ ‹_≠_›
      rw [(hlw _ hx).2,hN _ (by omega),hN _ (by omega)]
      exact zBV.2 hsw
     ·refine absurd ?_ ‹_≠_›
      rw [hN _ (by omega),hN _ (by omega)]
      exact zBV.2 hsu
     ·refine ⟨w+1,[(0,0)],[],?_,?_,by (refine ⟨rfl,rfl,rfl,?_,?_⟩;repeat' first|exact trivial|exact rfl|refine And.intro ?_ ?_|refine ⟨_,rfl,?_⟩|decide)⟩
      ·(omega)
      ·(omega)
     ·exfalso;omega
    ·obtain rfl:w=m.W.toNat:=by omega
     (repeat' ((conv=>whnf);first|refine vA ?_|(refine vF ?_ ?_<;>intro hc<;>try simp only [vL] at hc)|refine vT ?_|refine vZ ?_|refine yD hA (by (repeat refine ⟨⟨rfl,rfl⟩,?_⟩);rfl) rfl ?_));all_goals try conv=>whnf
     all_goals (exfalso;omega)
   ·(repeat' ((conv=>whnf);first|refine vA ?_|refine vE ?_|refine vG ?_|((first|refine vD ?_ ?_|refine vF ?_ ?_)<;>intro hc<;>try simp only [vL] at hc)|refine vJ fun hg=>?_|refine vT ?_|refine vZ ?_|refine yD hf ⟨⟨rfl,rfl⟩,⟨rfl,rfl⟩,rfl⟩ rfl ?_|refine yN ch ⟨⟨rfl,rfl⟩,⟨rfl,rfl⟩,rfl⟩ ?_|refine yD cfr ⟨⟨rfl,rfl⟩,rfl⟩ rfl ?_|refine yD hA (by (repeat refine ⟨⟨rfl,rfl⟩,?_⟩);rfl) rfl ?_));all_goals try conv=>whnf
    all_goals exact absurd ‹za7 _ _ _ _=0› hd
  ·rw [zvf hr] at ch
   dsimp only at ch
   (repeat' ((conv=>whnf);first|refine vA ?_|refine vE ?_|refine vG ?_|((first|refine vD ?_ ?_|refine vF ?_ ?_)<;>intro hc<;>try simp only [vL] at hc)|refine vJ fun hg=>?_|refine vT ?_|refine vZ ?_|refine yD hf ⟨⟨rfl,rfl⟩,⟨rfl,rfl⟩,rfl⟩ rfl ?_|refine yN ch ⟨⟨rfl,rfl⟩,⟨rfl,rfl⟩,rfl⟩ ?_|refine yD cfr ⟨⟨rfl,rfl⟩,rfl⟩ rfl ?_|refine yD hA (by (repeat refine ⟨⟨rfl,rfl⟩,?_⟩);rfl) rfl ?_));all_goals try conv=>whnf
   all_goals exact absurd ‹zbD m f=0› hr
end Go.Ab
namespace Go.Proofs.YtkmhdnlmghaooaaGreatDoor
open Go Go.Ab Go.RowKit Go.ChangeShapes Go.WideShapes
set_option maxRecDepth 100000
theorem quotientTruth_c9:(Rows.quotientTruthRow.inPlace==Tryz.pinned.checked.prog.inPlace 3)=true:=by kernel_rfl
theorem quotientTruth_c10:(Rows.quotientTruthRow.unfollowed==Tryz.pinned.checked.prog.unfollowed 3)=true:=by kernel_rfl
theorem quotientTruth_c11:(Rows.quotientTruthRow.recurses==Tryz.pinned.checked.prog.recurses 3)=true:=by kernel_rfl
theorem quotientTruth_c12:(Rows.quotientTruthRow.named==Tryz.pinned.checked.prog.varsNamed 3)=true:=by kernel_rfl
theorem quotientTruth_c25:Tryz.pinned.checked.prog.mayEnter=true:=by kernel_rfl
theorem quotientTruth_c26:(Rows.quotientTruthRow.lifted==Tryz.pinned.checked.prog.liftsFinal)=true:=by kernel_rfl
theorem quotientTruth_c27:(Tryz.pinned.checked.prog.make==some Rows.quotientTruthRow.make)=true:=by kernel_rfl
theorem quotientTruth_facts:joinedFacts Tryz.pinned.checked.prog 3 Tryz.f3 Rows.quotientTruthSpec Rows.quotientTruthRow=true:=(zB1 (zB1 (zB1 (zB1 (zB1 (zB1 (zB1 (zB1 (zB1 (zB1 (zB1 (zB1 (zB1 (zB1 (zB1 (zB1 (zB1 (zB1 (zB1 (zB1 (zB1 (zB1 (zB1 (zB1 (zB1 (zB1 (zB1 (zB1 (zB1 (zB1 (zB1 (by kernel_rfl) (by kernel_rfl)) (by kernel_rfl)) (by kernel_rfl)) (by kernel_rfl)) (by kernel_rfl)) (by kernel_rfl)) (by kernel_rfl)) (by kernel_rfl)) quotientTruth_c9) quotientTruth_c10) quotientTruth_c11) quotientTruth_c12) (by kernel_rfl)) (by kernel_rfl)) (by kernel_rfl)) (by kernel_rfl)) (by kernel_rfl)) (by kernel_rfl)) (by kernel_rfl)) (by kernel_rfl)) (by kernel_rfl)) (by kernel_rfl)) (by kernel_rfl)) (by kernel_rfl)) quotientTruth_c25) quotientTruth_c26) quotientTruth_c27) (by kernel_rfl)) (by kernel_rfl)) (by kernel_rfl)) (by kernel_rfl))
theorem quotientTruth_holds:Rows.QuotientTruthSaid :=
 OpenClaim.holds_of_wide 3 Tryz.f3 rfl rfl rfl rfl rfl rfl rfl ⟨rfl,rfl,rfl,rfl,rfl⟩ rfl rfl rfl rfl rfl (by kernel_rfl) Tryz.func3 quotientTruth_facts
  (of_decide_eq_true (by kernel_rfl)) (by unfold Func.isWrapper;rw [if_neg (of_decide_eq_false (by kernel_rfl))];exact ⟨rfl,rfl⟩)
  (fun os started H enc _=>zBz (C:=Tryz.checked) (s:=Rows.quotientTruthSpec) (laid:=laidL) knob started (by kernel_rfl) Tryz.func3 laidOut [25,26] Tryz.params3 rfl Tryz.underlying4 rfl (by kernel_rfl)
   (fun ds hds=>by match ds,hds with|[d1,d2],_=>rfl)
   (ChangeSpec.witness_shaped (enc:=enc) (C:=Tryz.checked) (os:=os) (X:=fun w _=>laidMetH Tryz.prog laidL w) false (World.doorLaid Tryz.prog 14 os)
    #[.agg #[.int .i64 0,.slice none 0 0,.slice none 0 0],.slice none 0 0] 8 rfl (World.shaped_of_RefB (by kernel_rfl) (by kernel_rfl)) (by kernel_rfl) (by kernel_rfl) (by kernel_rfl) (door_met os _))
   (fun W hL=>⟨TOf W,(zBZ hL).1,(zBZ hL).2,fun ds hds=>by
    obtain ⟨m1,r,rfl,hm1,k1⟩:=zBF hds
    obtain ⟨f2,r,rfl,k2⟩:=zBJ k1
    obtain rfl:=zB2 k2
    exact law_Truth (tz_of hL) (hex_of hL) m1 f2⟩))
theorem quotientTruth_card:Rows.QuotientTruthCardSaid :=
 Claim7.holds_tied_plain_at .later [] [.data,.data,.data] true (true, "86b97d0b0e390b30dd7ea571d7e291ffbe1eddf6a7df1e56dfb71c129d4366ea") false
  quotientTruth_holds (fun _ h=>by cases h) (by kernel_rfl) (fun _ h=>by cases h) quotientTruth_row_tie rfl ⟨rfl,rfl⟩ (by kernel_rfl) rfl
  (fun f fn hf hfn=>by
   obtain rfl:f=3:=Option.some.inj ((show Tryz.prog.funcNamed Rows.quotientTruthRow.func=some 3 by kernel_rfl).symm.trans hf) |>.symm
   obtain rfl:fn=Tryz.f3:=(Option.some.inj (Tryz.func3.symm.trans hfn)).symm
   exact ⟨by kernel_rfl,fun j t ht=>by
    rw [Tryz.params3] at ht
    have hm:t∈[25,26]:=by
     have:=List.mem_of_getElem? (l:=[25,26]) (i:=j) (by simpa using ht)
     exact this
    have hall:([25,26].all fun t=>Tryz.prog.wantsStandIn t==false)=true:=by kernel_rfl
    exact eq_of_beq (List.all_eq_true.1 hall t hm)⟩)
  (by kernel_rfl)
end Go.Proofs.YtkmhdnlmghaooaaGreatDoor
