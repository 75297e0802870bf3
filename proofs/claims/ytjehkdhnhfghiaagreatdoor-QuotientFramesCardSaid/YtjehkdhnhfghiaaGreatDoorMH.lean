/- What is proved here: the law QuotientFrames returns true at every input and leaves its arguments as they were. The condition is the row own: the listed table of math bits holds what the text lays. -/
import Derived.Test.YtjehkdhnhfghiaaGreatDoorMG
set_option linter.unusedVariables false
set_option linter.unusedSimpArgs false
set_option linter.unusedSectionVars false
namespace Go.Ab
open Go Go.Proofs
section
open K
def f_wittinglaw20_QuotientFrames:Nat:=6
def c_wittinglaw20_QuotientFrames:CFn:=⟨56,[.tmp 4],(q [(.reg [o 2 (.box 3 (t 0)),o 4 (.mv (c .bf))]),
 (q [(.reg [o 8 (la 3 2),o 9 (.call 13 [(t 8),(c (n 10))]),o 10 (.un .not (t 9)),o 11 (m 10),g 12 11 false (la 3 2),g 13 11 false (.call 14 [(t 12)]),g 14 11 false (bc .neq 13 (n 0)),o 15 (pt 11 14),o 16 (m 15),g 17 16 false (m 1),g 18 16 false (bc .neq 17 (n 2)),g 19 16 false (m 18),g 20 19 true (m 1),g 21 19 true (bc .neq 20 (n 1)),g 22 16 false (pf 19 21),g 23 16 false (m 22),g 24 23 true (m 1),g 25 23 true (bc .neq 24 (n 6)),g 26 16 false (pf 23 25),o 27 (pt 16 26)]),
 (i 27 (q [(.reg [o 28 (.call 21 []),o 4 (m 28)]),
 .ret]) .skip)]),
 (.reg [o 30 (la 3 2),o 31 (.call 18 [(t 30)]),o 29 (m 31),o 32 (e 29 0),o 33 (e 29 1),o 34 (e 29 2),o 5 (.alloc [(n 0),(.nils 1),(.nils 1)]),w (.store 3 (t 5) (t 32)),o 6 (m 33),o 7 (m 34)]),
 (q [(.reg [o 35 (m 7),o 36 (bc .neq 35 (n 0)),o 37 (m 36),g 38 37 false (f 0 5),g 39 37 false (l 38),g 40 37 false (f 0 2),g 41 37 false (l 40),g 42 37 false (b .gtr 39 41),o 43 (pt 37 42)]),
 (i 43 (q [(.reg [o 4 (.mv (c .bf))]),
 .ret]) .skip)]),
 (.reg [o 44 (la 3 2),o 45 (m 1),o 46 (.call 29 [(t 44),(t 45)]),o 47 (.un .not (t 46)),o 48 (m 47),g 49 48 false (la 3 5),g 50 48 false (m 1),g 51 48 false (.call 29 [(t 49),(t 50)]),o 52 (pt 48 51),o 53 (m 52),g 54 53 true (.call 21 []),o 55 (pf 53 54),o 4 (m 55)]),
 .ret])⟩
end
theorem k_wittinglaw20_QuotientFrames:zi Tryz.prog f_wittinglaw20_QuotientFrames=some c_wittinglaw20_QuotientFrames:=by kernel_rfl
end Go.Ab
namespace Go.Ab
open Go Go.Proofs
set_option maxRecDepth 10000
set_option maxHeartbeats 4000000
variable {T:Nat→Obj→Prop}
theorem few12 {m:KM} {n:Int} (h:zsd m n=true) (hn:n≤12):za m=0→m.W≤12:=fun h0=>by
 have:=of_decide_eq_true h
 have w2:=(zk h0).w2
 omega
end Go.Ab
namespace Go.Ab
open Go Go.Proofs
set_option maxRecDepth 10000
set_option maxHeartbeats 4000000
variable {T:Nat→Obj→Prop}
theorem law_Frames (hT:za0 T) (hX:zfv T) (m:KM) (k:Int):Fn Tryz.prog T f_wittinglaw20_QuotientFrames [.d (dKM m),.d (.int .i64 k)] [] (.d (.bool true)) []:=by
 have hA:=zBr hT hX
 have hf:=zBP (T:=T) m 10
 have ck:=zau (T:=T) m
 refine zg zx k_wittinglaw20_QuotientFrames (by show 2≤56;decide) ?_
 cases hbw:zsd m 10 with
 | false =>
  rw [hbw] at hf
  (repeat' ((conv=>whnf);first|refine vA ?_|refine vE ?_|refine vH ?_|refine vT ?_|refine vZ ?_|refine yD hf ⟨⟨rfl,rfl⟩,⟨rfl,rfl⟩,rfl⟩ rfl ?_|refine yD hA (by (repeat refine ⟨⟨rfl,rfl⟩,?_⟩);rfl) rfl ?_));all_goals try conv=>whnf
 | true =>
  rw [hbw] at hf
  have h12:=few12 hbw (by omega)
  by_cases hk0:za m=0
  ·by_cases hk:k=2∨k=1∨k=6
   ·have hle:=zcp m.W.toNat (cq m)
    have hQW:=zjy m (cq m)
    have w1:=(zk hk0).w1
    have q1:=(zk (zl0 hk0 (zcR m))).w1
    have cm1:=ztJ (T:=T) hT hX m h12
    rw [show zn5 m=(zU m (cq m),ptL m.W.toNat (zJ (cq m)),0) by rw [zn5,if_neg (by omega)]] at cm1
    have ci1:=zBS (T:=T) hT m hk
    have ci2:=zBS (T:=T) hT (zU m (cq m)) hk
    cases hi:fIn m k with
    | false =>
     rw [hi] at ci1
     clear ci2
     generalize zU m (cq m)=Q at *
     (repeat' ((conv=>whnf);first|refine vA ?_|refine vE ?_|refine vG ?_|refine vH ?_|((first|refine vD ?_ ?_|refine vF ?_ ?_)<;>intro hc<;>try simp only [vL] at hc)|refine vT ?_|refine vZ ?_|refine yD hf ⟨⟨rfl,rfl⟩,⟨rfl,rfl⟩,rfl⟩ rfl ?_|refine yD ck ⟨⟨rfl,rfl⟩,rfl⟩ rfl ?_|refine yN cm1 ⟨⟨rfl,rfl⟩,rfl⟩ ?_|refine yD ci1 ⟨⟨rfl,rfl⟩,⟨rfl,rfl⟩,rfl⟩ rfl ?_|refine yD hA (by (repeat refine ⟨⟨rfl,rfl⟩,?_⟩);rfl) rfl ?_));all_goals try conv=>whnf
     all_goals first|(exfalso;omega)|skip
    | true =>
     rw [hi] at ci1
     rw [zBO hk0 hk hi] at ci2
     generalize zU m (cq m)=Q at *
     (repeat' ((conv=>whnf);first|refine vA ?_|refine vE ?_|refine vG ?_|refine vH ?_|((first|refine vD ?_ ?_|refine vF ?_ ?_)<;>intro hc<;>try simp only [vL] at hc)|refine vT ?_|refine vZ ?_|refine yD hf ⟨⟨rfl,rfl⟩,⟨rfl,rfl⟩,rfl⟩ rfl ?_|refine yD ck ⟨⟨rfl,rfl⟩,rfl⟩ rfl ?_|refine yN cm1 ⟨⟨rfl,rfl⟩,rfl⟩ ?_|refine yD ci1 ⟨⟨rfl,rfl⟩,⟨rfl,rfl⟩,rfl⟩ rfl ?_|refine yD ci2 ⟨⟨rfl,rfl⟩,⟨rfl,rfl⟩,rfl⟩ rfl ?_|refine yD hA (by (repeat refine ⟨⟨rfl,rfl⟩,?_⟩);rfl) rfl ?_));all_goals try conv=>whnf
     all_goals first|(exfalso;omega)|skip
   ·(repeat' ((conv=>whnf);first|refine vA ?_|refine vE ?_|refine vG ?_|(refine vD ?_ ?_<;>intro hc)|refine vT ?_|refine vZ ?_|refine yD hf ⟨⟨rfl,rfl⟩,⟨rfl,rfl⟩,rfl⟩ rfl ?_|refine yD ck ⟨⟨rfl,rfl⟩,rfl⟩ rfl ?_|refine yD hA (by (repeat refine ⟨⟨rfl,rfl⟩,?_⟩);rfl) rfl ?_));all_goals try conv=>whnf
    all_goals (exfalso;omega)
  ·(repeat' ((conv=>whnf);first|refine vA ?_|refine vE ?_|refine vG ?_|(refine vD ?_ ?_<;>intro hc)|refine vT ?_|refine vZ ?_|refine yD hf ⟨⟨rfl,rfl⟩,⟨rfl,rfl⟩,rfl⟩ rfl ?_|refine yD ck ⟨⟨rfl,rfl⟩,rfl⟩ rfl ?_|refine yD hA (by (repeat refine ⟨⟨rfl,rfl⟩,?_⟩);rfl) rfl ?_));all_goals try conv=>whnf
   all_goals exact absurd ‹za m=0› hk0
end Go.Ab
namespace Go.Proofs.YtjehkdhnhfghiaaGreatDoor
open Go Go.Ab Go.RowKit Go.ChangeShapes Go.WideShapes
set_option maxRecDepth 100000
theorem quotientFrames_c9:(Rows.quotientFramesRow.inPlace==Tryz.pinned.checked.prog.inPlace 6)=true:=by kernel_rfl
theorem quotientFrames_c10:(Rows.quotientFramesRow.unfollowed==Tryz.pinned.checked.prog.unfollowed 6)=true:=by kernel_rfl
theorem quotientFrames_c11:(Rows.quotientFramesRow.recurses==Tryz.pinned.checked.prog.recurses 6)=true:=by kernel_rfl
theorem quotientFrames_c12:(Rows.quotientFramesRow.named==Tryz.pinned.checked.prog.varsNamed 6)=true:=by kernel_rfl
theorem quotientFrames_c25:Tryz.pinned.checked.prog.mayEnter=true:=by kernel_rfl
theorem quotientFrames_c26:(Rows.quotientFramesRow.lifted==Tryz.pinned.checked.prog.liftsFinal)=true:=by kernel_rfl
theorem quotientFrames_c27:(Tryz.pinned.checked.prog.make==some Rows.quotientFramesRow.make)=true:=by kernel_rfl
theorem quotientFrames_facts:joinedFacts Tryz.pinned.checked.prog 6 Tryz.f6 Rows.quotientFramesSpec Rows.quotientFramesRow=true:=(zBW (zBW (zBW (zBW (zBW (zBW (zBW (zBW (zBW (zBW (zBW (zBW (zBW (zBW (zBW (zBW (zBW (zBW (zBW (zBW (zBW (zBW (zBW (zBW (zBW (zBW (zBW (zBW (zBW (zBW (zBW (by kernel_rfl) (by kernel_rfl)) (by kernel_rfl)) (by kernel_rfl)) (by kernel_rfl)) (by kernel_rfl)) (by kernel_rfl)) (by kernel_rfl)) (by kernel_rfl)) quotientFrames_c9) quotientFrames_c10) quotientFrames_c11) quotientFrames_c12) (by kernel_rfl)) (by kernel_rfl)) (by kernel_rfl)) (by kernel_rfl)) (by kernel_rfl)) (by kernel_rfl)) (by kernel_rfl)) (by kernel_rfl)) (by kernel_rfl)) (by kernel_rfl)) (by kernel_rfl)) (by kernel_rfl)) quotientFrames_c25) quotientFrames_c26) quotientFrames_c27) (by kernel_rfl)) (by kernel_rfl)) (by kernel_rfl)) (by kernel_rfl))
theorem quotientFrames_holds:Rows.QuotientFramesSaid :=
 OpenClaim.holds_of_wide 6 Tryz.f6 rfl rfl rfl rfl rfl rfl rfl ⟨rfl,rfl,rfl,rfl,rfl⟩ rfl rfl rfl rfl rfl (by kernel_rfl) Tryz.func6 quotientFrames_facts
  (of_decide_eq_true (by kernel_rfl)) (by unfold Func.isWrapper;rw [if_neg (of_decide_eq_false (by kernel_rfl))];exact ⟨rfl,rfl⟩)
  (fun os started H enc _=>zBv (C:=Tryz.checked) (s:=Rows.quotientFramesSpec) (laid:=laidL) knob started (by kernel_rfl) Tryz.func6 laidOut [25,3] Tryz.params6 rfl Tryz.underlying4 rfl (by kernel_rfl)
   (fun ds hds=>by match ds,hds with|[d1,d2],_=>rfl)
   (ChangeSpec.witness_shaped (enc:=enc) (C:=Tryz.checked) (os:=os) (X:=fun w _=>laidMetH Tryz.prog laidL w) false (World.doorLaid Tryz.prog 14 os)
    #[.agg #[.int .i64 0,.slice none 0 0,.slice none 0 0],.int .i64 0] 8 rfl (World.shaped_of_RefB (by kernel_rfl) (by kernel_rfl)) (by kernel_rfl) (by kernel_rfl) (by kernel_rfl) (door_met os _))
   (fun W hL=>⟨TOf W,(zBU hL).1,(zBU hL).2,fun ds hds=>by
    obtain ⟨m1,r,rfl,hm1,k1⟩:=zBC hds
    obtain ⟨a2,r,rfl,ha2,k2⟩:=zBN k1
    obtain rfl:=zBX k2
    exact law_Frames (tz_of hL) (hex_of hL) m1 a2⟩))
theorem quotientFrames_card:Rows.QuotientFramesCardSaid :=
 Claim7.holds_tied_plain_at .later [] [.data,.data,.data] true (true, "8d566f0265d904fd78765531ba56d84e46aac9efdae886bb35f471103bd136f7") false
  quotientFrames_holds (fun _ h=>by cases h) (by kernel_rfl) (fun _ h=>by cases h) quotientFrames_row_tie rfl ⟨rfl,rfl⟩ (by kernel_rfl) rfl
  (fun f fn hf hfn=>by
   obtain rfl:f=6:=Option.some.inj ((show Tryz.prog.funcNamed Rows.quotientFramesRow.func=some 6 by kernel_rfl).symm.trans hf) |>.symm
   obtain rfl:fn=Tryz.f6:=(Option.some.inj (Tryz.func6.symm.trans hfn)).symm
   exact ⟨by kernel_rfl,fun j t ht=>by
    rw [Tryz.params6] at ht
    have hm:t∈[25,3]:=by
     have:=List.mem_of_getElem? (l:=[25,3]) (i:=j) (by simpa using ht)
     exact this
    have hall:([25,3].all fun t=>Tryz.prog.wantsStandIn t==false)=true:=by kernel_rfl
    exact eq_of_beq (List.all_eq_true.1 hall t hm)⟩)
  (by kernel_rfl)
end Go.Proofs.YtjehkdhnhfghiaaGreatDoor
