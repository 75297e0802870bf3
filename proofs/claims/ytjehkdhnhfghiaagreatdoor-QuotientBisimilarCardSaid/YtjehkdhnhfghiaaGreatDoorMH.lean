/- What is proved here: the law QuotientBisimilar returns true at every input and leaves its arguments as they were. The condition is the row own: the listed table of math bits holds what the text lays. -/
import Derived.Test.YtjehkdhnhfghiaaGreatDoorMG
set_option linter.unusedVariables false
set_option linter.unusedSimpArgs false
set_option linter.unusedSectionVars false
namespace Go.Ab
open Go Go.Proofs
section
open K
def f_wittinglaw20_QuotientBisimilar:Nat:=5
def c_wittinglaw20_QuotientBisimilar:CFn:=⟨92,[.tmp 2],(q [(.reg [o 1 (.box 3 (t 0)),o 2 (.mv (c .bf))]),
 (q [(.reg [o 11 (la 3 1),o 12 (.call 13 [(t 11),(c (n 10))]),o 13 (.un .not (t 12)),o 14 (m 13),g 15 14 false (la 3 1),g 16 14 false (.call 14 [(t 15)]),g 17 14 false (bc .neq 16 (n 0)),o 18 (pt 14 17)]),
 (i 18 (q [(.reg [o 19 (.call 21 []),o 2 (m 19)]),
 .ret]) .skip)]),
 (.reg [o 21 (la 3 1),o 22 (.call 18 [(t 21)]),o 20 (m 22),o 23 (e 20 0),o 24 (e 20 1),o 25 (e 20 2),o 3 (.alloc [(n 0),(.nils 1),(.nils 1)]),w (.store 3 (t 3) (t 23)),o 4 (m 24),o 5 (m 25)]),
 (q [(.reg [o 26 (m 5),o 27 (bc .neq 26 (n 0)),o 28 (m 27),g 29 28 false (m 4),g 30 28 false (ln 29),g 31 28 false (f 0 1),g 32 28 false (l 31),g 33 28 false (b .neq 30 32),o 34 (pt 28 33),o 35 (m 34),g 36 35 false (la 3 3),g 37 35 false (.call 27 [(t 36)]),g 38 35 false (.un .not (t 37)),o 39 (pt 35 38)]),
 (i 39 (q [(.reg [o 2 (.mv (c .bf))]),
 .ret]) .skip)]),
 (.reg [o 6 (.mv (c (.nils 1)))]),
 (q [(.reg [o 7 (.mv (c (n 0)))]),
 (.block 0 (.loop (q [(q [(.reg [o 40 (m 7),o 41 (m 4),o 42 (ln 41),o 43 (b .lss 40 42)]),
 (i 43 .skip (.exit 0))]),
 (.block 1 (q [(q [(.regd [o 46 (m 4),o 47 (m 7),o 48 (ia 1 46 47),o 49 (l 48),o 50 (bc .lss 49 (n 0)),o 51 (m 50),g 52 51 false (m 4),g 53 51 false (m 7),g 54 51 false (ia 1 52 53),g 55 51 false (l 54),g 56 51 false (f 0 3),g 57 51 false (l 56),g 58 51 false (b .geq 55 57),o 59 (pt 51 58)] [0,0,3,7,15,31,63,63,255,511,63,1087,4095,8191]),
 (i 59 (q [(.reg [o 2 (.mv (c .bf))]),
 .ret]) .skip)]),
 (.reg [o 60 (m 6),o 61 (m 4),o 62 (m 7),o 63 (ia 1 61 62),o 64 (l 63),o 65 (.conv .u64 (t 64)),o 66 (.bin .shl (c (u 1)) (t 65)),o 67 (.bslice 1 1 [(u 0)] [(0,(t 66))]),o 68 (.app 1 8 (t 60) (t 67)),o 6 (m 68)])])),
 (.reg [o 44 (m 7),o 45 (bc .add 44 (n 1)),o 7 (m 45)])])))]),
 (.reg [o 70 (la 3 3),o 71 (.call 18 [(t 70)]),o 69 (m 71),o 72 (e 69 0),o 73 (e 69 1),o 74 (e 69 2),o 8 (.alloc [(n 0),(.nils 1),(.nils 1)]),w (.store 3 (t 8) (t 72)),o 9 (m 73),o 10 (m 74)]),
 (.reg [o 75 (la 3 1),o 76 (la 3 3),o 77 (m 6),o 78 (.call 28 [(t 75),(t 76),(t 77)]),o 79 (bc .eql 78 (n 0)),o 80 (m 79),g 81 80 true (m 10),g 82 80 true (bc .eql 81 (n 0)),o 83 (pf 80 82),o 84 (m 83),g 85 84 true (la 3 3),g 86 84 true (la 3 8),g 87 84 true (.call 24 [(t 85),(t 86)]),o 88 (pf 84 87),o 89 (m 88),g 90 89 true (.call 21 []),o 91 (pf 89 90),o 2 (m 91)]),
 .ret])⟩
end
theorem k_wittinglaw20_QuotientBisimilar:zi Tryz.prog f_wittinglaw20_QuotientBisimilar=some c_wittinglaw20_QuotientBisimilar:=by kernel_rfl
end Go.Ab
namespace Go.Ab
open Go Go.Proofs
set_option maxRecDepth 10000
set_option maxHeartbeats 4000000
variable {T:Nat→Obj→Prop}
theorem few12 {m:KM} {n:Int} (h:zsd m n=true) (hn:n≤12):za m=0→m.W≤12:=fun h0=>by
 have:=of_decide_eq_true h
 have w2:=(zk h0).w2
 omega
end Go.Ab
namespace Go.Ab
open Go Go.Proofs
set_option maxRecDepth 10000
set_option maxHeartbeats 4000000
variable {T:Nat→Obj→Prop}
def pairQ (m:KM) (k:Nat):List (BitVec 64):=(List.range k).map fun v=>1#64 <<< zJ (cq m) v
theorem pairQ_bit {m:KM} (hm:za m=0) {v w:Nat} (hv:v < m.W.toNat):((pairQ m m.W.toNat).getD v 0#64).getLsbD w=true↔w=zJ (cq m) v:=by
 have g:=zk hm
 have w2:=g.w2
 have h1:=zcq (zcR m) hv
 have h2:=zcp m.W.toNat (cq m)
 have e:(pairQ m m.W.toNat).getD v 0#64=1#64 <<< zJ (cq m) v:=by simp [pairQ,List.getD,hv]
 rw [e,BitVec.getLsbD_shiftLeft]
 simp only [Bool.and_eq_true,Bool.not_eq_true',decide_eq_true_eq,decide_eq_false_iff_not,BitVec.getLsbD_one]
 omega
theorem law_Bisimilar (hT:za0 T) (hX:zfv T) (m:KM):Fn Tryz.prog T f_wittinglaw20_QuotientBisimilar [.d (dKM m)] [] (.d (.bool true)) []:=by
 have hA:=zBr hT hX
 have hf:=zBP (T:=T) m 10
 have ck:=zau (T:=T) m
 refine zg zx k_wittinglaw20_QuotientBisimilar (by show 1≤92;decide) ?_
 cases hbw:zsd m 10 with
 | false =>
  rw [hbw] at hf
  (repeat' ((conv=>whnf);first|refine vA ?_|refine vE ?_|refine vH ?_|refine vT ?_|refine vZ ?_|refine yD hf ⟨⟨rfl,rfl⟩,⟨rfl,rfl⟩,rfl⟩ rfl ?_|refine yD hA (by (repeat refine ⟨⟨rfl,rfl⟩,?_⟩);rfl) rfl ?_));all_goals try conv=>whnf
 | true =>
  rw [hbw] at hf
  have h12:=few12 hbw (by omega)
  by_cases hk0:za m=0
  ·have g:=zk hk0
   have w1:=g.w1
   have w2:=g.w2
   have hq:=zcR m
   have hkQ:=zl0 hk0 hq
   have gQ:=zk hkQ
   have q1:=gQ.w1
   have q2:=gQ.w2
   have hle:=zcp m.W.toNat (cq m)
   have hQW:=zjy m (cq m)
   have h12Q:za (zU m (cq m))=0→(zU m (cq m)).W≤12:=fun _=>by have:=h12 hk0;omega
   have cm1:=ztJ (T:=T) hT hX m h12
   rw [show zn5 m=(zU m (cq m),ptL m.W.toNat (zJ (cq m)),0) by rw [zn5,if_neg (by omega)]] at cm1
   have cm2:=ztJ (T:=T) hT hX (zU m (cq m)) h12Q
   rw [(zBF hk0).1] at cm2
   have cmi:=zBq (T:=T) hT hX (zU m (cq m)) h12Q
   rw [(zBF hk0).2] at cmi
   have cch:=zBE (T:=T) hT hk0 hkQ (by simp [zU]) (by simp [zU]) (p:=pairQ m m.W.toNat) (by simp [pairQ]) (fun s hs i hi=>by
    obtain ⟨v,hv,rfl⟩:=List.mem_map.1 hs
    have hv:=List.mem_range.1 hv
    have:=(pairQ_bit hk0 (w:=i) hv).1 (by simpa [pairQ,List.getD,hv] using hi)
    rw [this,hQW]
    exact zcq hq hv) (fun v w hv hw=>zBx g gQ (zAj hk0) (fun a b h=>(pairQ_bit hk0 h.1).2 h.2) ⟨hv,(pairQ_bit hk0 hv).1 hw⟩)
   have hnl : ∀ {v:Nat},v < m.W.toNat→zJ (cq m) v < (zU m (cq m)).W.toNat:=fun h=>by rw [hQW];exact zcq hq h
   generalize hQ:zU m (cq m)=Q at *
   generalize hI:ptL Q.W.toNat (zJ (cq Q))=I at *
   have hpl:=zbx (n:=m.W.toNat) (q:=zJ (cq m))
   have hll:((ptL m.W.toNat (zJ (cq m))).map (D.int .i64)).length=m.W.toNat:=by rw [List.length_map,hpl]
   (repeat' ((conv=>whnf);first|refine vA ?_|refine vE ?_|refine vG ?_|refine vH ?_|(refine vD ?_ ?_<;>intro hc<;>try simp only [vL] at hc)|refine vJ fun hg=>?_|refine vT ?_|refine vZ ?_|refine yD hf ⟨⟨rfl,rfl⟩,⟨rfl,rfl⟩,rfl⟩ rfl ?_|refine yD ck ⟨⟨rfl,rfl⟩,rfl⟩ rfl ?_|refine yN cm1 ⟨⟨rfl,rfl⟩,rfl⟩ ?_|refine yD cmi ⟨⟨rfl,rfl⟩,rfl⟩ rfl ?_|refine yD hA (by (repeat refine ⟨⟨rfl,rfl⟩,?_⟩);rfl) rfl ?_));all_goals try conv=>whnf
   ·exfalso;omega
   ·refine zq (fun ((k,zs):Nat×List D)=>[(1,.ptr 0 0),(3,.ptr 1 0),(4,.d (dI (ptL m.W.toNat (zJ (cq m))))),(6,.own 2),(7,.d (.int .i64 ((k:Int))))]) (fun ((k,zs):Nat×List D)=>[(0,some (zar m)),(1,some (zar Q)),(2,some (.row 1 zs))]) 3 (fun ((k,zs):Nat×List D)=>k≤m.W.toNat∧zs=(pairQ m k).map D.u64) (fun ((k,zs):Nat×List D)=>m.W.toNat - k) ((0,[])) [(0,0),(1,1)]   [2] (⟨by omega,rfl⟩) (by (refine ⟨rfl,rfl,rfl,?_,?_⟩;repeat' first|exact trivial|exact rfl|exact ⟨_,rfl⟩|refine And.intro ?_ ?_|refine ⟨_,rfl,?_⟩|decide)) ?_
    rintro ⟨k,zs⟩ ⟨hk,hz⟩
    have hzl:zs.length=k:=by rw [hz];simp [pairQ]
    by_cases hkl:k < m.W.toNat
    ·have hn1:=hnl hkl
     have hat:=za3 (q:=zJ (cq m)) hkl
     (repeat' ((conv=>whnf);first|refine vA ?_|refine vH ?_|(refine vF ?_ ?_<;>intro hc<;>try simp only [vL] at hc)|refine vJ fun hg=>?_|refine vT ?_|refine vN ‹_› ?_|((first|refine vO ?_ ?_|refine vP ?_ ?_);·first|omega|(simp only [vM] at *;omega))|(refine vU ?_ ?_;·kernel_rfl)|refine vZ ?_));all_goals try conv=>whnf
     ·exfalso;omega
     ·refine ⟨(k+1,_),[(0,0),(1,1),(2,4)],[],?_,?_,by (refine ⟨rfl,rfl,rfl,?_,?_⟩;repeat' first|exact trivial|exact rfl|refine And.intro ?_ ?_|refine ⟨_,rfl,?_⟩|decide)⟩
      ·refine ⟨by (omega),?_⟩
       have e:pairQ m (k+1)=pairQ m k++[1#64 <<< zJ (cq m) k]:=by unfold pairQ;rw [List.range_succ,List.map_append];rfl
       rw [e,List.map_append,hz,show (BitVec.ofInt 64 ((zJ (cq m) k:Nat):Int)).toNat=zJ (cq m) k by rw [BitVec.toNat_ofInt,Int.emod_eq_of_lt (by omega) (by omega)];rfl]
       rfl
      ·((simp only [vM] at *;omega))
     ·exfalso;omega
    ·obtain rfl:k=m.W.toNat:=by omega
     subst hz
     (repeat' ((conv=>whnf);first|refine vA ?_|refine vG ?_|(refine vF ?_ ?_<;>intro hc<;>try simp only [vL] at hc)|refine vJ fun hg=>?_|refine vT ?_|refine vN ‹_› ?_|(refine vQ ?_ fun x hx=>?_;·omega)|((first|refine vO ?_ ?_|refine vP ?_ ?_);·omega)|(refine vU ?_ ?_;·kernel_rfl)|refine vZ ?_|refine yN cm2 ⟨⟨rfl,rfl⟩,rfl⟩ ?_|refine yD cch ⟨⟨rfl,rfl⟩,⟨rfl,rfl⟩,⟨rfl,rfl⟩,rfl⟩ rfl ?_|refine yD (zBs _ _) ⟨⟨rfl,rfl⟩,⟨rfl,rfl⟩,rfl⟩ rfl ?_|refine yD hA (by (repeat refine ⟨⟨rfl,rfl⟩,?_⟩);rfl) rfl ?_));all_goals try conv=>whnf
     all_goals first|(exfalso;omega)|exact absurd trivial ‹¬True›|skip
  ·(repeat' ((conv=>whnf);first|refine vA ?_|refine vE ?_|refine vG ?_|(refine vD ?_ ?_<;>intro hc)|refine vT ?_|refine vZ ?_|refine yD hf ⟨⟨rfl,rfl⟩,⟨rfl,rfl⟩,rfl⟩ rfl ?_|refine yD ck ⟨⟨rfl,rfl⟩,rfl⟩ rfl ?_|refine yD hA (by (repeat refine ⟨⟨rfl,rfl⟩,?_⟩);rfl) rfl ?_));all_goals try conv=>whnf
   all_goals exact absurd ‹za m=0› hk0
end Go.Ab
namespace Go.Proofs.YtjehkdhnhfghiaaGreatDoor
open Go Go.Ab Go.RowKit Go.ChangeShapes Go.WideShapes
set_option maxRecDepth 100000
theorem quotientBisimilar_c9:(Rows.quotientBisimilarRow.inPlace==Tryz.pinned.checked.prog.inPlace 5)=true:=by kernel_rfl
theorem quotientBisimilar_c10:(Rows.quotientBisimilarRow.unfollowed==Tryz.pinned.checked.prog.unfollowed 5)=true:=by kernel_rfl
theorem quotientBisimilar_c11:(Rows.quotientBisimilarRow.recurses==Tryz.pinned.checked.prog.recurses 5)=true:=by kernel_rfl
theorem quotientBisimilar_c12:(Rows.quotientBisimilarRow.named==Tryz.pinned.checked.prog.varsNamed 5)=true:=by kernel_rfl
theorem quotientBisimilar_c25:Tryz.pinned.checked.prog.mayEnter=true:=by kernel_rfl
theorem quotientBisimilar_c26:(Rows.quotientBisimilarRow.lifted==Tryz.pinned.checked.prog.liftsFinal)=true:=by kernel_rfl
theorem quotientBisimilar_c27:(Tryz.pinned.checked.prog.make==some Rows.quotientBisimilarRow.make)=true:=by kernel_rfl
theorem quotientBisimilar_facts:joinedFacts Tryz.pinned.checked.prog 5 Tryz.f5 Rows.quotientBisimilarSpec Rows.quotientBisimilarRow=true:=(zBW (zBW (zBW (zBW (zBW (zBW (zBW (zBW (zBW (zBW (zBW (zBW (zBW (zBW (zBW (zBW (zBW (zBW (zBW (zBW (zBW (zBW (zBW (zBW (zBW (zBW (zBW (zBW (zBW (zBW (zBW (by kernel_rfl) (by kernel_rfl)) (by kernel_rfl)) (by kernel_rfl)) (by kernel_rfl)) (by kernel_rfl)) (by kernel_rfl)) (by kernel_rfl)) (by kernel_rfl)) quotientBisimilar_c9) quotientBisimilar_c10) quotientBisimilar_c11) quotientBisimilar_c12) (by kernel_rfl)) (by kernel_rfl)) (by kernel_rfl)) (by kernel_rfl)) (by kernel_rfl)) (by kernel_rfl)) (by kernel_rfl)) (by kernel_rfl)) (by kernel_rfl)) (by kernel_rfl)) (by kernel_rfl)) (by kernel_rfl)) quotientBisimilar_c25) quotientBisimilar_c26) quotientBisimilar_c27) (by kernel_rfl)) (by kernel_rfl)) (by kernel_rfl)) (by kernel_rfl))
theorem quotientBisimilar_holds:Rows.QuotientBisimilarSaid :=
 OpenClaim.holds_of_wide 5 Tryz.f5 rfl rfl rfl rfl rfl rfl rfl ⟨rfl,rfl,rfl,rfl,rfl⟩ rfl rfl rfl rfl rfl (by kernel_rfl) Tryz.func5 quotientBisimilar_facts
  (of_decide_eq_true (by kernel_rfl)) (by unfold Func.isWrapper;rw [if_neg (of_decide_eq_false (by kernel_rfl))];exact ⟨rfl,rfl⟩)
  (fun os started H enc _=>zBv (C:=Tryz.checked) (s:=Rows.quotientBisimilarSpec) (laid:=laidL) knob started (by kernel_rfl) Tryz.func5 laidOut [25] Tryz.params5 rfl Tryz.underlying4 rfl (by kernel_rfl)
   (fun ds hds=>by match ds,hds with|[d1],_=>rfl)
   (ChangeSpec.witness_shaped (enc:=enc) (C:=Tryz.checked) (os:=os) (X:=fun w _=>laidMetH Tryz.prog laidL w) false (World.doorLaid Tryz.prog 14 os)
    #[.agg #[.int .i64 0,.slice none 0 0,.slice none 0 0]] 8 rfl (World.shaped_of_RefB (by kernel_rfl) (by kernel_rfl)) (by kernel_rfl) (by kernel_rfl) (by kernel_rfl) (door_met os _))
   (fun W hL=>⟨TOf W,(zBU hL).1,(zBU hL).2,fun ds hds=>by
    obtain ⟨m1,r,rfl,hm1,k1⟩:=zBC hds
    obtain rfl:=zBX k1
    exact law_Bisimilar (tz_of hL) (hex_of hL) m1⟩))
theorem quotientBisimilar_card:Rows.QuotientBisimilarCardSaid :=
 Claim7.holds_tied_plain_at .later [] [.data,.data,.data] true (true, "8d566f0265d904fd78765531ba56d84e46aac9efdae886bb35f471103bd136f7") false
  quotientBisimilar_holds (fun _ h=>by cases h) (by kernel_rfl) (fun _ h=>by cases h) quotientBisimilar_row_tie rfl ⟨rfl,rfl⟩ (by kernel_rfl) rfl
  (fun f fn hf hfn=>by
   obtain rfl:f=5:=Option.some.inj ((show Tryz.prog.funcNamed Rows.quotientBisimilarRow.func=some 5 by kernel_rfl).symm.trans hf) |>.symm
   obtain rfl:fn=Tryz.f5:=(Option.some.inj (Tryz.func5.symm.trans hfn)).symm
   exact ⟨by kernel_rfl,fun j t ht=>by
    rw [Tryz.params5] at ht
    have hm:t∈[25]:=by
     have:=List.mem_of_getElem? (l:=[25]) (i:=j) (by simpa using ht)
     exact this
    have hall:([25].all fun t=>Tryz.prog.wantsStandIn t==false)=true:=by kernel_rfl
    exact eq_of_beq (List.all_eq_true.1 hall t hm)⟩)
  (by kernel_rfl)
end Go.Proofs.YtjehkdhnhfghiaaGreatDoor
