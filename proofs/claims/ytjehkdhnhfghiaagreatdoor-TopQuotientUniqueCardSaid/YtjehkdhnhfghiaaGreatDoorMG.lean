/- What is proved here: the law TopQuotientUnique returns true at every input and leaves its arguments as they were. The condition is the row own: the listed table of math bits holds what the text lays. -/
import Derived.Test.YtjehkdhnhfghiaaGreatDoorMF
set_option linter.unusedVariables false
set_option linter.unusedSimpArgs false
set_option linter.unusedSectionVars false
namespace Go.Ab
open Go Go.Proofs
section
open K
def f_wittingtop_TopQuotientUnique:Nat:=3
def c_wittingtop_TopQuotientUnique:CFn:=⟨132,[.tmp 4],(q [(.reg [o 2 (.box 3 (t 0)),o 4 (.mv (c .bf))]),
 (q [(.reg [o 22 (la 3 2),o 23 (.call 13 [(t 22),(c (n 6))]),o 24 (.un .not (t 23)),o 25 (m 24),g 26 25 false (la 3 2),g 27 25 false (.call 14 [(t 26)]),g 28 25 false (bc .neq 27 (n 0)),o 29 (pt 25 28),o 30 (m 29),g 31 30 false (m 1),g 32 30 false (ln 31),g 33 30 false (bc .gtr 32 (n 64)),o 34 (pt 30 33)]),
 (i 34 (q [(.reg [o 35 (.call 15 []),o 4 (m 35)]),
 .ret]) .skip)]),
 (.reg [o 37 (la 3 2),o 38 (m 1),o 39 (.call 16 [(t 37),(t 38)]),o 36 (m 39),o 40 (e 36 0),o 41 (e 36 1),o 5 (.alloc [(n 0),(.nils 1),(.nils 1)]),w (.store 3 (t 5) (t 40)),o 6 (m 41)]),
 (q [(.reg [o 42 (m 6),o 43 (bc .neq 42 (n 0))]),
 (i 43 (q [(.reg [o 44 (.call 15 []),o 4 (m 44)]),
 .ret]) .skip)]),
 (.reg [o 46 (la 3 2),o 47 (la 3 5),o 48 (.call 17 [(t 46),(t 47)]),o 45 (m 48),o 49 (e 45 0),o 50 (e 45 1),o 7 (.alloc [(n 0),(.nils 1),(.nils 1)]),w (.store 3 (t 7) (t 49)),o 8 (m 50)]),
 (.reg [o 52 (la 3 2),o 53 (.call 18 [(t 52)]),o 51 (m 53),o 54 (e 51 0),o 55 (e 51 1),o 56 (e 51 2),o 9 (.alloc [(n 0),(.nils 1),(.nils 1)]),w (.store 3 (t 9) (t 54)),o 10 (m 55),o 11 (m 56)]),
 (.reg [o 58 (la 3 5),o 59 (.call 18 [(t 58)]),o 57 (m 59),o 60 (e 57 0),o 61 (e 57 1),o 62 (e 57 2),o 12 (.alloc [(n 0),(.nils 1),(.nils 1)]),w (.store 3 (t 12) (t 60)),o 13 (m 61),o 14 (m 62)]),
 (.reg [o 64 (la 3 7),o 65 (.call 18 [(t 64)]),o 63 (m 65),o 66 (e 63 0),o 67 (e 63 1),o 68 (e 63 2),o 15 (.alloc [(n 0),(.nils 1),(.nils 1)]),w (.store 3 (t 15) (t 66)),o 16 (m 67),o 17 (m 68)]),
 (q [(.reg [o 69 (m 8),o 70 (bc .neq 69 (n 0)),o 71 (m 70),g 72 71 false (m 11),g 73 71 false (bc .neq 72 (n 0)),o 74 (pt 71 73),o 75 (m 74),g 76 75 false (m 14),g 77 75 false (bc .neq 76 (n 0)),o 78 (pt 75 77),o 79 (m 78),g 80 79 false (m 17),g 81 79 false (bc .neq 80 (n 0)),o 82 (pt 79 81),o 83 (m 82),g 84 83 false (f 0 9),g 85 83 false (l 84),g 86 83 false (f 0 12),g 87 83 false (l 86),g 88 83 false (b .neq 85 87),o 89 (pt 83 88),o 90 (m 89),g 91 90 false (f 0 9),g 92 90 false (l 91),g 93 90 false (f 0 15),g 94 90 false (l 93),g 95 90 false (b .neq 92 94),o 96 (pt 90 95)]),
 (i 96 (q [(.reg [o 4 (.mv (c .bf))]),
 .ret]) .skip)]),
 (.reg [o 98 (la 3 9),o 99 (la 3 12),o 100 (.call 19 [(t 98),(t 99)]),o 97 (m 100),o 101 (e 97 0),o 102 (e 97 1),o 18 (m 101),o 19 (m 102)]),
 (.reg [o 104 (la 3 9),o 105 (la 3 15),o 106 (.call 19 [(t 104),(t 105)]),o 103 (m 106),o 107 (e 103 0),o 108 (e 103 1),o 20 (m 107),o 21 (m 108)]),
 (.reg [o 109 (m 19),o 110 (bc .eql 109 (n 0)),o 111 (m 110),g 112 111 true (m 21),g 113 111 true (bc .eql 112 (n 0)),o 114 (pf 111 113),o 115 (m 114),g 116 115 true (la 3 9),g 117 115 true (la 3 12),g 118 115 true (m 18),g 119 115 true (.call 20 [(t 116),(t 117),(t 118)]),g 120 115 true (bc .eql 119 (n 0)),o 121 (pf 115 120),o 122 (m 121),g 123 122 true (la 3 9),g 124 122 true (la 3 15),g 125 122 true (m 20),g 126 122 true (.call 20 [(t 123),(t 124),(t 125)]),g 127 122 true (bc .eql 126 (n 0)),o 128 (pf 122 127),o 129 (m 128),g 130 129 true (.call 15 []),o 131 (pf 129 130),o 4 (m 131)]),
 .ret])⟩
end
theorem k_wittingtop_TopQuotientUnique:zh Tryz.prog f_wittingtop_TopQuotientUnique=some c_wittingtop_TopQuotientUnique:=by kernel_rfl
end Go.Ab
namespace Go.Ab
open Go Go.Proofs
set_option maxRecDepth 10000
set_option maxHeartbeats 4000000
variable {T:Nat→Obj→Prop}
set_option maxHeartbeats 40000000 in
theorem walk_Unique {m r u Q1 Q2 Q3:KM} {to p1 p2 p3 l2 l3:List Int}
  (hf:Fn Tryz.prog T zfS [.d (dKM m),.d (.int .i64 6)] [] (.d (.bool true)) [])
  (ck:Fn Tryz.prog T zep [.d (dKM m)] [] (.d (.int .i64 0)) [])
  (cr:Fn Tryz.prog T zhU [.d (dKM m),.d (dI to)] [] (.d (dKI (r,0))) [])
  (cu:Fn Tryz.prog T zjc [.d (dKM m),.d (dKM r)] [] (.d (dKI (u,0))) [])
  (c1:Fn Tryz.prog T zfe [.d (dKM m)] [] (.d (zsD (Q1,p1,0))) [])
  (c2:Fn Tryz.prog T zfe [.d (dKM r)] [] (.d (zsD (Q2,p2,0))) [])
  (c3:Fn Tryz.prog T zfe [.d (dKM u)] [] (.d (zsD (Q3,p3,0))) [])
  (ci2:Fn Tryz.prog T zeF [.d (dKM Q1),.d (dKM Q2)] [] (.d (.tup [dI l2,.int .i64 0])) [])
  (ci3:Fn Tryz.prog T zeF [.d (dKM Q1),.d (dKM Q3)] [] (.d (.tup [dI l3,.int .i64 0])) [])
  (ch2:Fn Tryz.prog T zgL [.d (dKM Q1),.d (dKM Q2),.d (dI l2)] [] (.d (.int .i64 0)) [])
  (ch3:Fn Tryz.prog T zgL [.d (dKM Q1),.d (dKM Q3),.d (dI l3)] [] (.d (.int .i64 0)) [])
  (hA:Fn Tryz.prog T zcR [] [] (.d (.bool true)) []) (e12:Q1.W=Q2.W) (e13:Q1.W=Q3.W):Fn Tryz.prog T f_wittingtop_TopQuotientUnique [.d (dKM m),.d (dI to)] [] (.d (.bool true)) []:=by
 refine zi zy k_wittingtop_TopQuotientUnique (by show 2≤132;decide) ?_
 (repeat' ((conv=>whnf);first|refine vA ?_|refine vE ?_|refine vG ?_|refine vH ?_|(refine vF ?_ ?_<;>intro hc<;>try simp only [vL] at hc)|refine vJ fun hg=>?_|refine vT ?_|refine vZ ?_|refine yD hf ⟨⟨rfl,rfl⟩,⟨rfl,rfl⟩,rfl⟩ rfl ?_|refine yD ck ⟨⟨rfl,rfl⟩,rfl⟩ rfl ?_|refine yD hA (by (repeat refine ⟨⟨rfl,rfl⟩,?_⟩);rfl) rfl ?_));all_goals try conv=>whnf
 refine zU.dataN (cr) (by (repeat refine ⟨⟨rfl,rfl⟩,?_⟩);rfl) ?_
 (repeat' ((conv=>whnf);first|refine vA ?_|refine vH ?_|refine vT ?_));all_goals try conv=>whnf
 refine zU.dataN (cu) (by (repeat refine ⟨⟨rfl,rfl⟩,?_⟩);rfl) ?_
 (repeat' ((conv=>whnf);refine vT ?_));all_goals try conv=>whnf
 refine zU.dataN (c1) (by (repeat refine ⟨⟨rfl,rfl⟩,?_⟩);rfl) ?_
 (repeat' ((conv=>whnf);refine vT ?_));all_goals try conv=>whnf
 refine zU.dataN (c2) (by (repeat refine ⟨⟨rfl,rfl⟩,?_⟩);rfl) ?_
 (repeat' ((conv=>whnf);refine vT ?_));all_goals try conv=>whnf
 refine zU.dataN (c3) (by (repeat refine ⟨⟨rfl,rfl⟩,?_⟩);rfl) ?_
 (repeat' ((conv=>whnf);first|refine vA ?_|refine vH ?_|(refine vD ?_ ?_<;>intro hc<;>try simp only [vL] at hc)|refine vT ?_|refine vZ ?_));all_goals try conv=>whnf
 ·exfalso;omega
 ·exfalso;omega
 refine zU.dataN (ci2) (by (repeat refine ⟨⟨rfl,rfl⟩,?_⟩);rfl) ?_
 (repeat' ((conv=>whnf);refine vT ?_));all_goals try conv=>whnf
 refine zU.dataN (ci3) (by (repeat refine ⟨⟨rfl,rfl⟩,?_⟩);rfl) ?_
 (repeat' ((conv=>whnf);first|refine vA ?_|refine vG ?_|refine vT ?_));all_goals try conv=>whnf
 refine zU.data (ch2) (by (repeat refine ⟨⟨rfl,rfl⟩,?_⟩);rfl) rfl ?_
 (repeat' ((conv=>whnf);first|refine vG ?_|refine vT ?_));all_goals try conv=>whnf
 refine zU.data (ch3) (by (repeat refine ⟨⟨rfl,rfl⟩,?_⟩);rfl) rfl ?_
 (repeat' ((conv=>whnf);first|refine vG ?_|refine vT ?_|refine vZ ?_|refine yD hA (by (repeat refine ⟨⟨rfl,rfl⟩,?_⟩);rfl) rfl ?_));all_goals try conv=>whnf
 all_goals skip
theorem law_Unique (hT:zdB T) (hX:zhc T) (m:KM) (to:List Int):Fn Tryz.prog T f_wittingtop_TopQuotientUnique [.d (dKM m),.d (dI to)] [] (.d (.bool true)) []:=by
 have hA:=zyu hT hX
 have hf:=zy7 (T:=T) m 6
 have ck:=zaq (T:=T) m
 have cr:=zyH (T:=T) m to
 cases hbw:zpZ m 6 with
 | false =>
  rw [hbw] at hf
  refine zi zy k_wittingtop_TopQuotientUnique (by show 2≤132;decide) ?_
  (repeat' ((conv=>whnf);first|refine vA ?_|refine vE ?_|refine vH ?_|refine vT ?_|refine vZ ?_|refine yD hf ⟨⟨rfl,rfl⟩,⟨rfl,rfl⟩,rfl⟩ rfl ?_|refine yD hA (by (repeat refine ⟨⟨rfl,rfl⟩,?_⟩);rfl) rfl ?_));all_goals try conv=>whnf
 | true =>
  rw [hbw] at hf
  by_cases hk0:zf m=0
  ·have hg:=zq hk0
   have w1:=hg.w1
   have w2:=hg.w2
   have h6:m.W≤6:=by have:=of_decide_eq_true hbw;omega
   by_cases hp:zaM to m.W.toNat=true
   ·rw [show zn5 m to=(zdE m (zdO to m.W.toNat),0) by unfold zn5;rw [if_neg (not_not_intro hk0),if_pos hp]] at cr
    have hl:(zdO to m.W.toNat).length=m.W.toNat:=znS _ _
    have hiso:=zy8 hk0 hp
    have hkr:=zy9 hk0 (l:=zdO to m.W.toNat) (by omega) (by omega)
    have hrW:(zdE m (zdO to m.W.toNat)).W=m.W:=by show ((zdO to m.W.toNat).length:Int)=_;rw [hl];omega
    have hrl:m.rel.length=(zdE m (zdO to m.W.toNat)).rel.length:=by simp [zdE]
    have hvl:m.val.length=(zdE m (zdO to m.W.toNat)).val.length:=by simp [zdE]
    generalize zdE m (zdO to m.W.toNat)=r at *
    have gr:=zq hkr
    have hu:m.W+r.W≤64:=by omega
    have gu:=zy5 hg gr hrl hvl hu
    have hku:=zm1 gu
    have cu:=zy0 (T:=T) m r
    rw [show zmm m r=(zcC m r,0) by unfold zmm;rw [if_neg (by omega),if_neg (by omega),if_neg (by omega),if_neg (by omega)]] at cu
    have hsurj : ∀ v',v' < r.W.toNat → ∃ v,v < m.W.toNat∧v'=toF to v:=fun v' hv'=>by
     obtain ⟨v,h1,h2⟩:=hiso.ren.surj (x:=v') (by rw [hrW] at hv';exact hv')
     exact ⟨v,h1,h2.symm⟩
    have B1:zbK m.W.toNat r.W.toNat (zt m) (zt r) (zu m) (zu r) fun v v'=>v < m.W.toNat∧v'=toF to v:=by
     have:=hiso.bis
     rw [show r.W.toNat=m.W.toNat by rw [hrW]];exact this
    have B2:=(zy6 hg gr hrl hvl hu).or (B1.trans (zyW hg gr hrl hvl hu))
    obtain ⟨e12,f2,i12⟩:=zy1 hk0 hkr B1 (fun v hv=>⟨_,hv,rfl⟩) hsurj
    obtain ⟨e13,f3,i13⟩:=zy1 hk0 hku B2 (fun v hv=>⟨v,.inl ⟨hv,rfl⟩⟩) (fun v' hv'=>by
     rw [zwW hg gr hrl hvl hu] at hv'
     by_cases h:v' < m.W.toNat
     ·exact ⟨v',.inl ⟨h,rfl⟩⟩
     ·obtain ⟨v,h1,h2⟩:=hsurj (v' - m.W.toNat) (by omega)
      exact ⟨v,.inr ⟨v' - m.W.toNat,⟨h1,h2⟩,by omega,by omega⟩⟩)
    have huW:(zcC m r).W=m.W+r.W:=rfl
    have huv:m.val.length=(zcC m r).val.length:=by show _=(List.zipWith _ _ _).length;rw [List.length_zipWith];omega
    have hur:m.rel.length=(zcC m r).rel.length:=by show _=(List.zipWith _ _ _).length;rw [List.length_zipWith];omega
    generalize zcC m r=u at *
    have mk : ∀ x:KM,zf x=0→zvT x=(zW x (cq x),ptL x.W.toNat (zP (cq x)),0):=fun x hx=>by rw [zvT,if_neg (not_not_intro hx)]
    have c1:=zyt (T:=T) hT hX m (fun _=>by omega)
    have c2:=zyt (T:=T) hT hX r (fun _=>by omega)
    have c3:=zyt (T:=T) hT hX u (fun _=>by omega)
    rw [mk m hk0] at c1
    rw [mk r hkr] at c2
    rw [mk u hku] at c3
    have q1:=zup hk0 (zfk m)
    have q2:=zup hkr (zfk r)
    have q3:=zup hku (zfk u)
    have hq12:(zW m (cq m)).W≤12:=by
     have:=zdj m.W.toNat (cq m)
     show ((zG m.W.toNat (cq m):Nat):Int)≤12;omega
    obtain ⟨l2,hi2,hc2⟩:=zyV q1 q2 e12 (by simp [zW,hvl]) (by simp [zW,hrl]) hq12 i12
    obtain ⟨l3,hi3,hc3⟩:=zyV q1 q3 e13 (by simp [zW,huv]) (by simp [zW,hur]) hq12 i13
    clear i12 i13 B1 B2 hiso hsurj mk
    generalize zW m (cq m)=Q1 at *
    generalize zW r (cq r)=Q2 at *
    generalize zW u (cq u)=Q3 at *
    have ci2:=zxX (T:=T) hT Q1 Q2
    have ci3:=zxX (T:=T) hT Q1 Q3
    have ch2:=zyU (T:=T) Q1 Q2 l2
    have ch3:=zyU (T:=T) Q1 Q3 l3
    rw [hi2] at ci2
    rw [hi3] at ci3
    rw [hc2] at ch2
    rw [hc3] at ch3
    rw [hk0] at ck
    exact walk_Unique hf ck cr cu c1 c2 c3 ci2 ci3 ch2 ch3 hA e12.symm e13.symm
   ·rw [show zn5 m to=(zcq,1) by unfold zn5;rw [if_neg (not_not_intro hk0),if_neg hp]] at cr
    refine zi zy k_wittingtop_TopQuotientUnique (by show 2≤132;decide) ?_
    (repeat' ((conv=>whnf);first|refine vA ?_|refine vE ?_|refine vG ?_|((first|refine vD ?_ ?_|refine vF ?_ ?_)<;>intro hc<;>try simp only [vL] at hc)|refine vJ fun hg=>?_|refine vT ?_|refine vZ ?_|refine yD hf ⟨⟨rfl,rfl⟩,⟨rfl,rfl⟩,rfl⟩ rfl ?_|refine yD ck ⟨⟨rfl,rfl⟩,rfl⟩ rfl ?_|refine yN cr ⟨⟨rfl,rfl⟩,⟨rfl,rfl⟩,rfl⟩ ?_|refine yD hA (by (repeat refine ⟨⟨rfl,rfl⟩,?_⟩);rfl) rfl ?_));all_goals try conv=>whnf
    all_goals first|exact absurd rfl ‹_≠_›|exact absurd trivial ‹¬True›|skip
  ·refine zi zy k_wittingtop_TopQuotientUnique (by show 2≤132;decide) ?_
   (repeat' ((conv=>whnf);first|refine vA ?_|refine vE ?_|refine vG ?_|((first|refine vD ?_ ?_|refine vF ?_ ?_)<;>intro hc<;>try simp only [vL] at hc)|refine vJ fun hg=>?_|refine vT ?_|refine vZ ?_|refine yD hf ⟨⟨rfl,rfl⟩,⟨rfl,rfl⟩,rfl⟩ rfl ?_|refine yD ck ⟨⟨rfl,rfl⟩,rfl⟩ rfl ?_|refine yD hA (by (repeat refine ⟨⟨rfl,rfl⟩,?_⟩);rfl) rfl ?_));all_goals try conv=>whnf
   all_goals exact absurd ‹zf m=0› hk0
end Go.Ab
namespace Go.Proofs.YtjehkdhnhfghiaaGreatDoor
open Go Go.Ab Go.RowKit Go.ChangeShapes Go.WideShapes
set_option maxRecDepth 100000
theorem topQuotientUnique_c9:(Rows.topQuotientUniqueRow.inPlace==Tryz.pinned.checked.prog.inPlace 3)=true:=by kernel_rfl
theorem topQuotientUnique_c10:(Rows.topQuotientUniqueRow.unfollowed==Tryz.pinned.checked.prog.unfollowed 3)=true:=by kernel_rfl
theorem topQuotientUnique_c11:(Rows.topQuotientUniqueRow.recurses==Tryz.pinned.checked.prog.recurses 3)=true:=by kernel_rfl
theorem topQuotientUnique_c12:(Rows.topQuotientUniqueRow.named==Tryz.pinned.checked.prog.varsNamed 3)=true:=by kernel_rfl
theorem topQuotientUnique_c25:Tryz.pinned.checked.prog.mayEnter=true:=by kernel_rfl
theorem topQuotientUnique_c26:(Rows.topQuotientUniqueRow.lifted==Tryz.pinned.checked.prog.liftsFinal)=true:=by kernel_rfl
theorem topQuotientUnique_c27:(Tryz.pinned.checked.prog.make==some Rows.topQuotientUniqueRow.make)=true:=by kernel_rfl
theorem topQuotientUnique_facts:joinedFacts Tryz.pinned.checked.prog 3 Tryz.f3 Rows.topQuotientUniqueSpec Rows.topQuotientUniqueRow=true:=(zzd (zzd (zzd (zzd (zzd (zzd (zzd (zzd (zzd (zzd (zzd (zzd (zzd (zzd (zzd (zzd (zzd (zzd (zzd (zzd (zzd (zzd (zzd (zzd (zzd (zzd (zzd (zzd (zzd (zzd (zzd (by kernel_rfl) (by kernel_rfl)) (by kernel_rfl)) (by kernel_rfl)) (by kernel_rfl)) (by kernel_rfl)) (by kernel_rfl)) (by kernel_rfl)) (by kernel_rfl)) topQuotientUnique_c9) topQuotientUnique_c10) topQuotientUnique_c11) topQuotientUnique_c12) (by kernel_rfl)) (by kernel_rfl)) (by kernel_rfl)) (by kernel_rfl)) (by kernel_rfl)) (by kernel_rfl)) (by kernel_rfl)) (by kernel_rfl)) (by kernel_rfl)) (by kernel_rfl)) (by kernel_rfl)) (by kernel_rfl)) topQuotientUnique_c25) topQuotientUnique_c26) topQuotientUnique_c27) (by kernel_rfl)) (by kernel_rfl)) (by kernel_rfl)) (by kernel_rfl))
theorem topQuotientUnique_holds:Rows.TopQuotientUniqueSaid :=
 OpenClaim.holds_of_wide 3 Tryz.f3 rfl rfl rfl rfl rfl rfl rfl ⟨rfl,rfl,rfl,rfl,rfl⟩ rfl rfl rfl rfl rfl (by kernel_rfl) Tryz.func3 topQuotientUnique_facts
  (of_decide_eq_true (by kernel_rfl)) (by unfold Func.isWrapper;rw [if_neg (of_decide_eq_false (by kernel_rfl))];exact ⟨rfl,rfl⟩)
  (fun os started H enc _=>zyL (C:=Tryz.checked) (s:=Rows.topQuotientUniqueSpec) (laid:=laidL) knob started (by kernel_rfl) Tryz.func3 laidOut [25,26] Tryz.params3 rfl Tryz.underlying4 rfl (by kernel_rfl)
   (fun ds hds=>by match ds,hds with|[d1,d2],_=>rfl)
   (ChangeSpec.witness_shaped (enc:=enc) (C:=Tryz.checked) (os:=os) (X:=fun w _=>laidMetH Tryz.prog laidL w) false (World.doorLaid Tryz.prog 14 os)
    #[.agg #[.int .i64 0,.slice none 0 0,.slice none 0 0],.slice none 0 0] 8 rfl (World.shaped_of_RefB (by kernel_rfl) (by kernel_rfl)) (by kernel_rfl) (by kernel_rfl) (by kernel_rfl) (door_met os _))
   (fun W hL=>⟨TOf W,(zzb hL).1,(zzb hL).2,fun ds hds=>by
    obtain ⟨m1,r,rfl,hm1,k1⟩:=zyS hds
    obtain ⟨l2,r,rfl,hl2,k2⟩:=zyY k1
    obtain rfl:=zze k2
    exact law_Unique (tz_of hL) (hex_of hL) m1 l2⟩))
theorem topQuotientUnique_card:Rows.TopQuotientUniqueCardSaid :=
 Claim7.holds_tied_plain_at .later [] [.data,.data,.data] true (true, "8d566f0265d904fd78765531ba56d84e46aac9efdae886bb35f471103bd136f7") false
  topQuotientUnique_holds (fun _ h=>by cases h) (by kernel_rfl) (fun _ h=>by cases h) topQuotientUnique_row_tie rfl ⟨rfl,rfl⟩ (by kernel_rfl) rfl
  (fun f fn hf hfn=>by
   obtain rfl:f=3:=Option.some.inj ((show Tryz.prog.funcNamed Rows.topQuotientUniqueRow.func=some 3 by kernel_rfl).symm.trans hf) |>.symm
   obtain rfl:fn=Tryz.f3:=(Option.some.inj (Tryz.func3.symm.trans hfn)).symm
   exact ⟨by kernel_rfl,fun j t ht=>by
    rw [Tryz.params3] at ht
    have hm:t∈[25,26]:=by
     have:=List.mem_of_getElem? (l:=[25,26]) (i:=j) (by simpa using ht)
     exact this
    have hall:([25,26].all fun t=>Tryz.prog.wantsStandIn t==false)=true:=by kernel_rfl
    exact eq_of_beq (List.all_eq_true.1 hall t hm)⟩)
  (by kernel_rfl)
end Go.Proofs.YtjehkdhnhfghiaaGreatDoor
