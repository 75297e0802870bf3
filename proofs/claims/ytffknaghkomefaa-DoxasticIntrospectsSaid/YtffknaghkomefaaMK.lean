/- What is proved here: the law DoxasticIntrospects returns true at every input and leaves its arguments as they were. There is no further condition. -/
import Derived.Test.YtffknaghkomefaaMJ
set_option linter.unusedVariables false
set_option linter.unusedSimpArgs false
set_option linter.unusedSectionVars false
namespace Go.Ab
open Go Go.Proofs
section
open K
def f_wittinglaw34_DoxasticOrders:Nat:=4
def f_wittinglaw34_DoxasticIntrospects:Nat:=5
def c_wittinglaw34_DoxasticOrders:CFn:=⟨118,[.tmp 6],(q [(.reg [o 3 (.box 4 (t 0)),o 6 (.mv (c .bf))]),
 (q [(.reg [o 18 (.call 10 []),o 19 (.un .not (t 18)),o 20 (m 19),g 21 20 false (la 4 3),g 22 20 false (m 1),g 23 20 false (m 2),g 24 20 false (.bslice 1 2 [(.nils 6)] [(0,(t 22)),(1,(t 23))]),g 25 20 false (.call 11 [(t 21),(t 24)]),g 26 20 false (.un .not (t 25)),o 27 (pt 20 26),o 28 (m 27),g 29 28 false (la 4 3),g 30 28 false (.call 16 [(t 29)]),g 31 28 false (bc .neq 30 (n 0)),o 32 (pt 28 31)]),
 (i 32 (q [(.reg [o 33 (.call 10 []),o 6 (m 33)]),
 .ret]) .skip)]),
 (.reg [o 35 (la 4 3),o 36 (m 1),o 37 (.call 17 [(t 35),(t 36)]),o 34 (m 37),o 38 (e 34 0),o 39 (e 34 1),o 7 (m 38),o 8 (m 39)]),
 (q [(.reg [o 40 (m 8),o 41 (.un .not (t 40))]),
 (i 41 (q [(.reg [o 6 (.mv (c .bt))]),
 .ret]) .skip)]),
 (q [(.reg [o 42 (f 2 3),o 43 (l 42),o 44 (ln 43),o 45 (.mv (c (n 0)))]),
 (.block 0 (.loop (q [(.reg [o 46 (b .lss 45 44)]),
 (i 46 .skip (.exit 0)),
 (.block 1 (q [(.reg [o 47 (m 45),o 9 (m 47)]),
 (.regd [o 49 (la 4 3),o 50 (m 9),o 51 (m 1),o 52 (.call 18 [(t 50),(t 51)]),o 53 (.call 17 [(t 49),(t 52)]),o 48 (m 53),o 54 (e 48 0),o 55 (e 48 1),o 10 (m 54),o 11 (m 55)] [0,0,0,6,15,31,63,63,127,511]),
 (.regd [o 57 (la 4 3),o 58 (m 9),o 59 (m 1),o 60 (.call 19 [(t 58),(t 59)]),o 61 (.call 17 [(t 57),(t 60)]),o 56 (m 61),o 62 (e 56 0),o 63 (e 56 1),o 12 (m 62),o 13 (m 63)] [0,0,0,6,15,31,63,63,127,511]),
 (.regd [o 65 (la 4 3),o 66 (m 9),o 67 (.call 21 []),o 68 (m 1),o 69 (.call 20 [(t 66),(t 67),(t 68)]),o 70 (.call 17 [(t 65),(t 69)]),o 64 (m 70),o 71 (e 64 0),o 72 (e 64 1),o 14 (m 71),o 15 (m 72)] [0,0,0,0,14,31,63,127,127,255,1023]),
 (q [(.reg [o 73 (m 11),o 74 (.un .not (t 73)),o 75 (m 74),g 76 75 false (m 13),g 77 75 false (.un .not (t 76)),o 78 (pt 75 77),o 79 (m 78),g 80 79 false (m 15),g 81 79 false (.un .not (t 80)),o 82 (pt 79 81),o 83 (m 82),g 84 83 false (m 10),g 85 83 false (m 12),g 86 83 false (b .andNot 84 85),g 87 83 false (bc .neq 86 (u 0)),o 88 (pt 83 87),o 89 (m 88),g 90 89 false (m 12),g 91 89 false (m 7),g 92 89 false (b .andNot 90 91),g 93 89 false (bc .neq 92 (u 0)),o 94 (pt 89 93),o 95 (m 94),g 96 95 false (m 12),g 97 95 false (m 14),g 98 95 false (b .andNot 96 97),g 99 95 false (bc .neq 98 (u 0)),o 100 (pt 95 99)]),
 (i 100 (q [(.reg [o 6 (.mv (c .bf))]),
 .ret]) .skip)]),
 (.regd [o 102 (la 4 3),o 103 (m 9),o 104 (m 2),o 105 (m 1),o 106 (.call 20 [(t 103),(t 104),(t 105)]),o 107 (.call 17 [(t 102),(t 106)]),o 101 (m 107),o 108 (e 101 0),o 109 (e 101 1),o 16 (m 108),o 17 (m 109)] [0,0,0,0,14,31,63,127,127,255,1023]),
 (.reg [o 110 (m 17),o 111 (m 110),g 112 111 true (m 10),g 113 111 true (m 16),g 114 111 true (b .andNot 112 113),g 115 111 true (bc .neq 114 (u 0)),o 116 (pf 111 115)]),
 (i 116 (q [(.reg [o 6 (.mv (c .bf))]),
 .ret]) .skip)])),
 (.reg [o 117 (bc .add 45 (n 1)),o 45 (m 117)])])))]),
 (.reg [o 6 (.mv (c .bt))]),
 .ret])⟩
def c_wittinglaw34_DoxasticIntrospects:CFn:=⟨87,[.tmp 6],(q [(.reg [o 3 (.box 4 (t 0)),o 6 (.mv (c .bf))]),
 (q [(.reg [o 15 (.call 10 []),o 16 (.un .not (t 15)),o 17 (m 16),g 18 17 false (la 4 3),g 19 17 false (m 1),g 20 17 false (m 2),g 21 17 false (.bslice 1 2 [(.nils 6)] [(0,(t 19)),(1,(t 20))]),g 22 17 false (.call 11 [(t 18),(t 21)]),g 23 17 false (.un .not (t 22)),o 24 (pt 17 23),o 25 (m 24),g 26 25 false (la 4 3),g 27 25 false (.call 16 [(t 26)]),g 28 25 false (bc .neq 27 (n 0)),o 29 (pt 25 28)]),
 (i 29 (q [(.reg [o 30 (.call 10 []),o 6 (m 30)]),
 .ret]) .skip)]),
 (q [(.reg [o 31 (f 2 3),o 32 (l 31),o 33 (ln 32),o 34 (.mv (c (n 0)))]),
 (.block 0 (.loop (q [(.reg [o 35 (b .lss 34 33)]),
 (i 35 .skip (.exit 0)),
 (.block 1 (q [(.reg [o 36 (m 34),o 7 (m 36)]),
 (.reg [o 37 (m 7),o 38 (m 2),o 39 (m 1),o 40 (.call 20 [(t 37),(t 38),(t 39)]),o 8 (m 40)]),
 (.reg [o 42 (la 4 3),o 43 (m 8),o 44 (.call 17 [(t 42),(t 43)]),o 41 (m 44),o 45 (e 41 0),o 46 (e 41 1),o 9 (m 45),o 10 (m 46)]),
 (q [(.reg [o 47 (m 10),o 48 (.un .not (t 47))]),
 (i 48 (q [(.reg [o 6 (.mv (c .bt))]),
 .ret]) .skip)]),
 (.regd [o 50 (la 4 3),o 51 (m 7),o 52 (m 8),o 53 (.call 18 [(t 51),(t 52)]),o 54 (.call 17 [(t 50),(t 53)]),o 49 (m 54),o 55 (e 49 0),o 56 (e 49 1),o 11 (m 55),o 12 (m 56)] [0,0,0,6,15,31,63,63,127,511]),
 (.regd [o 58 (la 4 3),o 59 (m 7),o 60 (m 8),o 61 (.call 22 [(t 60)]),o 62 (.call 18 [(t 59),(t 61)]),o 63 (.call 17 [(t 58),(t 62)]),o 57 (m 63),o 64 (e 57 0),o 65 (e 57 1),o 13 (m 64),o 14 (m 65)] [0,0,0,4,14,31,63,127,127,255,1023]),
 (.reg [o 66 (m 12),o 67 (.un .not (t 66)),o 68 (m 67),g 69 68 false (m 14),g 70 68 false (.un .not (t 69)),o 71 (pt 68 70),o 72 (m 71),g 73 72 false (m 9),g 74 72 false (m 11),g 75 72 false (b .neq 73 74),o 76 (pt 72 75),o 77 (m 76),g 78 77 false (m 13),g 79 77 false (f 0 3),g 80 77 false (l 79),g 81 77 false (.call 23 [(t 80)]),g 82 77 false (m 9),g 83 77 false (b .andNot 81 82),g 84 77 false (b .neq 78 83),o 85 (pt 77 84)]),
 (i 85 (q [(.reg [o 6 (.mv (c .bf))]),
 .ret]) .skip)])),
 (.reg [o 86 (bc .add 34 (n 1)),o 34 (m 86)])])))]),
 (.reg [o 6 (.mv (c .bt))]),
 .ret])⟩
end
theorem k_wittinglaw34_DoxasticOrders:compFn Try.prog f_wittinglaw34_DoxasticOrders=some c_wittinglaw34_DoxasticOrders:=by kernel_rfl
theorem k_wittinglaw34_DoxasticIntrospects:compFn Try.prog f_wittinglaw34_DoxasticIntrospects=some c_wittinglaw34_DoxasticIntrospects:=by kernel_rfl
end Go.Ab
namespace Go.Ab
open Go Go.Proofs
set_option linter.unusedSimpArgs false
set_option linter.unusedVariables false
set_option maxRecDepth 10000
set_option maxHeartbeats 4000000
variable {T:Nat→Obj→Prop}
theorem few_len {p:PM} {ls:List (List Nd)} (h:fewL p ls=true) : ∀ f∈ls,f.length≤60:=by
 rw [fewL,Bool.and_eq_true,List.all_eq_true] at h
 exact fun f hf=>of_decide_eq_true (h.1 f hf)
theorem fn_setOf (hR:RanksOk T) {p:PM} (hp:IntsOk p.rank) (hc0:checkL p=0) {f:List Nd} {x:BitVec 64} {n:Nat} (h:Fm p f x n):Fn Try.prog T f_wittinglaw34_set [.d (dPM p),.d (dF f)] [] (.d (.tup [.u64 x,.bool true])) []:=by
 have:=fn_set (T:=T) hR p hp f
 rw [h.holds hc0] at this
 exact this
theorem law_Orders (p:PM) (hp:IntsOk p.rank) (f c:List Nd):Fn Try.prog T f_wittinglaw34_DoxasticOrders [.d (dPM p),.d (dF f),.d (dF c)] [] (.d (.bool true)) []:=by
 have hR:=ranks_ok (T:=T)
 have hA:=fn_awake (T:=T)
 have hF:=fn_few (T:=T) p [f,c]
 refine fn_dataR hmix k_wittinglaw34_DoxasticOrders (by show 3≤118;decide) ?_
 (repeat' ((conv=>whnf);first|refine TestS.no (by decide) ?_|refine vA ?_|refine vE ?_|((first|refine vD ?_ ?_|refine vF ?_ ?_|refine vI ?_ ?_)<;>intro hc)|refine vJ fun hg=>?_|refine vZ ?_|refine yD hA rfl rfl ?_|refine yD hF ⟨⟨rfl,rfl⟩,⟨rfl,rfl⟩,rfl⟩ rfl ?_|refine yD (fn_ref33_Check _ hp) (by (repeat refine ⟨⟨rfl,rfl⟩,?_⟩);rfl) rfl ?_|refine yN (fn_set hR p hp _) ⟨⟨rfl,rfl⟩,⟨rfl,rfl⟩,rfl⟩ ?_));all_goals try conv=>whnf
 have hc0:=‹checkL p=0›
 have hfew:=few_len ‹fewL p [f,c]=true›
 have hf:Fm p f (holdsL p f).1 60 := .of ‹_› (hfew f (by simp))
 have hcl:c.length≤60:=hfew c (by simp)
 refine loop_mem (fun (k:Nat)=>[(1,.d (dF f)),(2,.d (dF c)),(3,.ptr 0 0),(7,.d (.u64 ((holdsL p f).1))),(44,.d (.int .i64 ((p.cell.map dI).length:Int))),(45,.d (.int .i64 ((k:Int))))]) (fun (k:Nat)=>[(0,some (boxPM p))]) 1 (fun (k:Nat)=>k≤p.cell.length) (fun (k:Nat)=>p.cell.length - k) (0) [(0,0)] [] (by simp) (by (refine ⟨rfl,rfl,rfl,?_,?_⟩;repeat' first|exact trivial|exact rfl|refine And.intro ?_ ?_|refine ⟨_,rfl,?_⟩|decide)) ?_
 rintro k hk
 by_cases hkl:k < p.cell.length
 ·have s1:=fn_setOf (T:=T) hR hp hc0 (hf.know hc0 hkl (by decide))
  have s2:=fn_setOf (T:=T) hR hp hc0 (hf.safe hc0 hkl (by decide))
  have s3:=fn_setOf (T:=T) hR hp hc0 (Fm.tru.belief hc0 hf hkl (by decide))
  (repeat' ((conv=>whnf);first|refine TestS.no (by decide) ?_|refine vA ?_|((first|refine vD ?_ ?_|refine vF ?_ ?_)<;>intro hc<;>try simp only [vL] at hc)|(refine vO ?_ ?_;·omega)|(refine vU ?_ ?_;·kernel_rfl)|refine vZ ?_|refine yN (fn_FKnow _ _) ⟨⟨rfl,rfl⟩,⟨rfl,rfl⟩,rfl⟩ ?_|refine yN s1 ⟨⟨rfl,rfl⟩,⟨rfl,rfl⟩,rfl⟩ ?_|refine yN (fn_FSafe _ _) ⟨⟨rfl,rfl⟩,⟨rfl,rfl⟩,rfl⟩ ?_|refine yN s2 ⟨⟨rfl,rfl⟩,⟨rfl,rfl⟩,rfl⟩ ?_|refine yN fn_FTrue rfl ?_|refine yN (fn_FBelief _ _ _) ⟨⟨rfl,rfl⟩,⟨rfl,rfl⟩,⟨rfl,rfl⟩,rfl⟩ ?_|refine yN s3 ⟨⟨rfl,rfl⟩,⟨rfl,rfl⟩,rfl⟩ ?_|refine yN (fn_set hR p hp _) ⟨⟨rfl,rfl⟩,⟨rfl,rfl⟩,rfl⟩ ?_));all_goals try conv=>whnf
  ·exact absurd (know_safe hc0 hkl) hc
  ·exact absurd (safe_true hc0 hkl) hc
  ·exact absurd (safe_belief hc0 hkl) hc
  ·have hcF:=Fm.under hc0 (hd:=⟨14,k,0,0⟩) (agent_hd (by decide) (checkL_good hc0) hkl).1 (by simp only;decide) hf hcl (by decide) ‹_›
   rw [(hcF.belief hc0 hf hkl (by decide)).holds hc0] at hc
   exact absurd (know_belief hc0 hkl) hc
  ·exact ⟨k+1,[(0,0)],[],by (omega),by (omega),by (refine ⟨rfl,rfl,rfl,?_,?_⟩;repeat' first|exact trivial|exact rfl|refine And.intro ?_ ?_|refine ⟨_,rfl,?_⟩|decide)⟩
  ·exact ⟨k+1,[(0,0)],[],by (omega),by (omega),by (refine ⟨rfl,rfl,rfl,?_,?_⟩;repeat' first|exact trivial|exact rfl|refine And.intro ?_ ?_|refine ⟨_,rfl,?_⟩|decide)⟩
  all_goals omega
 ·(repeat' ((conv=>whnf);first|refine vA ?_|(refine vF ?_ ?_<;>intro hc<;>try simp only [vL] at hc)|refine vZ ?_));all_goals try conv=>whnf
  all_goals omega
end Go.Ab
namespace Go.Ab
open Go Go.Proofs
set_option linter.unusedSimpArgs false
set_option linter.unusedVariables false
set_option maxRecDepth 10000
set_option maxHeartbeats 4000000
variable {T:Nat→Obj→Prop}
theorem law_Introspects (p:PM) (hp:IntsOk p.rank) (f c:List Nd):Fn Try.prog T f_wittinglaw34_DoxasticIntrospects [.d (dPM p),.d (dF f),.d (dF c)] [] (.d (.bool true)) []:=by
 have hR:=ranks_ok (T:=T)
 have hA:=fn_awake (T:=T)
 have hF:=fn_few (T:=T) p [f,c]
 refine fn_dataR hmix k_wittinglaw34_DoxasticIntrospects (by show 3≤87;decide) ?_
 (repeat' ((conv=>whnf);first|refine TestS.no (by decide) ?_|refine vA ?_|refine vE ?_|((first|refine vD ?_ ?_|refine vI ?_ ?_)<;>intro hc)|refine vJ fun hg=>?_|refine vZ ?_|refine yD hA rfl rfl ?_|refine yD hF ⟨⟨rfl,rfl⟩,⟨rfl,rfl⟩,rfl⟩ rfl ?_|refine yD (fn_ref33_Check _ hp) (by (repeat refine ⟨⟨rfl,rfl⟩,?_⟩);rfl) rfl ?_));all_goals try conv=>whnf
 have hc0:=‹checkL p=0›
 have hg:=checkL_good hc0
 have hW0:0≤p.W:=by have:=hg.w1;omega
 have hfew:=few_len ‹fewL p [f,c]=true›
 have hfl:f.length≤60:=hfew f (by simp)
 have hcl:c.length≤60:=hfew c (by simp)
 refine loop_mem (fun (k:Nat)=>[(1,.d (dF f)),(2,.d (dF c)),(3,.ptr 0 0),(33,.d (.int .i64 ((p.cell.map dI).length:Int))),(34,.d (.int .i64 ((k:Int))))]) (fun (k:Nat)=>[(0,some (boxPM p))]) 1 (fun (k:Nat)=>k≤p.cell.length) (fun (k:Nat)=>p.cell.length - k) (0) [(0,0)] [] (by simp) (by (refine ⟨rfl,rfl,rfl,?_,?_⟩;repeat' first|exact trivial|exact rfl|refine And.intro ?_ ?_|refine ⟨_,rfl,?_⟩|decide)) ?_
 rintro k hk
 by_cases hkl:k < p.cell.length
 ·by_cases hB:(holdsL p (buildL ⟨14,k,0,0,0,0⟩ [c,f])).2=0
  ·obtain ⟨hcF,hfF⟩:=Fm.under2 hc0 (hd:=⟨14,k,0,0⟩) (agent_hd (by decide) hg hkl).1 (by simp only;decide) hcl hfl (by decide) hB
   have hb:=hcF.belief hc0 hfF hkl (by decide)
   have s1:=fn_setOf (T:=T) hR hp hc0 hb
   have s2:=fn_setOf (T:=T) hR hp hc0 (hb.know hc0 hkl (by decide))
   have s3:=fn_setOf (T:=T) hR hp hc0 ((hb.not (by decide)).know hc0 hkl (by decide))
   rw [know_bel hc0 hkl] at s2
   rw [know_notbel hc0 hkl] at s3
   (repeat' ((conv=>whnf);first|refine TestS.no (by decide) ?_|refine vA ?_|((first|refine vD ?_ ?_|refine vF ?_ ?_)<;>intro hc<;>try simp only [vL] at hc)|(refine vO ?_ ?_;·omega)|(refine vU ?_ ?_;·kernel_rfl)|refine vZ ?_|refine yN (fn_FBelief _ _ _) ⟨⟨rfl,rfl⟩,⟨rfl,rfl⟩,⟨rfl,rfl⟩,rfl⟩ ?_|refine yN s1 ⟨⟨rfl,rfl⟩,⟨rfl,rfl⟩,rfl⟩ ?_|refine yN (fn_FKnow _ _) ⟨⟨rfl,rfl⟩,⟨rfl,rfl⟩,rfl⟩ ?_|refine yN s2 ⟨⟨rfl,rfl⟩,⟨rfl,rfl⟩,rfl⟩ ?_|refine yN (fn_FNot _) ⟨⟨rfl,rfl⟩,rfl⟩ ?_|refine yN s3 ⟨⟨rfl,rfl⟩,⟨rfl,rfl⟩,rfl⟩ ?_|refine yD (fn_All13 p.W hW0) ⟨⟨rfl,rfl⟩,rfl⟩ rfl ?_));all_goals try conv=>whnf
   ·exact absurd rfl hc
   ·exact absurd rfl hc
   ·exact ⟨k+1,[(0,0)],[],by (omega),by (omega),by (refine ⟨rfl,rfl,rfl,?_,?_⟩;repeat' first|exact trivial|exact rfl|refine And.intro ?_ ?_|refine ⟨_,rfl,?_⟩|decide)⟩
   all_goals omega
  ·have s1:=fn_set (T:=T) hR p hp (buildL ⟨14,k,0,0,0,0⟩ [c,f])
   rw [decide_eq_false hB] at s1
   (repeat' ((conv=>whnf);first|refine TestS.yes (by decide) ?_|refine vA ?_|(refine vF ?_ ?_<;>intro hc<;>try simp only [vL] at hc)|refine vZ ?_|refine yN (fn_FBelief _ _ _) ⟨⟨rfl,rfl⟩,⟨rfl,rfl⟩,⟨rfl,rfl⟩,rfl⟩ ?_|refine yN s1 ⟨⟨rfl,rfl⟩,⟨rfl,rfl⟩,rfl⟩ ?_));all_goals try conv=>whnf
   all_goals omega
 ·(repeat' ((conv=>whnf);first|refine vA ?_|(refine vF ?_ ?_<;>intro hc<;>try simp only [vL] at hc)|refine vZ ?_));all_goals try conv=>whnf
  all_goals omega
end Go.Ab
namespace Go.Proofs.Ytffknaghkomefaa
open Go Go.Ab Go.RowKit Go.ChangeShapes Go.WideShapes
set_option linter.unusedVariables false
set_option maxRecDepth 100000 in
theorem doxasticIntrospects_holds:Rows.DoxasticIntrospectsSaid :=
 OpenClaim.holds_of_wide 5 Try.f5 rfl rfl rfl rfl rfl rfl rfl ⟨rfl,rfl,rfl,rfl,rfl⟩ rfl rfl rfl rfl rfl (by kernel_rfl) Try.func5 (by kernel_rfl)
  (of_decide_eq_true (by kernel_rfl)) (by unfold Func.isWrapper;rw [if_neg (of_decide_eq_false (by kernel_rfl))];exact ⟨rfl,rfl⟩)
  (fun os started H enc _=>strip_of <| law_lifted (C:=Try.checked) (s:=Rows.doxasticIntrospectsSpec) (laid:=[]) knob started (by kernel_rfl) Try.func5 laidOut [25,35,35] Try.params5 rfl Try.underlying4 rfl (by kernel_rfl)
   (fun ds hds=>by match ds,hds with|[d1,d2,d3],_=>rfl)
   (ChangeSpec.witness_shaped (enc:=enc) (C:=Try.checked) (os:=os) (X:=fun w _=>laidMetH Try.prog [] w) false (World.doorLaid Try.prog 14 os)
    #[.agg #[.int .i64 0,.slice none 0 0,.slice none 0 0,.slice none 0 0],.slice none 0 0,.slice none 0 0] 8 rfl (World.shaped_of_RefB (by kernel_rfl) (by kernel_rfl)) (by kernel_rfl) (by kernel_rfl) (by kernel_rfl) laid_nil)
   (fun W hL=>⟨noT,fun b o h=>h.elim,fun b h=>h.elim fun o h=>h.elim,fun ds hds=>by
    obtain ⟨p1,r,rfl,hc1,hp1,k1⟩:=arg25 hds
    obtain ⟨f2,r,rfl,k2⟩:=arg35 k1
    obtain ⟨f3,r,rfl,k3⟩:=arg35 k2
    obtain rfl:=arg0 k3
    exact law_Introspects p1 hp1 f2 f3⟩))
end Go.Proofs.Ytffknaghkomefaa
