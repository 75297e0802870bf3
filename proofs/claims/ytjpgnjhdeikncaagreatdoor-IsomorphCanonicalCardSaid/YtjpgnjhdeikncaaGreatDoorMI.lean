/- What is proved here: the law IsomorphCanonical returns true at every input and leaves its arguments as they were. The condition is the row own: the listed table of math bits holds what the text lays. -/
import Derived.Test.YtjpgnjhdeikncaaGreatDoorMH
set_option linter.unusedVariables false
set_option linter.unusedSimpArgs false
set_option linter.unusedSectionVars false
namespace Go.Ab
open Go Go.Proofs
section
open K
def f_wittinglaw16_IsomorphCanonical:Nat:=5
def c_wittinglaw16_IsomorphCanonical:CFn:=⟨45,[.tmp 4],(q [(.reg [o 2 (.box 3 (t 0)),o 4 (.mv (c .bf))]),
 (q [(.reg [o 11 (la 3 2),o 12 (.call 13 [(t 11),(c (n 10))]),o 13 (.un .not (t 12))]),
 (i 13 (q [(.reg [o 14 (.call 14 []),o 4 (m 14)]),
 .ret]) .skip)]),
 (.reg [o 16 (la 3 2),o 17 (m 1),o 18 (.call 24 [(t 16),(t 17)]),o 15 (m 18),o 19 (e 15 0),o 20 (e 15 1),o 21 (e 15 2),o 5 (.alloc [(n 0),(.nils 1),(.nils 1)]),w (.store 3 (t 5) (t 19)),o 6 (m 20),o 7 (m 21)]),
 (.reg [o 23 (la 3 2),o 24 (m 1),o 25 (.call 25 [(t 23),(t 24)]),o 22 (m 25),o 26 (e 22 0),o 27 (e 22 1),o 28 (e 22 2),o 8 (.alloc [(n 0),(.nils 1),(.nils 1)]),w (.store 3 (t 8) (t 26)),o 9 (m 27),o 10 (m 28)]),
 (.reg [o 29 (la 3 5),o 30 (la 3 8),o 31 (.call 26 [(t 29),(t 30)]),o 32 (m 31),g 33 32 true (m 6),g 34 32 true (m 9),g 35 32 true (.call 19 [(t 33),(t 34)]),o 36 (pf 32 35),o 37 (m 36),g 38 37 true (m 7),g 39 37 true (m 10),g 40 37 true (b .eql 38 39),o 41 (pf 37 40),o 42 (m 41),g 43 42 true (.call 14 []),o 44 (pf 42 43),o 4 (m 44)]),
 .ret])⟩
end
theorem k_wittinglaw16_IsomorphCanonical:zi Tryz.prog f_wittinglaw16_IsomorphCanonical=some c_wittinglaw16_IsomorphCanonical:=by kernel_rfl
end Go.Ab
namespace Go.Ab
open Go Go.Proofs
set_option maxRecDepth 10000
set_option maxHeartbeats 4000000
variable {T:Nat→Obj→Prop}
theorem law_Canonical (hT:zeM T) (m:KM) (w:Int):Fn Tryz.prog T f_wittinglaw16_IsomorphCanonical [.d (dKM m),.d (.int .i64 w)] [] (.d (.bool true)) []:=by
 have hA:=zwT hT
 have hf:=zw8 (T:=T) m 10
 refine zg zw k_wittinglaw16_IsomorphCanonical (by show 2≤45;decide) ?_
 cases hbw:zo9 m 10 with
 | false =>
  rw [hbw] at hf
  (repeat' ((conv=>whnf);first|refine vA ?_|refine vB fun b hb=>?_|refine vC (fun hl=>?_) fun i kv vv hi=>?_|refine vE ?_|refine vG ?_|refine vH ?_|((first|refine vD ?_ ?_|refine vF ?_ ?_|refine vI ?_ ?_)<;>intro hc<;>try simp only [vL] at hc)|refine vJ fun hg=>?_|refine vK fun hg=>?_|refine vT ?_|refine vN ‹_› ?_|(refine vQ ?_ fun x hx=>?_;·first|omega|(simp only [vM] at *;omega))|((first|refine vO ?_ ?_|refine vR ?_ ‹_› ?_|refine vS ?_ fun x hx=>?_|refine vP ?_ ?_);·first|omega|(simp only [vM] at *;omega))|refine vW ⟨by omega,by omega⟩ ?_|(refine vU ?_ ?_;·kernel_rfl)|refine vX ?_|refine vY ?_|refine vZ ?_|refine yD hf ⟨⟨rfl,rfl⟩,⟨rfl,rfl⟩,rfl⟩ rfl ?_|refine yD hA (by (repeat refine ⟨⟨rfl,rfl⟩,?_⟩);rfl) rfl ?_|refine yN hA (by (repeat refine ⟨⟨rfl,rfl⟩,?_⟩);rfl) ?_|refine za.mk _ ‹_› ?_|refine vP (show (_:BitVec 64)≠_ by decide) ?_));all_goals try conv=>whnf
 | true =>
  rw [hbw] at hf
  have h12:zm m=0→m.W≤12:=fun h0=>by
   have:=of_decide_eq_true hbw
   have w2:=(zB h0).w2
   omega
  have ci:=zwr hT m h12 w
  have cr:=zwe hT m w
  (repeat' ((conv=>whnf);first|refine vA ?_|refine vB fun b hb=>?_|refine vC (fun hl=>?_) fun i kv vv hi=>?_|refine vE ?_|refine vG ?_|refine vH ?_|((first|refine vD ?_ ?_|refine vF ?_ ?_|refine vI ?_ ?_)<;>intro hc<;>try simp only [vL] at hc)|refine vJ fun hg=>?_|refine vK fun hg=>?_|refine vT ?_|refine vN ‹_› ?_|(refine vQ ?_ fun x hx=>?_;·first|omega|(simp only [vM] at *;omega))|((first|refine vO ?_ ?_|refine vR ?_ ‹_› ?_|refine vS ?_ fun x hx=>?_|refine vP ?_ ?_);·first|omega|(simp only [vM] at *;omega))|refine vW ⟨by omega,by omega⟩ ?_|(refine vU ?_ ?_;·kernel_rfl)|refine vX ?_|refine vY ?_|refine vZ ?_|refine yD hf ⟨⟨rfl,rfl⟩,⟨rfl,rfl⟩,rfl⟩ rfl ?_|refine yN ci ⟨⟨rfl,rfl⟩,⟨rfl,rfl⟩,rfl⟩ ?_|refine yN cr ⟨⟨rfl,rfl⟩,⟨rfl,rfl⟩,rfl⟩ ?_|refine yD (zwU _ _) ⟨⟨rfl,rfl⟩,⟨rfl,rfl⟩,rfl⟩ rfl ?_|refine yD (zws _ _) ⟨⟨rfl,rfl⟩,⟨rfl,rfl⟩,rfl⟩ rfl ?_|refine yD hA (by (repeat refine ⟨⟨rfl,rfl⟩,?_⟩);rfl) rfl ?_|refine yN hA (by (repeat refine ⟨⟨rfl,rfl⟩,?_⟩);rfl) ?_|refine za.mk _ ‹_› ?_|refine vP (show (_:BitVec 64)≠_ by decide) ?_));all_goals try conv=>whnf
  ·exact absurd trivial ‹¬True›
  ·rw [beq_self_eq_true] at hc;cases hc
  ·exact absurd trivial ‹¬True›
end Go.Ab
namespace Go.Proofs.YtjpgnjhdeikncaaGreatDoor
open Go Go.Ab Go.RowKit Go.ChangeShapes Go.WideShapes
set_option maxRecDepth 100000 in
theorem isomorphCanonical_holds:Rows.IsomorphCanonicalSaid :=
 OpenClaim.holds_of_wide 5 Tryz.f5 rfl rfl rfl rfl rfl rfl rfl ⟨rfl,rfl,rfl,rfl,rfl⟩ rfl rfl rfl rfl rfl (by kernel_rfl) Tryz.func5 (by kernel_rfl)
  (of_decide_eq_true (by kernel_rfl)) (by unfold Func.isWrapper;rw [if_neg (of_decide_eq_false (by kernel_rfl))];exact ⟨rfl,rfl⟩)
  (fun os started H enc _=>zwW (C:=Tryz.checked) (s:=Rows.isomorphCanonicalSpec) (laid:=laidL) knob started (by kernel_rfl) Tryz.func5 laidOut [25,3] Tryz.params5 rfl Tryz.underlying4 rfl (by kernel_rfl)
   (fun ds hds=>by match ds,hds with|[d1,d2],_=>rfl)
   (ChangeSpec.witness_shaped (enc:=enc) (C:=Tryz.checked) (os:=os) (X:=fun w _=>laidMetH Tryz.prog laidL w) false (World.doorLaid Tryz.prog 14 os)
    #[.agg #[.int .i64 0,.slice none 0 0,.slice none 0 0],.int .i64 0] 8 rfl (World.shaped_of_RefB (by kernel_rfl) (by kernel_rfl)) (by kernel_rfl) (by kernel_rfl) (by kernel_rfl) (door_met os _))
   (fun W hL=>⟨TOf W,(zxa hL).1,(zxa hL).2,fun ds hds=>by
    obtain ⟨m1,r,rfl,hm1,k1⟩:=zw1 hds
    obtain ⟨a2,r,rfl,ha2,k2⟩:=zw7 k1
    obtain rfl:=zxc k2
    exact law_Canonical (tz_of hL) m1 a2⟩))
theorem isomorphCanonical_card:Rows.IsomorphCanonicalCardSaid :=
 Claim7.holds_tied_plain_at .later [] [.data] true (true, "c96b12866c1abf5fdfd17610126ecda506524b3457cc7270fbd11550e856ea1c") false
  isomorphCanonical_holds (fun _ h=>by cases h) (by kernel_rfl) (fun _ h=>by cases h) isomorphCanonical_row_tie rfl ⟨rfl,rfl⟩ (by kernel_rfl) rfl
  (fun f fn hf hfn=>by
   obtain rfl:f=5:=Option.some.inj ((show Tryz.prog.funcNamed Rows.isomorphCanonicalRow.func=some 5 by kernel_rfl).symm.trans hf) |>.symm
   obtain rfl:fn=Tryz.f5:=(Option.some.inj (Tryz.func5.symm.trans hfn)).symm
   exact ⟨by kernel_rfl,fun j t ht=>by
    rw [Tryz.params5] at ht
    have hm:t∈[25,3]:=by
     have:=List.mem_of_getElem? (l:=[25,3]) (i:=j) (by simpa using ht)
     exact this
    have hall:([25,3].all fun t=>Tryz.prog.wantsStandIn t==false)=true:=by kernel_rfl
    exact eq_of_beq (List.all_eq_true.1 hall t hm)⟩)
  (by kernel_rfl)
end Go.Proofs.YtjpgnjhdeikncaaGreatDoor
