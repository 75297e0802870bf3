/- What is proved here: the law IsomorphAgain returns true at every input and leaves its arguments as they were. The condition is the row own: the listed table of math bits holds what the text lays. -/
import Derived.Test.YtjpgnjhdeikncaaDoorMG
set_option linter.unusedVariables false
set_option linter.unusedSimpArgs false
set_option linter.unusedSectionVars false
namespace Go.Ab
open Go Go.Proofs
section
open K
def f_wittinglaw16_IsomorphAgain:Nat:=3
def c_wittinglaw16_IsomorphAgain:CFn:=⟨61,[.tmp 4],(q [(.reg [o 2 (.box 3 (t 0)),o 4 (.mv (c .bf))]),
 (q [(.reg [o 13 (la 3 2),o 14 (.call 5 [(t 13),(c (n 10))]),o 15 (.un .not (t 14))]),
 (i 15 (q [(.reg [o 16 (.call 6 []),o 4 (m 16)]),
 .ret]) .skip)]),
 (.reg [o 18 (la 3 2),o 19 (m 1),o 20 (.call 7 [(t 18),(t 19)]),o 17 (m 20),o 21 (e 17 0),o 22 (e 17 1),o 23 (e 17 2),o 5 (.alloc [(n 0),(.nils 1),(.nils 1)]),w (.store 3 (t 5) (t 21)),o 6 (m 22),o 7 (m 23)]),
 (q [(.reg [o 24 (m 7),o 25 (bc .neq 24 (n 0))]),
 (i 25 (q [(.reg [o 26 (.call 6 []),o 4 (m 26)]),
 .ret]) .skip)]),
 (.reg [o 28 (la 3 5),o 29 (.call 7 [(t 28),(c (n 0))]),o 27 (m 29),o 30 (e 27 0),o 31 (e 27 1),o 32 (e 27 2),o 8 (.alloc [(n 0),(.nils 1),(.nils 1)]),w (.store 3 (t 8) (t 30)),o 9 (m 31),o 10 (m 32)]),
 (q [(.reg [o 33 (m 9),o 34 (ln 33),o 35 (.mv (c (n 0)))]),
 (.block 0 (.loop (q [(.reg [o 36 (b .lss 35 34)]),
 (i 36 .skip (.exit 0)),
 (.block 1 (q [(.reg [o 37 (m 35),o 38 (ia 1 33 35),o 39 (l 38),o 11 (m 37),o 12 (m 39)]),
 (.reg [o 40 (m 12),o 41 (m 11),o 42 (b .neq 40 41)]),
 (i 42 (q [(.reg [o 4 (.mv (c .bf))]),
 .ret]) .skip)])),
 (.reg [o 43 (bc .add 35 (n 1)),o 35 (m 43)])])))]),
 (.reg [o 44 (m 10),o 45 (bc .eql 44 (n 0)),o 46 (m 45),g 47 46 true (m 9),g 48 46 true (ln 47),g 49 46 true (f 0 5),g 50 46 true (l 49),g 51 46 true (b .eql 48 50),o 52 (pf 46 51),o 53 (m 52),g 54 53 true (la 3 5),g 55 53 true (la 3 8),g 56 53 true (.call 8 [(t 54),(t 55)]),o 57 (pf 53 56),o 58 (m 57),g 59 58 true (.call 6 []),o 60 (pf 58 59),o 4 (m 60)]),
 .ret])⟩
end
theorem k_wittinglaw16_IsomorphAgain:zo Tryd.prog f_wittinglaw16_IsomorphAgain=some c_wittinglaw16_IsomorphAgain:=by kernel_rfl
end Go.Ab
namespace Go.Ab
open Go Go.Proofs
set_option maxRecDepth 10000
set_option maxHeartbeats 4000000
variable {T:Nat→Obj→Prop}
theorem law_Again (hT:zeI T) (m:KM) (w:Int):Fn Tryd.prog T f_wittinglaw16_IsomorphAgain [.d (dKM m),.d (.int .i64 w)] [] (.d (.bool true)) []:=by
 have hA:=ztP hT
 have hf:=zt3 (T:=T) m 10
 cases hbw:zmT m 10 with
 | false =>
  rw [hbw] at hf
  refine zq zL k_wittinglaw16_IsomorphAgain (by show 2≤61;decide) ?_
  (repeat' ((conv=>whnf);first|refine vA ?_|refine vB fun b hb=>?_|refine vC (fun hl=>?_) fun i kv vv hi=>?_|refine vE ?_|refine vG ?_|refine vH ?_|((first|refine vD ?_ ?_|refine vF ?_ ?_|refine vI ?_ ?_)<;>intro hc<;>try simp only [vL] at hc)|refine vJ fun hg=>?_|refine vK fun hg=>?_|refine vT ?_|refine vN ‹_› ?_|(refine vQ ?_ fun x hx=>?_;·first|omega|(simp only [vM] at *;omega))|((first|refine vO ?_ ?_|refine vR ?_ ‹_› ?_|refine vS ?_ fun x hx=>?_|refine vP ?_ ?_);·first|omega|(simp only [vM] at *;omega))|refine vW ⟨by omega,by omega⟩ ?_|(refine vU ?_ ?_;·kernel_rfl)|refine vX ?_|refine vY ?_|refine vZ ?_|refine yD hf ⟨⟨rfl,rfl⟩,⟨rfl,rfl⟩,rfl⟩ rfl ?_|refine yD hA (by (repeat refine ⟨⟨rfl,rfl⟩,?_⟩);rfl) rfl ?_|refine yN hA (by (repeat refine ⟨⟨rfl,rfl⟩,?_⟩);rfl) ?_|refine zc.mk _ ‹_› ?_|refine vP (show (_:BitVec 64)≠_ by decide) ?_));all_goals try conv=>whnf
 | true =>
  rw [hbw] at hf
  have h12:zn m=0→m.W≤12:=fun h0=>by
   have:=of_decide_eq_true hbw
   have w2:=(zJ h0).w2
   omega
  have c1:=ztp hT m h12 w
  by_cases he:(zf4 m w).2.2=0
  ·have hk0:zn m=0:=Classical.byContradiction fun h=>by
    rw [zf4,if_pos h] at he;exact h he
   have hg0:=zJ hk0
   have w1:=hg0.w1;have w2:=hg0.w2
   have h12:=h12 hk0
   have hwr : ¬(w < 0∨m.W≤w):=fun h=>by
    rw [zf4,if_neg (by omega),if_pos h] at he;cases he
   obtain ⟨w,rfl⟩ : ∃ v:Nat,w=(v:Int):=⟨w.toNat,by omega⟩
   have hwl:w < m.W.toNat:=by omega
   have hcan:=zsG hk0 hwl
   have hmin:zd2 (zp m (zaH m.W.toNat (zw m) w))=true:=by
    cases h:zd2 (zp m (zaH m.W.toNat (zw m) w)) with
    | true=>rfl
    | false=>rw [hcan,h,if_pos rfl] at he;cases he
   rw [hmin,if_neg (by decide)] at hcan
   have hfix:=zt2 hk0 hwl hmin
   obtain ⟨k1,-,-,-,-,-⟩:=zlm (zcW m.W.toNat (zw m) w) (zcl hwl) (zln hk0 hwl hmin)
   have hlen:=zgs (n:=m.W.toNat) (R:=zw m) (w:=w)
   change (zU m w).length=_ at k1
   rw [hcan] at c1
   have c2:=ztp hT (zp m (zU m w)) (fun _=>by show ((zU m w).length:Int)≤12;omega) 0
   rw [hfix] at c2
   generalize zU m w=c at *
   have hAW:(zp m c).W=(c.length:Int):=rfl
   dsimp only at c1 c2
   have hrl:(List.range c.length).length=c.length:=List.length_range
   refine zq zL k_wittinglaw16_IsomorphAgain (by show 2≤61;decide) ?_
   (repeat' ((conv=>whnf);first|refine vA ?_|refine vB fun b hb=>?_|refine vC (fun hl=>?_) fun i kv vv hi=>?_|refine vE ?_|refine vG ?_|refine vH ?_|((first|refine vD ?_ ?_|refine vF ?_ ?_|refine vI ?_ ?_)<;>intro hc<;>try simp only [vL] at hc)|refine vJ fun hg=>?_|refine vK fun hg=>?_|refine vT ?_|refine vN ‹_› ?_|(refine vQ ?_ fun x hx=>?_;·first|omega|(simp only [vM] at *;omega))|((first|refine vO ?_ ?_|refine vR ?_ ‹_› ?_|refine vS ?_ fun x hx=>?_|refine vP ?_ ?_);·first|omega|(simp only [vM] at *;omega))|refine vW ⟨by omega,by omega⟩ ?_|(refine vU ?_ ?_;·kernel_rfl)|refine vX ?_|refine vY ?_|refine vZ ?_|refine yD hf ⟨⟨rfl,rfl⟩,⟨rfl,rfl⟩,rfl⟩ rfl ?_|refine yD hA (by (repeat refine ⟨⟨rfl,rfl⟩,?_⟩);rfl) rfl ?_|refine yN hA (by (repeat refine ⟨⟨rfl,rfl⟩,?_⟩);rfl) ?_|refine yN c1 ⟨⟨rfl,rfl⟩,⟨rfl,rfl⟩,rfl⟩ ?_|refine yN c2 ⟨⟨rfl,rfl⟩,⟨rfl,rfl⟩,rfl⟩ ?_|refine zc.mk _ ‹_› ?_|refine vP (show (_:BitVec 64)≠_ by decide) ?_));all_goals try conv=>whnf
   refine zD (fun (k:Nat)=>[(5,.ptr 0 0),(8,.ptr 1 0),(9,.d (dN (List.range c.length))),(10,.d (.int .i64 ((0:Int)))),(33,.d (dN (List.range c.length))),(34,.d (.int .i64 ((((List.range c.length).map fun (x:Nat)=>(x:Int)).map (D.int .i64)).length:Int))),(35,.d (.int .i64 ((k:Int))))]) (fun (k:Nat)=>[(0,some (zdS (zp m c))),(1,some (zdS (zp m c)))]) 2 (fun (k:Nat)=>k≤c.length) (fun (k:Nat)=>c.length - k) (0) [(0,1),(1,2)] [] (by omega) (by (refine ⟨rfl,rfl,rfl,?_,?_⟩;repeat' first|exact trivial|exact rfl|exact ⟨_,rfl⟩|exact .inl rfl|exact .inr (.inl ⟨rfl,rfl⟩)|exact .inr (.inr ⟨rfl,rfl⟩)|refine And.intro ?_ ?_|refine ⟨_,rfl,?_⟩|decide|exact of_decide_eq_true rfl)) ?_
   rintro k hk
   by_cases hkl:k < c.length
   ·have ek:((List.range c.length).map fun (x:Nat)=>(x:Int))[k]? = some (k:Int):=by rw [List.getElem?_map,List.getElem?_range hkl];rfl
    (repeat' ((conv=>whnf);first|refine vA ?_|refine vB fun b hb=>?_|refine vC (fun hl=>?_) fun i kv vv hi=>?_|refine vE ?_|refine vG ?_|refine vH ?_|((first|refine vD ?_ ?_|refine vF ?_ ?_|refine vI ?_ ?_)<;>intro hc<;>try simp only [vL] at hc)|refine vJ fun hg=>?_|refine vK fun hg=>?_|refine vT ?_|refine vN ‹_› ?_|(refine vQ ?_ fun x hx=>?_;·first|omega|(simp only [vM] at *;omega))|((first|refine vO ?_ ?_|refine vR ?_ ‹_› ?_|refine vS ?_ fun x hx=>?_|refine vP ?_ ?_);·first|omega|(simp only [vM] at *;omega))|refine vW ⟨by omega,by omega⟩ ?_|(refine vU ?_ ?_;·kernel_rfl)|refine vX ?_|refine vY ?_|refine vZ ?_|refine zc.mk _ ‹_› ?_|refine vP (show (_:BitVec 64)≠_ by decide) ?_));all_goals try conv=>whnf
    ·exact absurd rfl ‹(k:Int)≠k›
    ·refine ⟨k+1,[(0,0),(1,1)],[],?_,?_,by (refine ⟨rfl,rfl,rfl,?_,?_⟩;repeat' first|exact trivial|exact rfl|exact ⟨_,rfl⟩|exact .inl rfl|exact .inr (.inl ⟨rfl,rfl⟩)|exact .inr (.inr ⟨rfl,rfl⟩)|refine And.intro ?_ ?_|refine ⟨_,rfl,?_⟩|decide|exact of_decide_eq_true rfl)⟩
     ·omega
     ·(first|omega|(simp only [vM] at *;omega))
    all_goals (exfalso;omega)
   ·(repeat' ((conv=>whnf);first|refine vA ?_|refine vB fun b hb=>?_|refine vC (fun hl=>?_) fun i kv vv hi=>?_|refine vE ?_|refine vG ?_|refine vH ?_|((first|refine vD ?_ ?_|refine vF ?_ ?_|refine vI ?_ ?_)<;>intro hc<;>try simp only [vL] at hc)|refine vJ fun hg=>?_|refine vK fun hg=>?_|refine vT ?_|refine vN ‹_› ?_|(refine vQ ?_ fun x hx=>?_;·first|omega|(simp only [vM] at *;omega))|((first|refine vO ?_ ?_|refine vR ?_ ‹_› ?_|refine vS ?_ fun x hx=>?_|refine vP ?_ ?_);·first|omega|(simp only [vM] at *;omega))|refine vW ⟨by omega,by omega⟩ ?_|(refine vU ?_ ?_;·kernel_rfl)|refine vX ?_|refine vY ?_|refine vZ ?_|refine yD (ztQ _ _) ⟨⟨rfl,rfl⟩,⟨rfl,rfl⟩,rfl⟩ rfl ?_|refine yD hA (by (repeat refine ⟨⟨rfl,rfl⟩,?_⟩);rfl) rfl ?_|refine yN hA (by (repeat refine ⟨⟨rfl,rfl⟩,?_⟩);rfl) ?_|refine zc.mk _ ‹_› ?_|refine vP (show (_:BitVec 64)≠_ by decide) ?_));all_goals try conv=>whnf
    all_goals first|(exfalso;omega)|exact absurd trivial ‹¬True›|skip
  ·refine zq zL k_wittinglaw16_IsomorphAgain (by show 2≤61;decide) ?_
   (repeat' ((conv=>whnf);first|refine vA ?_|refine vB fun b hb=>?_|refine vC (fun hl=>?_) fun i kv vv hi=>?_|refine vE ?_|refine vG ?_|refine vH ?_|((first|refine vD ?_ ?_|refine vF ?_ ?_|refine vI ?_ ?_)<;>intro hc<;>try simp only [vL] at hc)|refine vJ fun hg=>?_|refine vK fun hg=>?_|refine vT ?_|refine vN ‹_› ?_|(refine vQ ?_ fun x hx=>?_;·first|omega|(simp only [vM] at *;omega))|((first|refine vO ?_ ?_|refine vR ?_ ‹_› ?_|refine vS ?_ fun x hx=>?_|refine vP ?_ ?_);·first|omega|(simp only [vM] at *;omega))|refine vW ⟨by omega,by omega⟩ ?_|(refine vU ?_ ?_;·kernel_rfl)|refine vX ?_|refine vY ?_|refine vZ ?_|refine yD hf ⟨⟨rfl,rfl⟩,⟨rfl,rfl⟩,rfl⟩ rfl ?_|refine yD hA (by (repeat refine ⟨⟨rfl,rfl⟩,?_⟩);rfl) rfl ?_|refine yN hA (by (repeat refine ⟨⟨rfl,rfl⟩,?_⟩);rfl) ?_|refine yN c1 ⟨⟨rfl,rfl⟩,⟨rfl,rfl⟩,rfl⟩ ?_|refine zc.mk _ ‹_› ?_|refine vP (show (_:BitVec 64)≠_ by decide) ?_));all_goals try conv=>whnf
   all_goals exact absurd ‹(zf4 m w).2.2=0› he
end Go.Ab
namespace Go.Proofs.YtjpgnjhdeikncaaDoor
open Go Go.Ab Go.RowKit Go.ChangeShapes Go.WideShapes
set_option maxRecDepth 100000 in
theorem isomorphAgain_holds:Rows.IsomorphAgainSaid :=
 OpenClaim.holds_of_wide 3 Tryd.f3 rfl rfl rfl rfl rfl rfl rfl ⟨rfl,rfl,rfl,rfl,rfl⟩ rfl rfl rfl rfl rfl (by kernel_rfl) Tryd.func3 (by kernel_rfl)
  (of_decide_eq_true (by kernel_rfl)) (by unfold Func.isWrapper;rw [if_neg (of_decide_eq_false (by kernel_rfl))];exact ⟨rfl,rfl⟩)
  (fun os started H enc _=>ztS (C:=Tryd.checked) (s:=Rows.isomorphAgainSpec) (laid:=laidL) knob started (by kernel_rfl) Tryd.func3 laidOut [25,3] Tryd.params3 rfl Tryd.underlying4 rfl (by kernel_rfl)
   (fun ds hds=>by match ds,hds with|[d1,d2],_=>rfl)
   (ChangeSpec.witness_shaped (enc:=enc) (C:=Tryd.checked) (os:=os) (X:=fun w _=>laidMetH Tryd.prog laidL w) false (World.doorLaid Tryd.prog 14 os)
    #[.agg #[.int .i64 0,.slice none 0 0,.slice none 0 0],.int .i64 0] 8 rfl (World.shaped_of_RefB (by kernel_rfl) (by kernel_rfl)) (by kernel_rfl) (by kernel_rfl) (by kernel_rfl) (door_met os _))
   (fun W hL=>⟨TOf W,(zt5 hL).1,(zt5 hL).2,fun ds hds=>by
    obtain ⟨m1,r,rfl,hm1,k1⟩:=ztW hds
    obtain ⟨a2,r,rfl,ha2,k2⟩:=zt1 k1
    obtain rfl:=zt9 k2
    exact law_Again (tz_of hL) m1 a2⟩))
theorem isomorphAgain_card:Rows.IsomorphAgainCardSaid :=
 Claim7.holds_tied_plain_at .later [] [.data] true (true, "1d1f4d3b1fd1bb478d7d32142ca25e0cd351fab150e81bd84dd8c9645efcba72") false
  isomorphAgain_holds (fun _ h=>by cases h) (by kernel_rfl) (fun _ h=>by cases h) isomorphAgain_row_tie rfl ⟨rfl,rfl⟩ (by kernel_rfl) rfl
  (fun f fn hf hfn=>by
   obtain rfl:f=3:=Option.some.inj ((show Tryd.prog.funcNamed Rows.isomorphAgainRow.func=some 3 by kernel_rfl).symm.trans hf) |>.symm
   obtain rfl:fn=Tryd.f3:=(Option.some.inj (Tryd.func3.symm.trans hfn)).symm
   exact ⟨by kernel_rfl,fun j t ht=>by
    rw [Tryd.params3] at ht
    have hm:t∈[25,3]:=by
     have:=List.mem_of_getElem? (l:=[25,3]) (i:=j) (by simpa using ht)
     exact this
    have hall:([25,3].all fun t=>Tryd.prog.wantsStandIn t==false)=true:=by kernel_rfl
    exact eq_of_beq (List.all_eq_true.1 hall t hm)⟩)
  (by kernel_rfl)
end Go.Proofs.YtjpgnjhdeikncaaDoor
