/- What is proved here: the law IsomorphChecks returns true at every input and leaves its arguments as they were. The condition is the row own: the listed table of math bits holds what the text lays. -/
import Derived.Test.YtjpgnjhdeikncaaGreatDoorMH
set_option linter.unusedVariables false
set_option linter.unusedSimpArgs false
set_option linter.unusedSectionVars false
namespace Go.Ab
open Go Go.Proofs
section
open K
def f_wittinglaw16_IsomorphChecks:Nat:=4
def c_wittinglaw16_IsomorphChecks:CFn:=⟨81,[.tmp 6],(q [(.reg [o 3 (.box 3 (t 0)),o 4 (.box 3 (t 1)),o 6 (.mv (c .bf))]),
 (q [(.reg [o 11 (la 3 3),o 12 (.call 13 [(t 11),(c (n 14))]),o 13 (.un .not (t 12)),o 14 (m 13),g 15 14 false (la 3 4),g 16 14 false (.call 13 [(t 15),(c (n 14))]),g 17 14 false (.un .not (t 16)),o 18 (pt 14 17),o 19 (m 18),g 20 19 false (m 2),g 21 19 false (ln 20),g 22 19 false (bc .gtr 21 (n 20)),o 23 (pt 19 22)]),
 (i 23 (q [(.reg [o 24 (.call 14 []),o 6 (m 24)]),
 .ret]) .skip)]),
 (q [(.regd [o 25 (la 3 3),o 26 (la 3 4),o 27 (m 2),o 28 (.call 20 [(t 25),(t 26),(t 27)]),o 29 (la 3 3),o 30 (la 3 4),o 31 (m 2),o 32 (.call 21 [(t 29),(t 30),(t 31)]),o 33 (b .neq 28 32)] [0,0,0,7,0,0,0,127,255]),
 (i 33 (q [(.reg [o 6 (.mv (c .bf))]),
 .ret]) .skip)]),
 (q [(.reg [o 34 (f 0 3),o 35 (l 34),o 36 (bc .gtr 35 (n 8)),o 37 (m 36),g 38 37 true (f 0 3),g 39 37 true (l 38),g 40 37 true (bc .leq 39 (n 12)),o 41 (pf 37 40)]),
 (i 41 (q [(.reg [o 42 (.call 14 []),o 6 (m 42)]),
 .ret]) .skip)]),
 (.reg [o 44 (la 3 3),o 45 (la 3 4),o 46 (.call 22 [(t 44),(t 45)]),o 43 (m 46),o 47 (e 43 0),o 48 (e 43 1),o 7 (m 47),o 8 (m 48)]),
 (.reg [o 50 (la 3 3),o 51 (la 3 4),o 52 (.call 23 [(t 50),(t 51)]),o 49 (m 52),o 53 (e 49 0),o 54 (e 49 1),o 9 (m 53),o 10 (m 54)]),
 (.reg [o 55 (m 8),o 56 (m 10),o 57 (b .eql 55 56),o 58 (m 57),g 59 58 true (m 8),g 60 58 true (bc .eql 59 (n 0)),g 61 58 true (m 60),g 62 61 true (la 3 3),g 63 61 true (la 3 4),g 64 61 true (m 7),g 65 61 true (.call 21 [(t 62),(t 63),(t 64)]),g 66 61 true (bc .eql 65 (n 0)),g 67 58 true (pf 61 66),g 68 58 true (m 67),g 69 68 false (m 8),g 70 68 false (bc .neq 69 (n 0)),g 71 68 false (m 70),g 72 71 true (m 7),g 73 71 true (ln 72),g 74 71 true (bc .eql 73 (n 0)),g 75 68 false (pf 71 74),g 76 58 true (pt 68 75),o 77 (pf 58 76),o 78 (m 77),g 79 78 true (.call 14 []),o 80 (pf 78 79),o 6 (m 80)]),
 .ret])⟩
end
theorem k_wittinglaw16_IsomorphChecks:zi Tryz.prog f_wittinglaw16_IsomorphChecks=some c_wittinglaw16_IsomorphChecks:=by kernel_rfl
end Go.Ab
namespace Go.Ab
open Go Go.Proofs
set_option maxRecDepth 10000
set_option maxHeartbeats 4000000
variable {T:Nat→Obj→Prop}
theorem found_iso {a b:KM} (ha:zj a=0) (hb:zj b=0) (hW:a.W=b.W) (hv:a.val.length=b.val.length) (hr:a.rel.length=b.rel.length) {y:List Nat} (hy:y∈dfs (okM a b) a.W.toNat a.W.toNat []):zaJ a b (y.map fun (x:Nat)=>(x:Int))=0:=by
 obtain ⟨hl,hi⟩:=(zr5 (R':=zu b) (R:=zu a) (by rw [ziG,ziG];exact hr.symm)).1 hy
 have he:y.map (fun (x:Nat)=>(x:Int))=ptL a.W.toNat (fnL y):=by
  refine List.ext_getElem? fun i=>?_
  by_cases h:i < a.W.toNat
  ·rw [ze1 (by omega),zez h]
  ·rw [List.getElem?_eq_none (by simp;omega),List.getElem?_eq_none (by simp [zks];omega)]
 have hp:z1 (y.map fun (x:Nat)=>(x:Int)) a.W.toNat=true:=by rw [he];exact zwp hi.ren
 have h0:z7 a b=0:=by unfold z7;simp [ha,hb,hr,hv]
 rw [zaJ,if_neg (by omega),if_neg (by omega),if_neg (by rw [hp];decide),if_pos]
 rw [ztD hr.symm hp]
 exact hi.congr fun w hw=>by rw [he];exact zws hw
theorem iso_res (a b:KM):(zgl a b).2=(zeW a b).2∧((zgl a b).2=0→zaJ a b (zgl a b).1=0)∧((zgl a b).2≠0→(zgl a b).1=[]):=by
 by_cases h1:z7 a b=0
 ·obtain ⟨ha,hb,hr,hv⟩:=zg0 h1
  have hn : ¬z7 a b≠0:=by omega
  rw [zgl,if_neg hn,zeW,if_neg hn]
  by_cases h2:12 < a.W∨12 < b.W
  ·rw [if_pos h2,if_pos h2];exact ⟨rfl,fun h=>(by cases h),fun _=>rfl⟩
  ·rw [if_neg h2,if_neg h2]
   by_cases h3:a.W=b.W
   ·rw [if_neg (not_not_intro h3),if_neg (not_not_intro h3)]
    have hc:(dfs (okM a b) a.W.toNat a.W.toNat []).length=(dfs (okR a b) a.W.toNat a.W.toNat []).length:=zr4 (by rw [ziG,ziG];exact hr.symm)
    cases hM:dfs (okM a b) a.W.toNat a.W.toNat [] with
    | nil =>
     rw [hM] at hc
     rw [List.eq_nil_of_length_eq_zero hc.symm]
     exact ⟨rfl,fun h=>(by cases h),fun _=>rfl⟩
    | cons y l =>
     rw [hM] at hc
     cases hR:dfs (okR a b) a.W.toNat a.W.toNat [] with
     | nil=>rw [hR] at hc;simp at hc
     | cons z l'=>exact ⟨rfl,fun _=>found_iso ha hb h3 hv hr (by rw [hM];simp),fun h=>absurd rfl h⟩
   ·rw [if_pos h3,if_pos h3];exact ⟨rfl,fun h=>(by cases h),fun _=>rfl⟩
 ·rw [zgl,if_pos h1,zeW,if_pos h1];exact ⟨rfl,fun h=>absurd h h1,fun _=>rfl⟩
theorem law_Checks (hT:zeN T) (a b:KM) (to:List Int):Fn Tryz.prog T f_wittinglaw16_IsomorphChecks [.d (dKM a),.d (dKM b),.d (dI to)] [] (.d (.bool true)) []:=by
 have hA:=zv7 hT
 have h1:=zvv hT a b
 have h2:=zu0 (T:=T) a b
 have h3:=zvW (T:=T) a b (zgl a b).1
 have h4:=zvW (T:=T) a b to
 obtain ⟨e1,e2,e3⟩:=iso_res a b
 rw [← e1] at h2
 have e4:(zgl a b).2≠0→((zgl a b).1.length:Int)=0:=fun h=>by rw [e3 h];rfl
 clear e1 e3
 refine zg zp k_wittinglaw16_IsomorphChecks (by show 3≤81;decide) ?_
 (repeat' ((conv=>whnf);first|refine vA ?_|refine vB fun b hb=>?_|refine vC (fun hl=>?_) fun i kv vv hi=>?_|refine vE ?_|refine vG ?_|refine vH ?_|((first|refine vD ?_ ?_|refine vF ?_ ?_|refine vI ?_ ?_)<;>intro hc<;>try simp only [vL] at hc)|refine vJ fun hg=>?_|refine vK fun hg=>?_|refine vT ?_|refine vN ‹_› ?_|(refine vQ ?_ fun x hx=>?_;·first|omega|(simp only [vM] at *;omega))|((first|refine vO ?_ ?_|refine vR ?_ ‹_› ?_|refine vS ?_ fun x hx=>?_|refine vP ?_ ?_);·first|omega|(simp only [vM] at *;omega))|refine vW ⟨by omega,by omega⟩ ?_|(refine vU ?_ ?_;·kernel_rfl)|refine vX ?_|refine vY ?_|refine vZ ?_|refine yD (zwo _ _) ⟨⟨rfl,rfl⟩,⟨rfl,rfl⟩,rfl⟩ rfl ?_|refine yD (zwi _ _ _) ⟨⟨rfl,rfl⟩,⟨rfl,rfl⟩,⟨rfl,rfl⟩,rfl⟩ rfl ?_|refine yD h4 ⟨⟨rfl,rfl⟩,⟨rfl,rfl⟩,⟨rfl,rfl⟩,rfl⟩ rfl ?_|refine yD hA (by (repeat refine ⟨⟨rfl,rfl⟩,?_⟩);rfl) rfl ?_|refine yN hA (by (repeat refine ⟨⟨rfl,rfl⟩,?_⟩);rfl) ?_|refine yN h1 ⟨⟨rfl,rfl⟩,⟨rfl,rfl⟩,rfl⟩ ?_|refine yN h2 ⟨⟨rfl,rfl⟩,⟨rfl,rfl⟩,rfl⟩ ?_|refine yD h3 ⟨⟨rfl,rfl⟩,⟨rfl,rfl⟩,⟨rfl,rfl⟩,rfl⟩ rfl ?_|refine za.mk _ ‹_› ?_|refine vP (show (_:BitVec 64)≠_ by decide) ?_));all_goals try conv=>whnf
 ·exact absurd rfl ‹zaJ a b to≠_›
 all_goals first|(exfalso;omega)|exact absurd trivial ‹¬True›|skip
end Go.Ab
namespace Go.Proofs.YtjpgnjhdeikncaaGreatDoor
open Go Go.Ab Go.RowKit Go.ChangeShapes Go.WideShapes
set_option maxRecDepth 100000 in
theorem isomorphChecks_holds:Rows.IsomorphChecksSaid :=
 OpenClaim.holds_of_wide 4 Tryz.f4 rfl rfl rfl rfl rfl rfl rfl ⟨rfl,rfl,rfl,rfl,rfl⟩ rfl rfl rfl rfl rfl (by kernel_rfl) Tryz.func4 (by kernel_rfl)
  (of_decide_eq_true (by kernel_rfl)) (by unfold Func.isWrapper;rw [if_neg (of_decide_eq_false (by kernel_rfl))];exact ⟨rfl,rfl⟩)
  (fun os started H enc _=>zwb (C:=Tryz.checked) (s:=Rows.isomorphChecksSpec) (laid:=laidL) knob started (by kernel_rfl) Tryz.func4 laidOut [25,25,28] Tryz.params4 rfl Tryz.underlying4 rfl (by kernel_rfl)
   (fun ds hds=>by match ds,hds with|[d1,d2,d3],_=>rfl)
   (ChangeSpec.witness_shaped (enc:=enc) (C:=Tryz.checked) (os:=os) (X:=fun w _=>laidMetH Tryz.prog laidL w) false (World.doorLaid Tryz.prog 14 os)
    #[.agg #[.int .i64 0,.slice none 0 0,.slice none 0 0],.agg #[.int .i64 0,.slice none 0 0,.slice none 0 0],.slice none 0 0] 8 rfl (World.shaped_of_RefB (by kernel_rfl) (by kernel_rfl)) (by kernel_rfl) (by kernel_rfl) (by kernel_rfl) (door_met os _))
   (fun W hL=>⟨TOf W,(zwr hL).1,(zwr hL).2,fun ds hds=>by
    obtain ⟨m1,r,rfl,hm1,k1⟩:=zwg hds
    obtain ⟨m2,r,rfl,hm2,k2⟩:=zwg k1
    obtain ⟨l3,r,rfl,hl3,k3⟩:=zwk k2
    obtain rfl:=zwu k3
    exact law_Checks (tz_of hL) m1 m2 l3⟩))
theorem isomorphChecks_card:Rows.IsomorphChecksCardSaid :=
 Claim7.holds_tied_plain_at .later [] [.data] true (true, "c96b12866c1abf5fdfd17610126ecda506524b3457cc7270fbd11550e856ea1c") false
  isomorphChecks_holds (fun _ h=>by cases h) (by kernel_rfl) (fun _ h=>by cases h) isomorphChecks_row_tie rfl ⟨rfl,rfl⟩ (by kernel_rfl) rfl
  (fun f fn hf hfn=>by
   obtain rfl:f=4:=Option.some.inj ((show Tryz.prog.funcNamed Rows.isomorphChecksRow.func=some 4 by kernel_rfl).symm.trans hf) |>.symm
   obtain rfl:fn=Tryz.f4:=(Option.some.inj (Tryz.func4.symm.trans hfn)).symm
   exact ⟨by kernel_rfl,fun j t ht=>by
    rw [Tryz.params4] at ht
    have hm:t∈[25,25,28]:=by
     have:=List.mem_of_getElem? (l:=[25,25,28]) (i:=j) (by simpa using ht)
     exact this
    have hall:([25,25,28].all fun t=>Tryz.prog.wantsStandIn t==false)=true:=by kernel_rfl
    exact eq_of_beq (List.all_eq_true.1 hall t hm)⟩)
  (by kernel_rfl)
end Go.Proofs.YtjpgnjhdeikncaaGreatDoor
