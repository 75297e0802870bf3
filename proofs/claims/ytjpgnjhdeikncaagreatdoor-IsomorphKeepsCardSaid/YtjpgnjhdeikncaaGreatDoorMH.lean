/- What is proved here: the law IsomorphKeeps returns true at every input and leaves its arguments as they were. The condition is the row own: the listed table of math bits holds what the text lays. -/
import Derived.Test.YtjpgnjhdeikncaaGreatDoorMG
set_option linter.unusedVariables false
set_option linter.unusedSimpArgs false
set_option linter.unusedSectionVars false
namespace Go.Ab
open Go Go.Proofs
section
open K
def f_wittinglaw16_IsomorphKeeps:Nat:=6
def c_wittinglaw16_IsomorphKeeps:CFn:=⟨141,[.tmp 4],(q [(.reg [o 2 (.box 3 (t 0)),o 4 (.mv (c .bf))]),
 (q [(.reg [o 20 (la 3 2),o 21 (.call 13 [(t 20),(c (n 7))]),o 22 (.un .not (t 21)),o 23 (m 22),g 24 23 false (la 3 2),g 25 23 false (.call 27 [(t 24)]),g 26 23 false (bc .neq 25 (n 0)),o 27 (pt 23 26)]),
 (i 27 (q [(.reg [o 28 (.call 14 []),o 4 (m 28)]),
 .ret]) .skip)]),
 (.reg [o 30 (la 3 2),o 31 (m 1),o 32 (.call 28 [(t 30),(t 31)]),o 29 (m 32),o 33 (e 29 0),o 34 (e 29 1),o 35 (e 29 2),o 5 (.alloc [(n 0),(.nils 1),(.nils 1)]),w (.store 3 (t 5) (t 33)),o 6 (m 34),o 7 (m 35)]),
 (.reg [o 37 (la 3 2),o 38 (.call 15 [(t 37)]),o 36 (m 38),o 39 (e 36 0),o 40 (e 36 1),o 8 (m 39),o 9 (m 40)]),
 (.reg [o 42 (la 3 5),o 43 (.call 15 [(t 42)]),o 41 (m 43),o 44 (e 41 0),o 45 (e 41 1),o 10 (m 44),o 11 (m 45)]),
 (q [(.reg [o 46 (m 7),o 47 (.un .not (t 46)),o 48 (m 47),g 49 48 false (m 9),g 50 48 false (bc .neq 49 (n 0)),o 51 (pt 48 50),o 52 (m 51),g 53 52 false (m 11),g 54 52 false (bc .neq 53 (n 0)),o 55 (pt 52 54),o 56 (m 55),g 57 56 false (m 8),g 58 56 false (ln 57),g 59 56 false (f 0 2),g 60 56 false (l 59),g 61 56 false (b .neq 58 60),o 62 (pt 56 61),o 63 (m 62),g 64 63 false (m 10),g 65 63 false (ln 64),g 66 63 false (f 0 2),g 67 63 false (l 66),g 68 63 false (b .neq 65 67),o 69 (pt 63 68),o 70 (m 69),g 71 70 false (la 3 2),g 72 70 false (la 3 5),g 73 70 false (m 6),g 74 70 false (.call 20 [(t 71),(t 72),(t 73)]),g 75 70 false (bc .neq 74 (n 0)),o 76 (pt 70 75)]),
 (i 76 (q [(.reg [o 4 (.mv (c .bf))]),
 .ret]) .skip)]),
 (q [(.reg [o 77 (m 6),o 78 (ln 77),o 79 (.mv (c (n 0)))]),
 (.block 0 (.loop (q [(.reg [o 80 (b .lss 79 78)]),
 (i 80 .skip (.exit 0)),
 (.block 1 (q [(.reg [o 81 (m 79),o 82 (ia 1 77 79),o 83 (l 82),o 12 (m 81),o 13 (m 83)]),
 (.regd [o 84 (m 8),o 85 (m 12),o 86 (ia 1 84 85),o 87 (l 86),o 88 (m 10),o 89 (m 13),o 90 (ia 1 88 89),o 91 (l 90),o 92 (b .neq 87 91)] [0,0,3,7,0,0,48,112,255]),
 (i 92 (q [(.reg [o 4 (.mv (c .bf))]),
 .ret]) .skip)])),
 (.reg [o 93 (bc .add 79 (n 1)),o 79 (m 93)])])))]),
 (.reg [o 95 (la 3 2),o 96 (la 3 5),o 97 (.call 22 [(t 95),(t 96)]),o 94 (m 97),o 98 (e 94 0),o 99 (e 94 1),o 14 (m 98),o 15 (m 99)]),
 (q [(.reg [o 100 (m 15),o 101 (bc .neq 100 (n 0)),o 102 (m 101),g 103 102 false (la 3 2),g 104 102 false (la 3 5),g 105 102 false (m 14),g 106 102 false (.call 20 [(t 103),(t 104),(t 105)]),g 107 102 false (bc .neq 106 (n 0)),o 108 (pt 102 107)]),
 (i 108 (q [(.reg [o 4 (.mv (c .bf))]),
 .ret]) .skip)]),
 (q [(.reg [o 109 (f 0 2),o 110 (l 109),o 111 (bc .gtr 110 (n 5))]),
 (i 111 (q [(.reg [o 112 (.call 14 []),o 4 (m 112)]),
 .ret]) .skip)]),
 (.reg [o 114 (la 3 2),o 115 (.call 17 [(t 114)]),o 113 (m 115),o 116 (e 113 0),o 117 (e 113 1),o 16 (m 116),o 17 (m 117)]),
 (.reg [o 119 (la 3 5),o 120 (.call 17 [(t 119)]),o 118 (m 120),o 121 (e 118 0),o 122 (e 118 1),o 18 (m 121),o 19 (m 122)]),
 (.reg [o 123 (m 17),o 124 (bc .eql 123 (n 0)),o 125 (m 124),g 126 125 true (m 19),g 127 125 true (bc .eql 126 (n 0)),o 128 (pf 125 127),o 129 (m 128),g 130 129 true (m 16),g 131 129 true (m 18),g 132 129 true (b .eql 130 131),o 133 (pf 129 132),o 134 (m 133),g 135 134 true (m 16),g 136 134 true (bc .geq 135 (n 1)),o 137 (pf 134 136),o 138 (m 137),g 139 138 true (.call 14 []),o 140 (pf 138 139),o 4 (m 140)]),
 .ret])⟩
end
theorem k_wittinglaw16_IsomorphKeeps:zj Tryz.prog f_wittinglaw16_IsomorphKeeps=some c_wittinglaw16_IsomorphKeeps:=by kernel_rfl
end Go.Ab
namespace Go.Ab
open Go Go.Proofs
set_option maxRecDepth 10000
set_option maxHeartbeats 4000000
variable {T:Nat→Obj→Prop}
theorem found_iso {a b:KM} (ha:zk a=0) (hb:zk b=0) (hW:a.W=b.W) (hv:a.val.length=b.val.length) (hr:a.rel.length=b.rel.length) {y:List Nat} (hy:y∈dfs (okM a b) a.W.toNat a.W.toNat []):zc0 a b (y.map fun (x:Nat)=>(x:Int))=0:=by
 obtain ⟨hl,hi⟩:=(zqN (R':=zV b) (R:=zV a) (by rw [zhQ,zhQ];exact hr.symm)).1 hy
 have he:y.map (fun (x:Nat)=>(x:Int))=ptL a.W.toNat (fnL y):=by
  refine List.ext_getElem? fun i=>?_
  by_cases h:i < a.W.toNat
  ·rw [zhm (by omega),zf1 h]
  ·rw [List.getElem?_eq_none (by simp;omega),List.getElem?_eq_none (by simp [zlM];omega)]
 have hp:zay (y.map fun (x:Nat)=>(x:Int)) a.W.toNat=true:=by rw [he];exact zph hi.ren
 have h0:za5 a b=0:=by unfold za5;simp [ha,hb,hr,hv]
 rw [zc0,if_neg (by omega),if_neg (by omega),if_neg (by rw [hp];decide),if_pos]
 rw [zuQ hr.symm hp]
 exact hi.congr fun w hw=>by rw [he];exact zu1 hw
theorem iso_res (a b:KM):(zfR a b).2=(zuW a b).2∧((zfR a b).2=0→zc0 a b (zfR a b).1=0)∧((zfR a b).2≠0→(zfR a b).1=[]):=by
 by_cases h1:za5 a b=0
 ·obtain ⟨ha,hb,hr,hv⟩:=zmg h1
  have hn : ¬za5 a b≠0:=by omega
  rw [zfR,if_neg hn,zuW,if_neg hn]
  by_cases h2:12 < a.W∨12 < b.W
  ·rw [if_pos h2,if_pos h2];exact ⟨rfl,fun h=>(by cases h),fun _=>rfl⟩
  ·rw [if_neg h2,if_neg h2]
   by_cases h3:a.W=b.W
   ·rw [if_neg (not_not_intro h3),if_neg (not_not_intro h3)]
    have hc:(dfs (okM a b) a.W.toNat a.W.toNat []).length=(dfs (okR a b) a.W.toNat a.W.toNat []).length:=zqM (by rw [zhQ,zhQ];exact hr.symm)
    cases hM:dfs (okM a b) a.W.toNat a.W.toNat [] with
    | nil =>
     rw [hM] at hc
     rw [List.eq_nil_of_length_eq_zero hc.symm]
     exact ⟨rfl,fun h=>(by cases h),fun _=>rfl⟩
    | cons y l =>
     rw [hM] at hc
     cases hR:dfs (okR a b) a.W.toNat a.W.toNat [] with
     | nil=>rw [hR] at hc;simp at hc
     | cons z l'=>exact ⟨rfl,fun _=>found_iso ha hb h3 hv hr (by rw [hM];simp),fun h=>absurd rfl h⟩
   ·rw [if_pos h3,if_pos h3];exact ⟨rfl,fun h=>(by cases h),fun _=>rfl⟩
 ·rw [zfR,if_pos h1,zuW,if_pos h1];exact ⟨rfl,fun h=>absurd h h1,fun _=>rfl⟩
end Go.Ab
namespace Go.Ab
open Go Go.Proofs
set_option maxRecDepth 10000
set_option maxHeartbeats 4000000
variable {T:Nat→Obj→Prop}
section
variable {m:KM} (hk0:zk m=0) (l:List Int)
include hk0
theorem renK_ok:zk (zsz m l)=0:=by
 have hg:=zD hk0
 have w1:=hg.w1;have w2:=hg.w2
 exact zuY hk0 (by rw [zjl];omega) (by rw [zjl];omega)
theorem renK_iso:zck m.W.toNat (zai m) (zai (zsz m l)) (zV m) (zV (zsz m l)) (toQ l m.W.toNat) :=
 (zuX hk0 (zph (zlS l m.W.toNat))).congr fun w hw=>(zu1 hw).symm
theorem renK_err:za5 m (zsz m l)=0:=by
 have h1:(zsz m l).rel.length=m.rel.length:=by simp [zsz,zcD]
 have h2:(zsz m l).val.length=m.val.length:=by simp [zsz,zcD]
 unfold za5;simp [hk0,renK_ok hk0 l,h1,h2]
theorem renK_check:zc0 m (zsz m l) (ptL m.W.toNat (toQ l m.W.toNat))=0:=by
 have hp:=zph (zlS l m.W.toNat)
 have he:=renK_err hk0 l
 obtain ⟨-,-,hr,-⟩:=zmg he
 rw [zc0,if_neg (by omega),if_neg (by rw [zuh hk0];simp),if_neg (by rw [hp];decide),if_pos]
 rw [zuQ hr.symm hp]
 exact zuX hk0 hp
theorem list_fn {n:Nat} (f:Nat→Nat) {w:Nat} (hw:w < n):fnL ((List.range n).map f) w=f w:=by simp [fnL,hw]
theorem aut_pos:1≤(dfs (okM m m) m.W.toNat m.W.toNat []).length:=by
 have hid:zck m.W.toNat (zai m) (zai m) (zV m) (zV m) (fnL ((List.range m.W.toNat).map fun w=>w)):=by
  refine zck.congr (f:=fun w=>w) ⟨⟨fun _ h=>h,fun _ _ _ _ h=>h⟩,fun _ _=>rfl,⟨rfl,fun i r r' h1 h2 v w _ _=>by rw [h1] at h2;rw [Option.some.inj h2]⟩⟩ fun w hw=>list_fn (m:=m) hk0 _ hw
 have:=(zqN (R':=zV m) (R:=zV m) rfl).2 ⟨by simp,hid⟩
 exact List.length_pos_of_mem this
theorem renK_res:(zfR m (zsz m l)).2=0∨12 < m.W:=by
 by_cases h12:12 < m.W
 ·exact .inr h12
 ·refine .inl ?_
  have he:=renK_err hk0 l
  obtain ⟨-,-,hr,-⟩:=zmg he
  have hW:=zuh hk0 (l:=l)
  have hi:zck m.W.toNat (zai m) (zai (zsz m l)) (zV m) (zV (zsz m l)) (fnL ((List.range m.W.toNat).map (toQ l m.W.toNat))):=(renK_iso hk0 l).congr fun w hw=>list_fn (m:=m) hk0 _ hw
  have hm:=(zqN (R':=zV (zsz m l)) (R:=zV m) (by rw [zhQ,zhQ];exact hr.symm)).2 ⟨by simp,hi⟩
  rw [zfR,if_neg (by omega),if_neg (by omega),if_neg (by omega)]
  cases hD:dfs (okM m (zsz m l)) m.W.toNat m.W.toNat [] with
  | nil=>rw [hD] at hm;cases hm
  | cons y l=>rfl
theorem renK_aut:(dfs (okM (zsz m l) (zsz m l)) m.W.toNat m.W.toNat []).length=(dfs (okM m m) m.W.toNat m.W.toNat []).length:=by
 have h:=zuU (renK_iso hk0 l)
 have h1:=zuO m
 have h2:=zuO (zsz m l)
 rw [zuh hk0] at h2
 exact h2.symm.trans (h.symm.trans h1)
end
theorem law_Keeps (hT:zeh T) (m:KM) (l:List Int):Fn Tryz.prog T f_wittinglaw16_IsomorphKeeps [.d (dKM m),.d (dI l)] [] (.d (.bool true)) []:=by
 have hA:=zuB hT
 have hf:=zuV (T:=T) m 7
 have ck:=zuL (T:=T) m
 cases hbw:znt m 7 with
 | false =>
  rw [hbw] at hf
  refine zo zw k_wittinglaw16_IsomorphKeeps (by show 2≤141;decide) ?_
  (repeat' ((conv=>whnf);first|refine vA ?_|refine vB fun b hb=>?_|refine vC (fun hl=>?_) fun i kv vv hi=>?_|refine vE ?_|refine vG ?_|refine vH ?_|((first|refine vD ?_ ?_|refine vF ?_ ?_|refine vI ?_ ?_)<;>intro hc<;>try simp only [vL] at hc)|refine vJ fun hg=>?_|refine vK fun hg=>?_|refine vT ?_|refine vN ‹_› ?_|(refine vQ ?_ fun x hx=>?_;·first|omega|(simp only [vM] at *;omega))|((first|refine vO ?_ ?_|refine vR ?_ ‹_› ?_|refine vS ?_ fun x hx=>?_|refine vP ?_ ?_);·first|omega|(simp only [vM] at *;omega))|refine vW ⟨by omega,by omega⟩ ?_|(refine vU ?_ ?_;·kernel_rfl)|refine vX ?_|refine vY ?_|refine vZ ?_|refine yD hf ⟨⟨rfl,rfl⟩,⟨rfl,rfl⟩,rfl⟩ rfl ?_|refine yD hA (by (repeat refine ⟨⟨rfl,rfl⟩,?_⟩);rfl) rfl ?_|refine yN hA (by (repeat refine ⟨⟨rfl,rfl⟩,?_⟩);rfl) ?_|refine za.mk _ ‹_› ?_|refine vP (show (_:BitVec 64)≠_ by decide) ?_));all_goals try conv=>whnf
 | true =>
  rw [hbw] at hf
  by_cases hk0:zk m=0
  ·have hg0:=zD hk0
   have w1:=hg0.w1;have w2:=hg0.w2
   have h7:m.W≤7:=by
    have:=of_decide_eq_true hbw
    omega
   rw [hk0] at ck
   have hr:=renK_ok hk0 l
   have hrW:=zuh hk0 (l:=l)
   have hres:=(renK_res hk0 l).resolve_right (by omega)
   have cr:=zuq (T:=T) hk0 (by omega) l
   have ci:=zfm hT m (fun _=>by omega)
   have ci2:=zfm hT (zsz m l) (fun _=>by omega)
   have hcol:=ztl (renK_iso hk0 l)
   rw [zng,if_neg (by omega),hk0] at ci
   rw [zng,if_neg (by omega),hr,hrW] at ci2
   have cc:=zuK (T:=T) m (zsz m l) (ptL m.W.toNat (toQ l m.W.toNat))
   rw [renK_check hk0 l] at cc
   have cI:=ztY hT m (zsz m l)
   have cd:=zuK (T:=T) m (zsz m l) (zfR m (zsz m l)).1
   rw [(iso_res m (zsz m l)).2.1 hres] at cd
   rw [hres] at cI
   generalize (zfR m (zsz m l)).1=y at cI cd
   have ca:=zr5 hT m
   have cb:=zr5 hT (zsz m l)
   have hau:=renK_aut hk0 l
   have hap:=aut_pos hk0
   have a1:zig m=(((dfs (okM m m) m.W.toNat m.W.toNat []).length:Int),0):=by rw [zig,if_neg (by omega),if_neg (by omega)]
   have a2:zig (zsz m l)=(((dfs (okM m m) m.W.toNat m.W.toNat []).length:Int),0):=by rw [zig,if_neg (by omega),if_neg (by omega),hrW,hau]
   rw [a1] at ca
   rw [a2] at cb
   clear hau a1 a2
   generalize (dfs (okM m m) m.W.toNat m.W.toNat []).length=N at ca cb hap
   have hfr:=zlS l m.W.toNat
   generalize (zeZ m.W.toNat (zai m) (zV m)).1=p at ci hcol
   generalize (zeZ m.W.toNat (zai (zsz m l)) (zV (zsz m l))).1=q at ci2 hcol
   generalize toQ l m.W.toNat=f at cr cc hcol hfr
   have lp:(ptL m.W.toNat p).length=m.W.toNat:=zlM
   have lq:(ptL m.W.toNat q).length=m.W.toNat:=zlM
   have lf:(ptL m.W.toNat f).length=m.W.toNat:=zlM
   refine zo zw k_wittinglaw16_IsomorphKeeps (by show 2≤141;decide) ?_
   (repeat' ((conv=>whnf);first|refine vA ?_|refine vB fun b hb=>?_|refine vC (fun hl=>?_) fun i kv vv hi=>?_|refine vE ?_|refine vG ?_|refine vH ?_|((first|refine vD ?_ ?_|refine vF ?_ ?_|refine vI ?_ ?_)<;>intro hc<;>try simp only [vL] at hc)|refine vJ fun hg=>?_|refine vK fun hg=>?_|refine vT ?_|refine vN ‹_› ?_|(refine vQ ?_ fun x hx=>?_;·first|omega|(simp only [vM] at *;omega))|((first|refine vO ?_ ?_|refine vR ?_ ‹_› ?_|refine vS ?_ fun x hx=>?_|refine vP ?_ ?_);·first|omega|(simp only [vM] at *;omega))|refine vW ⟨by omega,by omega⟩ ?_|(refine vU ?_ ?_;·kernel_rfl)|refine vX ?_|refine vY ?_|refine vZ ?_|refine yD hf ⟨⟨rfl,rfl⟩,⟨rfl,rfl⟩,rfl⟩ rfl ?_|refine yD hA (by (repeat refine ⟨⟨rfl,rfl⟩,?_⟩);rfl) rfl ?_|refine yN hA (by (repeat refine ⟨⟨rfl,rfl⟩,?_⟩);rfl) ?_|refine yD ck ⟨⟨rfl,rfl⟩,rfl⟩ rfl ?_|refine yN cr ⟨⟨rfl,rfl⟩,⟨rfl,rfl⟩,rfl⟩ ?_|refine yN ci ⟨⟨rfl,rfl⟩,rfl⟩ ?_|refine yN ci2 ⟨⟨rfl,rfl⟩,rfl⟩ ?_|refine yD cc ⟨⟨rfl,rfl⟩,⟨rfl,rfl⟩,⟨rfl,rfl⟩,rfl⟩ rfl ?_|refine za.mk _ ‹_› ?_|refine vP (show (_:BitVec 64)≠_ by decide) ?_));all_goals try conv=>whnf
   ·exfalso;omega
   ·exfalso;omega
   refine zq (fun (k:Nat)=>[(2,.ptr 0 0),(5,.ptr 1 0),(8,.d (dI (ptL m.W.toNat p))),(10,.d (dI (ptL m.W.toNat q))),(77,.d (dI (ptL m.W.toNat f))),(78,.d (.int .i64 (((ptL m.W.toNat f).map (D.int .i64)).length:Int))),(79,.d (.int .i64 ((k:Int))))]) (fun (k:Nat)=>[(0,some (zZ m)),(1,some (zZ (zsz m l)))]) 2 (fun (k:Nat)=>k≤m.W.toNat) (fun (k:Nat)=>m.W.toNat - k) (0) [(0,0),(1,1)] [] (by omega) (by (refine ⟨rfl,rfl,rfl,?_,?_⟩;repeat' first|exact trivial|exact rfl|exact ⟨_,rfl⟩|exact .inl rfl|exact .inr (.inl ⟨rfl,rfl⟩)|exact .inr (.inr ⟨rfl,rfl⟩)|refine And.intro ?_ ?_|refine ⟨_,rfl,?_⟩|decide|exact of_decide_eq_true rfl)) ?_
   rintro k hk
   by_cases hkl:k < m.W.toNat
   ·have e1:=zf1 (q:=f) hkl
    have e2:=zf1 (q:=p) hkl
    have e3:=zf1 (q:=q) (hfr.lt k hkl)
    have e4:=hcol k hkl
    (repeat' ((conv=>whnf);first|refine vA ?_|refine vB fun b hb=>?_|refine vC (fun hl=>?_) fun i kv vv hi=>?_|refine vE ?_|refine vG ?_|refine vH ?_|((first|refine vD ?_ ?_|refine vF ?_ ?_|refine vI ?_ ?_)<;>intro hc<;>try simp only [vL] at hc)|refine vJ fun hg=>?_|refine vK fun hg=>?_|refine vT ?_|refine vN ‹_› ?_|(refine vQ ?_ fun x hx=>?_;·first|omega|(simp only [vM] at *;omega))|((first|refine vO ?_ ?_|refine vR ?_ ‹_› ?_|refine vS ?_ fun x hx=>?_|refine vP ?_ ?_);·first|omega|(simp only [vM] at *;omega))|refine vW ⟨by omega,by omega⟩ ?_|(refine vU ?_ ?_;·kernel_rfl)|refine vX ?_|refine vY ?_|refine vZ ?_|refine za.mk _ ‹_› ?_|refine vP (show (_:BitVec 64)≠_ by decide) ?_));all_goals try conv=>whnf
    ·exfalso;omega
    ·refine ⟨k+1,[(0,0),(1,1)],[],?_,?_,by (refine ⟨rfl,rfl,rfl,?_,?_⟩;repeat' first|exact trivial|exact rfl|exact ⟨_,rfl⟩|exact .inl rfl|exact .inr (.inl ⟨rfl,rfl⟩)|exact .inr (.inr ⟨rfl,rfl⟩)|refine And.intro ?_ ?_|refine ⟨_,rfl,?_⟩|decide|exact of_decide_eq_true rfl)⟩
     ·omega
     ·(first|omega|(simp only [vM] at *;omega))
    ·exfalso;omega
   ·(repeat' ((conv=>whnf);first|refine vA ?_|refine vB fun b hb=>?_|refine vC (fun hl=>?_) fun i kv vv hi=>?_|refine vE ?_|refine vG ?_|refine vH ?_|((first|refine vD ?_ ?_|refine vF ?_ ?_|refine vI ?_ ?_)<;>intro hc<;>try simp only [vL] at hc)|refine vJ fun hg=>?_|refine vK fun hg=>?_|refine vT ?_|refine vN ‹_› ?_|(refine vQ ?_ fun x hx=>?_;·first|omega|(simp only [vM] at *;omega))|((first|refine vO ?_ ?_|refine vR ?_ ‹_› ?_|refine vS ?_ fun x hx=>?_|refine vP ?_ ?_);·first|omega|(simp only [vM] at *;omega))|refine vW ⟨by omega,by omega⟩ ?_|(refine vU ?_ ?_;·kernel_rfl)|refine vX ?_|refine vY ?_|refine vZ ?_|refine yN cI ⟨⟨rfl,rfl⟩,⟨rfl,rfl⟩,rfl⟩ ?_|refine yD cd ⟨⟨rfl,rfl⟩,⟨rfl,rfl⟩,⟨rfl,rfl⟩,rfl⟩ rfl ?_|refine yN ca ⟨⟨rfl,rfl⟩,rfl⟩ ?_|refine yN cb ⟨⟨rfl,rfl⟩,rfl⟩ ?_|refine yD hA (by (repeat refine ⟨⟨rfl,rfl⟩,?_⟩);rfl) rfl ?_|refine yN hA (by (repeat refine ⟨⟨rfl,rfl⟩,?_⟩);rfl) ?_|refine za.mk _ ‹_› ?_|refine vP (show (_:BitVec 64)≠_ by decide) ?_));all_goals try conv=>whnf
    all_goals first|(exfalso;omega)|exact absurd trivial ‹¬True›|skip
  ·refine zo zw k_wittinglaw16_IsomorphKeeps (by show 2≤141;decide) ?_
   (repeat' ((conv=>whnf);first|refine vA ?_|refine vB fun b hb=>?_|refine vC (fun hl=>?_) fun i kv vv hi=>?_|refine vE ?_|refine vG ?_|refine vH ?_|((first|refine vD ?_ ?_|refine vF ?_ ?_|refine vI ?_ ?_)<;>intro hc<;>try simp only [vL] at hc)|refine vJ fun hg=>?_|refine vK fun hg=>?_|refine vT ?_|refine vN ‹_› ?_|(refine vQ ?_ fun x hx=>?_;·first|omega|(simp only [vM] at *;omega))|((first|refine vO ?_ ?_|refine vR ?_ ‹_› ?_|refine vS ?_ fun x hx=>?_|refine vP ?_ ?_);·first|omega|(simp only [vM] at *;omega))|refine vW ⟨by omega,by omega⟩ ?_|(refine vU ?_ ?_;·kernel_rfl)|refine vX ?_|refine vY ?_|refine vZ ?_|refine yD hf ⟨⟨rfl,rfl⟩,⟨rfl,rfl⟩,rfl⟩ rfl ?_|refine yD hA (by (repeat refine ⟨⟨rfl,rfl⟩,?_⟩);rfl) rfl ?_|refine yN hA (by (repeat refine ⟨⟨rfl,rfl⟩,?_⟩);rfl) ?_|refine yD ck ⟨⟨rfl,rfl⟩,rfl⟩ rfl ?_|refine za.mk _ ‹_› ?_|refine vP (show (_:BitVec 64)≠_ by decide) ?_));all_goals try conv=>whnf
   all_goals exact absurd ‹zk m=0› hk0
end Go.Ab
namespace Go.Proofs.YtjpgnjhdeikncaaGreatDoor
open Go Go.Ab Go.RowKit Go.ChangeShapes Go.WideShapes
set_option maxRecDepth 100000 in
theorem isomorphKeeps_holds:Rows.IsomorphKeepsSaid :=
 OpenClaim.holds_of_wide 6 Tryz.f6 rfl rfl rfl rfl rfl rfl rfl ⟨rfl,rfl,rfl,rfl,rfl⟩ rfl rfl rfl rfl rfl (by kernel_rfl) Tryz.func6 (by kernel_rfl)
  (of_decide_eq_true (by kernel_rfl)) (by unfold Func.isWrapper;rw [if_neg (of_decide_eq_false (by kernel_rfl))];exact ⟨rfl,rfl⟩)
  (fun os started H enc _=>zuD (C:=Tryz.checked) (s:=Rows.isomorphKeepsSpec) (laid:=laidL) knob started (by kernel_rfl) Tryz.func6 laidOut [25,28] Tryz.params6 rfl Tryz.underlying4 rfl (by kernel_rfl)
   (fun ds hds=>by match ds,hds with|[d1,d2],_=>rfl)
   (ChangeSpec.witness_shaped (enc:=enc) (C:=Tryz.checked) (os:=os) (X:=fun w _=>laidMetH Tryz.prog laidL w) false (World.doorLaid Tryz.prog 14 os)
    #[.agg #[.int .i64 0,.slice none 0 0,.slice none 0 0],.slice none 0 0] 8 rfl (World.shaped_of_RefB (by kernel_rfl) (by kernel_rfl)) (by kernel_rfl) (by kernel_rfl) (by kernel_rfl) (door_met os _))
   (fun W hL=>⟨TOf W,(zu0 hL).1,(zu0 hL).2,fun ds hds=>by
    obtain ⟨m1,r,rfl,hm1,k1⟩:=zuI hds
    obtain ⟨l2,r,rfl,hl2,k2⟩:=zuN k1
    obtain rfl:=zu3 k2
    exact law_Keeps (tz_of hL) m1 l2⟩))
theorem isomorphKeeps_card:Rows.IsomorphKeepsCardSaid :=
 Claim7.holds_tied_plain_at .later [] [.data] true (true, "c96b12866c1abf5fdfd17610126ecda506524b3457cc7270fbd11550e856ea1c") false
  isomorphKeeps_holds (fun _ h=>by cases h) (by kernel_rfl) (fun _ h=>by cases h) isomorphKeeps_row_tie rfl ⟨rfl,rfl⟩ (by kernel_rfl) rfl
  (fun f fn hf hfn=>by
   obtain rfl:f=6:=Option.some.inj ((show Tryz.prog.funcNamed Rows.isomorphKeepsRow.func=some 6 by kernel_rfl).symm.trans hf) |>.symm
   obtain rfl:fn=Tryz.f6:=(Option.some.inj (Tryz.func6.symm.trans hfn)).symm
   exact ⟨by kernel_rfl,fun j t ht=>by
    rw [Tryz.params6] at ht
    have hm:t∈[25,28]:=by
     have:=List.mem_of_getElem? (l:=[25,28]) (i:=j) (by simpa using ht)
     exact this
    have hall:([25,28].all fun t=>Tryz.prog.wantsStandIn t==false)=true:=by kernel_rfl
    exact eq_of_beq (List.all_eq_true.1 hall t hm)⟩)
  (by kernel_rfl)
end Go.Proofs.YtjpgnjhdeikncaaGreatDoor
