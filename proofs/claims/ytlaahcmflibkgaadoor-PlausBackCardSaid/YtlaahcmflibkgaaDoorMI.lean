/- What is proved here: the law PlausBack of chapter 33 returns true at every input and leaves its arguments as they were; the condition is the row own: the listed table of math bits holds what the text lays. -/
import Derived.Test.YtlaahcmflibkgaaDoorMH
set_option linter.unusedVariables false
set_option linter.unusedSimpArgs false
set_option linter.unusedSectionVars false
namespace Go.Ab
open Go Go.Proofs
section
open K
def f_wittinglaw33_PlausBack:Nat:=5
def c_wittinglaw33_PlausBack:CFn:=⟨126,[.tmp 4],(q [(.reg [o 2 (.box 4 (t 0)),o 4 (.mv (c .bf))]),
 (q [(.reg [o 15 (la 4 2),o 16 (.call 10 [(t 15)]),o 17 (.un .not (t 16)),o 18 (m 17),g 19 18 false (la 4 2),g 20 18 false (.call 12 [(t 19)]),g 21 18 false (bc .neq 20 (n 0)),o 22 (pt 18 21)]),
 (i 22 (q [(.reg [o 23 (.call 11 []),o 4 (m 23)]),
 .ret]) .skip)]),
 (.reg [o 5 (.mv (c (.nils 1)))]),
 (q [(.reg [o 6 (.mv (c (n 0)))]),
 (.block 0 (.loop (q [(q [(.reg [o 24 (m 6),o 25 (f 2 2),o 26 (l 25),o 27 (ln 26),o 28 (b .lss 24 27)]),
 (i 28 .skip (.exit 0))]),
 (.block 1 (q [(.reg [o 32 (la 4 2),o 33 (m 6),o 34 (.call 20 [(t 32),(t 33)]),o 31 (m 34),o 35 (e 31 0),o 36 (e 31 1),o 7 (m 35),o 8 (m 36)]),
 (q [(.reg [o 37 (m 8),o 38 (bc .neq 37 (n 0))]),
 (i 38 (q [(.reg [o 4 (.mv (c .bf))]),
 .ret]) .skip)]),
 (.reg [o 39 (m 5),o 40 (m 7),o 41 (.bslice 1 1 [(.nils 1)] [(0,(t 40))]),o 42 (.app 1 24 (t 39) (t 41)),o 5 (m 42)])])),
 (.reg [o 29 (m 6),o 30 (bc .add 29 (n 1)),o 6 (m 30)])])))]),
 (.reg [o 44 (f 0 2),o 45 (l 44),o 46 (f 1 2),o 47 (l 46),o 48 (m 5),o 49 (.call 21 [(t 45),(t 47),(t 48)]),o 43 (m 49),o 50 (e 43 0),o 51 (e 43 1),o 9 (.alloc [(n 0),(.nils 1),(.nils 1),(.nils 1)]),w (.store 4 (t 9) (t 50)),o 10 (m 51)]),
 (q [(.reg [o 52 (m 10),o 53 (bc .neq 52 (n 0)),o 54 (m 53),g 55 54 false (la 4 2),g 56 54 false (la 4 9),g 57 54 false (.call 15 [(t 55),(t 56)]),g 58 54 false (.un .not (t 57)),o 59 (pt 54 58),o 60 (m 59),g 61 60 false (m 1),g 62 60 false (ln 61),g 63 60 false (bc .gtr 62 (n 8)),o 64 (pt 60 63)]),
 (i 64 (q [(.reg [o 65 (m 10),o 66 (bc .eql 65 (n 0)),o 67 (m 66),g 68 67 true (m 1),g 69 67 true (ln 68),g 70 67 true (bc .gtr 69 (n 8)),o 71 (pf 67 70),o 72 (m 71),g 73 72 true (la 4 2),g 74 72 true (la 4 9),g 75 72 true (.call 15 [(t 73),(t 74)]),o 76 (pf 72 75),o 77 (m 76),g 78 77 true (.call 11 []),o 79 (pf 77 78),o 4 (m 79)]),
 .ret]) .skip)]),
 (.reg [o 81 (f 0 2),o 82 (l 81),o 83 (f 1 2),o 84 (l 83),o 85 (m 1),o 86 (.call 21 [(t 82),(t 84),(t 85)]),o 80 (m 86),o 87 (e 80 0),o 88 (e 80 1),o 11 (.alloc [(n 0),(.nils 1),(.nils 1),(.nils 1)]),w (.store 4 (t 11) (t 87)),o 10 (m 88)]),
 (q [(.reg [o 12 (.mv (c (n 0)))]),
 (.block 2 (.loop (q [(q [(.reg [o 89 (m 12),o 90 (m 1),o 91 (ln 90),o 92 (b .lss 89 91),o 93 (m 92),g 94 93 true (m 10),g 95 93 true (bc .eql 94 (n 0)),o 96 (pf 93 95)]),
 (i 96 .skip (.exit 2))]),
 (.block 3 (q [(.reg [o 100 (la 4 11),o 101 (m 12),o 102 (.call 20 [(t 100),(t 101)]),o 99 (m 102),o 103 (e 99 0),o 104 (e 99 1),o 13 (m 103),o 14 (m 104)]),
 (.reg [o 105 (m 14),o 106 (bc .neq 105 (n 0)),o 107 (m 106),g 108 107 false (m 13),g 109 107 false (m 1),g 110 107 false (m 12),g 111 107 false (ia 1 109 110),g 112 107 false (l 111),g 113 107 false (.call 22 [(t 108),(t 112)]),g 114 107 false (.un .not (t 113)),o 115 (pt 107 114)]),
 (i 115 (q [(.reg [o 4 (.mv (c .bf))]),
 .ret]) .skip)])),
 (.reg [o 97 (m 12),o 98 (bc .add 97 (n 1)),o 12 (m 98)])])))]),
 (.reg [o 116 (m 10),o 117 (bc .neq 116 (n 0)),o 118 (m 117),g 119 118 false (la 4 11),g 120 118 false (.call 12 [(t 119)]),g 121 118 false (bc .eql 120 (n 0)),o 122 (pt 118 121),o 123 (m 122),g 124 123 true (.call 11 []),o 125 (pf 123 124),o 4 (m 125)]),
 .ret])⟩
end
theorem k_wittinglaw33_PlausBack:compFn Tryd.prog f_wittinglaw33_PlausBack=some c_wittinglaw33_PlausBack:=by kernel_rfl
end Go.Ab
namespace Go.Ab
open Go Go.Proofs
set_option linter.unusedSimpArgs false
set_option linter.unusedVariables false
set_option maxRecDepth 10000
set_option maxHeartbeats 4000000
variable {T:Nat→Obj→Prop}
theorem weaker_ok {p:PM} {a:Nat} (h:checkL p=0) (ha:a < p.cell.length):weakerL p a=(weakL p a,0):=by
 rw [weakerL,if_neg (not_not_intro h),if_neg (by omega)];rfl
end Go.Ab
namespace Go.Ab
open Go Go.Proofs
set_option linter.unusedSimpArgs false
set_option linter.unusedVariables false
set_option maxRecDepth 10000
set_option maxHeartbeats 4000000
variable {T:Nat→Obj→Prop}
theorem newL_ints (W:Int) (val:List (BitVec 64)) (acc:List (List (BitVec 64))):IntsOk (newL W val acc).1.rank:=by
 intro r hr x hx
 have key : ∀ s,newL W val acc=(s,0)→r∈s.rank→0≤x∧x≤64:=fun s h hr=>by
  obtain ⟨h1,h2,rfl⟩:=newL_ok h
  obtain ⟨w1,w2,-⟩:=shapeL_ok h1
  obtain ⟨y,hy,rfl⟩:=List.mem_map.1 hr
  obtain ⟨h3,h4⟩:=h2 y hy
  obtain ⟨i,hi,rfl⟩:=mem_at0.1 hx
  rw [rankR_len] at hi
  rw [at0_rankR hi]
  have h5:rk y i≤(belowL y i y.length).length:=nd_le (fin_nodup _) fun x hx=>fin_mem.1 hx
  have h6:=belowL_len (r:=y) (w:=i) (n:=y.length)
  omega
 have hb:0≤x∧x≤64:=by
  unfold newL at hr
  split at hr
  ·cases hr
  ·rename_i h1
   split at hr
   ·cases hr
   ·rename_i h2
    split at hr
    ·cases hr
    ·rename_i h3
     exact key _ (by unfold newL;rw [if_neg h1,if_neg h2,if_neg h3]) hr
 exact ⟨by omega,by omega⟩
theorem len_cells {W:Int} {val:List (BitVec 64)} {acc:List (List (BitVec 64))} {s:PM} (h:newL W val acc=(s,0)):s.cell.length=acc.length:=by
 obtain ⟨-,-,rfl⟩:=newL_ok h
 simp
theorem law_Back (hT:TzOk T) (p:PM) (hp:IntsOk p.rank) (acc:List (List (BitVec 64))):Fn Tryd.prog T f_wittinglaw33_PlausBack [.d (dPM p),.d (dUU acc)] [] (.d (.bool true)) []:=by
 have hR:=ranks_ok (T:=T)
 have hA:=fn_awake hT
 refine fn_dataR hmix k_wittinglaw33_PlausBack (by show 2≤126;decide) ?_
 (repeat' ((conv=>whnf);first|refine vA ?_|refine vE ?_|((first|refine vD ?_ ?_|refine vF ?_ ?_)<;>intro hc)|refine vZ ?_|refine yD (fn_Few _) ⟨⟨rfl,rfl⟩,rfl⟩ rfl ?_|refine yD hA rfl rfl ?_|refine yD (fn_plaus_Check hR _ hp) ⟨⟨rfl,rfl⟩,rfl⟩ rfl ?_));all_goals try conv=>whnf
 have hck:=‹checkL p=0›
 have hgd:=checkL_good hck
 have hw1:=hgd.w1
 have hw2:=hgd.w2
 have hn4:=hgd.n4
 have hS:=fn_ref33_Same (T:=T) p p
 rw [show decide (p=p)=true by simp] at hS
 have hN:=fn_New hT p.W p.val ((List.range p.cell.length).map (weakL p))
 rw [new_weak hgd (shape_good hck)] at hN
 have hM:=fn_New hT p.W p.val acc
 have hok:=fun s=>new_valid (W:=p.W) (val:=p.val) (acc:=acc) (s:=s)
 have hlc:=fun s=>len_cells (W:=p.W) (val:=p.val) (acc:=acc) (s:=s)
 have hio:=newL_ints p.W p.val acc
 generalize newL p.W p.val acc=se at hM hok hlc hio
 obtain ⟨s,e⟩:=se
 refine loop_mem (fun ((a,zs):Nat×List D)=>[(1,.d (dUU acc)),(2,.ptr 0 0),(5,.own 1),(6,.d (.int .i64 ((a:Int))))]) (fun ((a,zs):Nat×List D)=>[(0,some (boxPM p)),(1,some (.row 1 zs))]) 2 (fun ((a,zs):Nat×List D)=>a≤p.cell.length∧zs=((List.range a).map (weakL p)).map dU) (fun ((a,zs):Nat×List D)=>p.cell.length - a) ((0,[])) [(0,0)]   [1] (⟨by omega,rfl⟩) (by (refine ⟨rfl,rfl,rfl,?_,?_⟩;repeat' first|exact trivial|exact rfl|exact ⟨_,rfl⟩|refine And.intro ?_ ?_|refine ⟨_,rfl,?_⟩|decide)) ?_
 rintro ⟨a,_⟩ ⟨ha,rfl⟩
 (repeat' ((conv=>whnf);first|refine vA ?_|(refine vF ?_ ?_<;>intro hc<;>try simp only [vL] at hc)|refine vJ fun hg=>?_));all_goals try conv=>whnf
 ·have hW:=fn_Weaker hR p hp a
  rw [weaker_ok hck (by omega)] at hW
  (repeat' ((conv=>whnf);first|refine vA ?_|refine vH ?_|((first|refine vO ?_ ?_|refine vP ?_ ?_);·first|omega|(simp only [vM] at *;omega))|refine yN hW ⟨⟨rfl,rfl⟩,⟨rfl,rfl⟩,rfl⟩ ?_));all_goals try conv=>whnf
  refine ⟨(a+1,_),[(0,0),(1,3)],[],?_,?_,by (refine ⟨rfl,rfl,rfl,?_,?_⟩;repeat' first|exact trivial|exact rfl|refine And.intro ?_ ?_|refine ⟨_,rfl,?_⟩|decide)⟩
  ·refine ⟨by (omega),?_⟩
   rw [List.range_succ,List.map_append,List.map_append];rfl
  ·((simp only [vM] at *;omega))
 obtain rfl:a=p.cell.length:=by omega
 (repeat' ((conv=>whnf);first|refine TestS.no (by decide) ?_|refine TestS.yes (by decide) ?_|refine vA ?_|refine vG ?_|refine vH ?_|(refine vF ?_ ?_<;>intro hc<;>try simp only [vL] at hc)|refine vJ fun hg=>?_|refine vZ ?_|refine yN hN ⟨⟨rfl,rfl⟩,⟨rfl,rfl⟩,⟨rfl,rfl⟩,rfl⟩ ?_|refine yN hM ⟨⟨rfl,rfl⟩,⟨rfl,rfl⟩,⟨rfl,rfl⟩,rfl⟩ ?_|refine yD hS ⟨⟨rfl,rfl⟩,⟨rfl,rfl⟩,rfl⟩ rfl ?_|refine yD hA rfl rfl ?_));all_goals try conv=>whnf
 ·omega
 refine loop_mem (fun (a:Nat)=>[(1,.d (dUU acc)),(10,.d (.int .i64 (e))),(11,.ptr 0 0),(12,.d (.int .i64 ((a:Int))))]) (fun (a:Nat)=>[(0,some (boxPM s))]) 1 (fun (a:Nat)=>a≤acc.length) (fun (a:Nat)=>acc.length - a) (0) [(0,3)] [] (by omega) (by (refine ⟨rfl,rfl,rfl,?_,?_⟩;repeat' first|exact trivial|exact rfl|refine And.intro ?_ ?_|refine ⟨_,rfl,?_⟩|decide)) ?_
 rintro a ha
 (repeat' ((conv=>whnf);first|refine vA ?_|((first|refine vD ?_ ?_|refine vF ?_ ?_)<;>intro hc<;>try simp only [vL] at hc)|refine vJ fun hg=>?_));all_goals try conv=>whnf
 ·have he:e=0:=‹e=0›
  subst he
  obtain ⟨h1,h2⟩:=hok s rfl
  have h3:=hlc s rfl
  have hW:=fn_Weaker hR s hio a
  rw [weaker_ok h1 (by omega)] at hW
  (repeat' ((conv=>whnf);first|refine vA ?_|refine vE ?_|refine vH ?_|(refine vI ?_ ?_<;>intro hc<;>try simp only [vL] at hc)|(refine vQ ?_ fun x hx=>?_;·omega)|(refine vO ?_ ?_;·omega)|refine vZ ?_|refine yN hW ⟨⟨rfl,rfl⟩,⟨rfl,rfl⟩,rfl⟩ ?_|refine yD (fn_ref02_Same _ _) ⟨⟨rfl,rfl⟩,⟨rfl,rfl⟩,rfl⟩ rfl ?_));all_goals try conv=>whnf
  ·exact ⟨a+1,[(0,0)],[],by (omega),by (omega),by (refine ⟨rfl,rfl,rfl,?_,?_⟩;repeat' first|exact trivial|exact rfl|refine And.intro ?_ ?_|refine ⟨_,rfl,?_⟩|decide)⟩
  ·have h4:=h2 a _ hx
   rw [h4] at hc
   simp at hc
 ·(repeat' ((conv=>whnf);first|refine vZ ?_|refine yD hA rfl rfl ?_));all_goals try conv=>whnf
 ·exact absurd ‹e=0› ‹¬e=0›
 ·(repeat' ((conv=>whnf);first|refine vZ ?_|refine yD hA rfl rfl ?_));all_goals try conv=>whnf
 ·have he:e=0:=‹e=0›
  subst he
  have hC:=fn_plaus_Check hR s hio
  rw [(hok s rfl).1] at hC
  (repeat' ((conv=>whnf);first|refine TestS.yes (by decide) ?_|refine vZ ?_|refine yD hC ⟨⟨rfl,rfl⟩,rfl⟩ rfl ?_|refine yD hA rfl rfl ?_));all_goals try conv=>whnf
end Go.Ab
namespace Go.Proofs.YtlaahcmflibkgaaDoor
open Go Go.Ab Go.RowKit Go.ChangeShapes Go.WideShapes
set_option linter.unusedVariables false
set_option maxRecDepth 100000 in
theorem plausBack_holds:Rows.PlausBackSaid :=
 OpenClaim.holds_of_wide 5 Tryd.f5 rfl rfl rfl rfl rfl rfl rfl ⟨rfl,rfl,rfl,rfl,rfl⟩ rfl rfl rfl rfl rfl (by kernel_rfl) Tryd.func5 (by kernel_rfl)
  (of_decide_eq_true (by kernel_rfl)) (by unfold Func.isWrapper;rw [if_neg (of_decide_eq_false (by kernel_rfl))];exact ⟨rfl,rfl⟩)
  (fun os started H enc _=>law_lifted (C:=Tryd.checked) (s:=Rows.plausBackSpec) (laid:=laidL) knob started (by kernel_rfl) Tryd.func5 laidOut [25,35] Tryd.params5 rfl Tryd.underlying4 rfl (by kernel_rfl)
   (fun ds hds=>by match ds,hds with|[d1,d2],_=>rfl)
   (ChangeSpec.witness_shaped (enc:=enc) (C:=Tryd.checked) (os:=os) (X:=fun w _=>laidMetH Tryd.prog laidL w) false (World.doorLaid Tryd.prog 14 os)
    #[.agg #[.int .i64 0,.slice none 0 0,.slice none 0 0,.slice none 0 0],.slice none 0 0] 8 rfl (World.shaped_of_RefB (by kernel_rfl) (by kernel_rfl)) (by kernel_rfl) (by kernel_rfl) (by kernel_rfl) (door_met os _))
   (fun W hL=>⟨TOf W,(laid_T hL).1,(laid_T hL).2,fun ds hds=>by
    obtain ⟨p1,r,rfl,hc1,hp1,k1⟩:=arg25 hds
    obtain ⟨l2,r,rfl,k2⟩:=arg35 k1
    obtain rfl:=arg0 k2
    exact law_Back (tz_of hL) p1 hp1 l2⟩))
theorem plausBack_card:Rows.PlausBackCardSaid :=
 Claim7.holds_tied_plain_at .later [] [.data] true (true, "94bee8f41b3226e5d37178b5def64642b3a338ae831b1aec4758e198409df0af") false
  plausBack_holds (fun _ h=>by cases h) (by kernel_rfl) (fun _ h=>by cases h) plausBack_row_tie rfl ⟨rfl,rfl⟩ (by kernel_rfl) rfl
  (fun f fn hf hfn=>by
   obtain rfl:f=5:=Option.some.inj ((show Tryd.prog.funcNamed Rows.plausBackRow.func=some 5 by kernel_rfl).symm.trans hf) |>.symm
   obtain rfl:fn=Tryd.f5:=(Option.some.inj (Tryd.func5.symm.trans hfn)).symm
   exact ⟨by kernel_rfl,fun j t ht=>by
    rw [Tryd.params5] at ht
    have hm:t∈[25,35]:=by
     have:=List.mem_of_getElem? (l:=[25,35]) (i:=j) (by simpa using ht)
     exact this
    have hall:([25,35].all fun t=>Tryd.prog.wantsStandIn t==false)=true:=by kernel_rfl
    exact eq_of_beq (List.all_eq_true.1 hall t hm)⟩)
  (by kernel_rfl)
end Go.Proofs.YtlaahcmflibkgaaDoor
