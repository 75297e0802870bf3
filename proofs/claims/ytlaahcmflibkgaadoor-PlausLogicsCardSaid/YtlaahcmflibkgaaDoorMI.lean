/- What is proved here: the law PlausLogics of chapter 33 returns true at every input and leaves its arguments as they were; the condition is the row own: the listed table of math bits holds what the text lays. -/
import Derived.Test.YtlaahcmflibkgaaDoorMH
set_option linter.unusedVariables false
set_option linter.unusedSimpArgs false
set_option linter.unusedSectionVars false
namespace Go.Ab
open Go Go.Proofs
section
open K
def f_wittinglaw33_PlausLogics:Nat:=9
def c_wittinglaw33_PlausLogics:CFn:=⟨157,[.tmp 2],(q [(.reg [o 1 (.box 4 (t 0)),o 2 (.mv (c .bf))]),
 (q [(.reg [o 12 (la 4 1),o 13 (.call 10 [(t 12)]),o 14 (.un .not (t 13)),o 15 (m 14),g 16 15 false (la 4 1),g 17 15 false (.call 12 [(t 16)]),g 18 15 false (bc .neq 17 (n 0)),o 19 (pt 15 18)]),
 (i 19 (q [(.reg [o 20 (.call 11 []),o 2 (m 20)]),
 .ret]) .skip)]),
 (.reg [o 22 (la 4 1),o 23 (.call 25 [(t 22)]),o 21 (m 23),o 24 (e 21 0),o 25 (e 21 1),o 3 (.alloc [(n 0),(.nils 1),(.nils 1)]),w (.store 3 (t 3) (t 24)),o 4 (m 25)]),
 (.reg [o 27 (la 4 1),o 28 (.call 27 [(t 27)]),o 26 (m 28),o 29 (e 26 0),o 30 (e 26 1),o 5 (.alloc [(n 0),(.nils 1),(.nils 1)]),w (.store 3 (t 5) (t 29)),o 6 (m 30)]),
 (q [(.reg [o 31 (m 4),o 32 (bc .neq 31 (n 0)),o 33 (m 32),g 34 33 false (m 6),g 35 33 false (bc .neq 34 (n 0)),o 36 (pt 33 35),o 37 (m 36),g 38 37 false (f 2 3),g 39 37 false (l 38),g 40 37 false (ln 39),g 41 37 false (f 2 1),g 42 37 false (l 41),g 43 37 false (ln 42),g 44 37 false (b .neq 40 43),o 45 (pt 37 44),o 46 (m 45),g 47 46 false (f 2 5),g 48 46 false (l 47),g 49 46 false (ln 48),g 50 46 false (f 2 1),g 51 46 false (l 50),g 52 46 false (ln 51),g 53 46 false (b .neq 49 52),o 54 (pt 46 53)]),
 (i 54 (q [(.reg [o 2 (.mv (c .bf))]),
 .ret]) .skip)]),
 (q [(.reg [o 7 (.mv (c (n 0)))]),
 (.block 0 (.loop (q [(q [(.reg [o 55 (m 7),o 56 (f 2 3),o 57 (l 56),o 58 (ln 57),o 59 (b .lss 55 58)]),
 (i 59 .skip (.exit 0))]),
 (.block 1 (q [(.regd [o 62 (f 2 3),o 63 (l 62),o 64 (m 7),o 65 (ia 1 63 64),o 66 (l 65),o 67 (f 2 5),o 68 (l 67),o 69 (m 7),o 70 (ia 1 68 69),o 71 (l 70),o 8 (m 66),o 9 (m 71)] [0,1,0,7,15,0,32,0,224,480,31,2047]),
 (q [(.reg [o 72 (m 8),o 73 (ln 72),o 74 (f 0 1),o 75 (l 74),o 76 (b .neq 73 75),o 77 (m 76),g 78 77 false (m 9),g 79 77 false (ln 78),g 80 77 false (f 0 1),g 81 77 false (l 80),g 82 77 false (b .neq 79 81),o 83 (pt 77 82),o 84 (m 83),g 85 84 false (m 8),g 86 84 false (.call 30 [(t 85),(c (n 2))]),g 87 84 false (.un .not (t 86)),o 88 (pt 84 87),o 89 (m 88),g 90 89 false (m 8),g 91 89 false (.call 30 [(t 90),(c (n 3))]),g 92 89 false (.un .not (t 91)),o 93 (pt 89 92),o 94 (m 93),g 95 94 false (m 8),g 96 94 false (.call 30 [(t 95),(c (n 4))]),g 97 94 false (.un .not (t 96)),o 98 (pt 94 97)]),
 (i 98 (q [(.reg [o 2 (.mv (c .bf))]),
 .ret]) .skip)]),
 (q [(.reg [o 99 (m 9),o 100 (.call 30 [(t 99),(c (n 1))]),o 101 (.un .not (t 100)),o 102 (m 101),g 103 102 false (m 9),g 104 102 false (.call 30 [(t 103),(c (n 4))]),g 105 102 false (.un .not (t 104)),o 106 (pt 102 105),o 107 (m 106),g 108 107 false (m 9),g 109 107 false (.call 30 [(t 108),(c (n 5))]),g 110 107 false (.un .not (t 109)),o 111 (pt 107 110)]),
 (i 111 (q [(.reg [o 2 (.mv (c .bf))]),
 .ret]) .skip)]),
 (.reg [o 10 (.mv (c (n 0)))]),
 (.block 2 (.loop (q [(q [(.reg [o 112 (m 10),o 113 (f 0 1),o 114 (l 113),o 115 (b .lss 112 114)]),
 (i 115 .skip (.exit 2))]),
 (.block 3 (q [(.reg [o 11 (.mv (c (n 0)))]),
 (.block 4 (.loop (q [(q [(.reg [o 118 (m 11),o 119 (f 0 1),o 120 (l 119),o 121 (b .lss 118 120)]),
 (i 121 .skip (.exit 4))]),
 (.block 5 (q [(.regd [o 124 (m 8),o 125 (m 10),o 126 (ia 1 124 125),o 127 (l 126),o 128 (m 11),o 129 (.conv .u64 (t 128)),o 130 (b .shr 127 129),o 131 (bc .and 130 (u 1)),o 132 (bc .eql 131 (u 1)),o 133 (m 132),g 134 133 true (m 9),g 135 133 true (m 11),g 136 133 true (ia 1 134 135),g 137 133 true (l 136),g 138 133 true (m 9),g 139 133 true (m 10),g 140 133 true (ia 1 138 139),g 141 133 true (l 140),g 142 133 true (b .neq 137 141),o 143 (pf 133 142),o 144 (m 143),g 145 144 false (m 9),g 146 144 false (m 10),g 147 144 false (ia 1 145 146),g 148 144 false (l 147),g 149 144 false (m 8),g 150 144 false (m 10),g 151 144 false (ia 1 149 150),g 152 144 false (l 151),g 153 144 false (b .andNot 148 152),g 154 144 false (bc .neq 153 (u 0)),o 155 (pt 144 154)] [0,0,3,7,0,16,63,127,255,511,1023,1023,4095,8191,1023,1023,50175,115711,262143,524287,1048575,2097151,2097151,8388607,16777215,2097151,2097151,102760447,236978175,536870911,1073741823,2147483647]),
 (i 155 (q [(.reg [o 2 (.mv (c .bf))]),
 .ret]) .skip)])),
 (.reg [o 122 (m 11),o 123 (bc .add 122 (n 1)),o 11 (m 123)])])))])),
 (.reg [o 116 (m 10),o 117 (bc .add 116 (n 1)),o 10 (m 117)])])))])),
 (.reg [o 60 (m 7),o 61 (bc .add 60 (n 1)),o 7 (m 61)])])))]),
 (.reg [o 156 (.call 11 []),o 2 (m 156)]),
 .ret])⟩
end
theorem k_wittinglaw33_PlausLogics:compFn Tryd.prog f_wittinglaw33_PlausLogics=some c_wittinglaw33_PlausLogics:=by kernel_rfl
end Go.Ab
namespace Go.Ab
open Go Go.Proofs
set_option linter.unusedSimpArgs false
set_option linter.unusedVariables false
set_option maxRecDepth 10000
set_option maxHeartbeats 4000000
variable {T:Nat→Obj→Prop}
theorem fn_HasT (hT:TzOk T) {r:List (BitVec 64)} {k:Int} (h:hasB r k=true):Fn Tryd.prog T f_relation_Has [.d (dU r),.d (.int .i64 k)] [] (.d (.bool true)) []:=by
 have:=fn_Has hT r k
 rwa [h] at this
theorem row_of {f:Nat→List (BitVec 64)} {n i:Nat} {x:List (BitVec 64)} (h:((List.range n).map f)[i]? = some x):x=f i:=by
 rw [List.getElem?_map,Option.map_eq_some_iff] at h
 obtain ⟨j,h1,rfl⟩:=h
 rw [get_range h1]
theorem know_len {p:PM} {a:Nat} : (knowR p a).length=p.W.toNat:=by simp [knowR]
theorem belief_len {p:PM} {a:Nat} : (beliefR p a).length=p.W.toNat:=by simp [beliefR]
theorem shr_bit {x:BitVec 64} {v:Nat} (hv:v < 18446744073709551616):x >>> (BitVec.ofInt 64 (v:Int)).toNat&&&1=1↔x.getLsbD v=true:=by
 rw [show (BitVec.ofInt 64 (v:Int)).toNat=v by rw [BitVec.toNat_ofInt,Int.emod_eq_of_lt (by omega) (by omega)];rfl]
 exact bit_one x v
abbrev kmK (p:PM):KM:=⟨p.W,p.val,(List.range p.cell.length).map (knowR p)⟩
abbrev kmB (p:PM):KM:=⟨p.W,p.val,(List.range p.cell.length).map (beliefR p)⟩
theorem law_Logics (hT:TzOk T) (p:PM) (hp:IntsOk p.rank):Fn Tryd.prog T f_wittinglaw33_PlausLogics [.d (dPM p)] [] (.d (.bool true)) []:=by
 have hR:=ranks_ok (T:=T)
 have hA:=fn_awake hT
 refine fn_dataR hmix k_wittinglaw33_PlausLogics (by show 1≤157;decide) ?_
 (repeat' ((conv=>whnf);first|refine vA ?_|refine vE ?_|((first|refine vD ?_ ?_|refine vF ?_ ?_)<;>intro hc)|refine vZ ?_|refine yD (fn_Few _) ⟨⟨rfl,rfl⟩,rfl⟩ rfl ?_|refine yD hA rfl rfl ?_|refine yD (fn_plaus_Check hR _ hp) ⟨⟨rfl,rfl⟩,rfl⟩ rfl ?_));all_goals try conv=>whnf
 have hck:=‹checkL p=0›
 have hgd:=checkL_good hck
 have hw1:=hgd.w1
 have hw2:=hgd.w2
 have hn4:=hgd.n4
 have hK:Fn Tryd.prog T f_plaus_Knowledge [.d (dPM p)] [] (.d (dKI (kmK p,0))) []:=by
  have:=fn_Knowledge hR p hp
  rwa [kripkeL,if_neg (not_not_intro hck)] at this
 have hB:Fn Tryd.prog T f_plaus_Belief [.d (dPM p)] [] (.d (dKI (kmB p,0))) []:=by
  have:=fn_Belief hR p hp
  rwa [kripkeL,if_neg (not_not_intro hck)] at this
 (repeat' ((conv=>whnf);first|refine vA ?_|refine vH ?_|(refine vD ?_ ?_<;>intro hc<;>try simp only [vL] at hc)|refine vJ fun hg=>?_|refine vZ ?_|refine yN hK (by (repeat refine ⟨⟨rfl,rfl⟩,?_⟩);rfl) ?_|refine yN hB (by (repeat refine ⟨⟨rfl,rfl⟩,?_⟩);rfl) ?_));all_goals try conv=>whnf
 ·exact absurd rfl hc
 ·exact absurd rfl hc
 refine loop_mem (fun (a:Nat)=>[(1,.ptr 0 0),(3,.ptr 1 0),(5,.ptr 2 0),(7,.d (.int .i64 ((a:Int))))]) (fun (a:Nat)=>[(0,some (boxPM p)),(1,some (boxKM (kmK p))),(2,some (boxKM (kmB p)))]) 3 (fun (a:Nat)=>a≤p.cell.length) (fun (a:Nat)=>p.cell.length - a) (0) [(0,0),(1,1),(2,2)] [] (by omega) (by (refine ⟨rfl,rfl,rfl,?_,?_⟩;repeat' first|exact trivial|exact rfl|refine And.intro ?_ ?_|refine ⟨_,rfl,?_⟩|decide)) ?_
 rintro a ha
 (repeat' ((conv=>whnf);first|refine vA ?_|((first|refine vD ?_ ?_|refine vF ?_ ?_)<;>intro hc<;>try simp only [vL] at hc)|refine vJ fun hg=>?_|(refine vQ ?_ fun x hx=>?_;·(simp only [vM] at *;omega))|(refine vU ?_ ?_;·kernel_rfl)|refine vZ ?_));all_goals try conv=>whnf
 ·have e1:=row_of ‹((List.range _).map (knowR p))[a]? = some _›
  rw [e1,know_len] at hc
  omega
 ·have e1:=row_of ‹((List.range _).map (beliefR p))[a]? = some _›
  rw [e1,belief_len] at hc
  omega
 ·have e1:=row_of ‹((List.range _).map (knowR p))[a]? = some _›
  have e2:=row_of ‹((List.range _).map (beliefR p))[a]? = some _›
  have han:a < p.cell.length:=by omega
  subst e1
  subst e2
  (repeat' ((conv=>whnf);first|refine TestS.no (by decide) ?_|refine vA ?_|refine yD (fn_HasT hT (know_refl hgd han)) ⟨⟨rfl,rfl⟩,⟨rfl,rfl⟩,rfl⟩ rfl ?_|refine yD (fn_HasT hT (know_sym hgd han)) ⟨⟨rfl,rfl⟩,⟨rfl,rfl⟩,rfl⟩ rfl ?_|refine yD (fn_HasT hT (know_tr hgd han)) ⟨⟨rfl,rfl⟩,⟨rfl,rfl⟩,rfl⟩ rfl ?_|refine yD (fn_HasT hT (belief_ser hgd han)) ⟨⟨rfl,rfl⟩,⟨rfl,rfl⟩,rfl⟩ rfl ?_|refine yD (fn_HasT hT (belief_tr hgd han)) ⟨⟨rfl,rfl⟩,⟨rfl,rfl⟩,rfl⟩ rfl ?_|refine yD (fn_HasT hT (belief_euc hgd han)) ⟨⟨rfl,rfl⟩,⟨rfl,rfl⟩,rfl⟩ rfl ?_));all_goals try conv=>whnf
  refine loop_mem (fun (w:Nat)=>[(1,.ptr 0 0),(3,.ptr 1 0),(5,.ptr 2 0),(7,.d (.int .i64 ((a:Int)))),(8,.d (dU (knowR p a))),(9,.d (dU (beliefR p a))),(10,.d (.int .i64 ((w:Int))))]) (fun (w:Nat)=>[(0,some (boxPM p)),(1,some (boxKM (kmK p))),(2,some (boxKM (kmB p)))]) 3 (fun (w:Nat)=>w≤p.W.toNat) (fun (w:Nat)=>p.W.toNat - w) (0) [(0,0),(1,1),(2,2)] [] (by omega) (by (refine ⟨rfl,rfl,rfl,?_,?_⟩;repeat' first|exact trivial|exact rfl|refine And.intro ?_ ?_|refine ⟨_,rfl,?_⟩|decide)) ?_
  rintro w hw
  (repeat' ((conv=>whnf);first|refine vA ?_|(refine vF ?_ ?_<;>intro hc<;>try simp only [vL] at hc)|(refine vO ?_ ?_;·omega)|fail));all_goals try conv=>whnf
  ·refine loop_mem (fun (v:Nat)=>[(1,.ptr 0 0),(3,.ptr 1 0),(5,.ptr 2 0),(7,.d (.int .i64 ((a:Int)))),(8,.d (dU (knowR p a))),(9,.d (dU (beliefR p a))),(10,.d (.int .i64 ((w:Int)))),(11,.d (.int .i64 ((v:Int))))]) (fun (v:Nat)=>[(0,some (boxPM p)),(1,some (boxKM (kmK p))),(2,some (boxKM (kmB p)))]) 3 (fun (v:Nat)=>v≤p.W.toNat) (fun (v:Nat)=>p.W.toNat - v) (0) [(0,0),(1,1),(2,2)] [] (by omega) (by (refine ⟨rfl,rfl,rfl,?_,?_⟩;repeat' first|exact trivial|exact rfl|refine And.intro ?_ ?_|refine ⟨_,rfl,?_⟩|decide)) ?_
   rintro v hv
   have hkl:=know_len (p:=p) (a:=a)
   have hbl:=belief_len (p:=p) (a:=a)
   (repeat' ((conv=>whnf);first|refine vA ?_|((first|refine vD ?_ ?_|refine vF ?_ ?_)<;>intro hc<;>try simp only [vL] at hc)|refine vN ‹_› ?_|(refine vQ ?_ fun x hx=>?_;·omega)|(refine vO ?_ ?_;·omega)|(refine vU ?_ ?_;·kernel_rfl)|refine vZ ?_));all_goals try conv=>whnf
   ·have h1:=uAt_of ‹(knowR p a)[w]? = some _›
    have h2:=uAt_of ‹(beliefR p a)[v]? = some _›
    have h3:=uAt_of ‹(beliefR p a)[w]? = some _›
    have h4:=(shr_bit (v:=v) (by omega)).1 ‹(_:BitVec 64) >>> (BitVec.ofInt 64 (v:Int)).toNat&&&(1:BitVec 64)=1›
    rw [← h1,uAt_bit] at h4
    exact absurd (h2.symm.trans ((belief_same hgd han h4).trans h3)) hc
   ·have h1:=uAt_of ‹(knowR p a)[w]? = some _›
    have h3:=uAt_of hx
    have h5:=belief_know hgd han w
    rw [h1,h3] at h5
    exact absurd h5 hc
   ·exact ⟨v+1,[(0,0),(1,1),(2,2)],[],by (omega),by (omega),by (refine ⟨rfl,rfl,rfl,?_,?_⟩;repeat' first|exact trivial|exact rfl|refine And.intro ?_ ?_|refine ⟨_,rfl,?_⟩|decide)⟩
   ·have h1:=uAt_of ‹(knowR p a)[w]? = some _›
    have h3:=uAt_of hx
    have h5:=belief_know hgd han w
    rw [h1,h3] at h5
    exact absurd h5 hc
   ·exact ⟨v+1,[(0,0),(1,1),(2,2)],[],by (omega),by (omega),by (refine ⟨rfl,rfl,rfl,?_,?_⟩;repeat' first|exact trivial|exact rfl|refine And.intro ?_ ?_|refine ⟨_,rfl,?_⟩|decide)⟩
   ·exact ⟨w+1,[(0,0),(1,1),(2,2)],[],by (omega),by (omega),by (refine ⟨rfl,rfl,rfl,?_,?_⟩;repeat' first|exact trivial|exact rfl|refine And.intro ?_ ?_|refine ⟨_,rfl,?_⟩|decide)⟩
  ·exact ⟨a+1,[(0,0),(1,1),(2,2)],[],by (omega),by (omega),by (refine ⟨rfl,rfl,rfl,?_,?_⟩;repeat' first|exact trivial|exact rfl|refine And.intro ?_ ?_|refine ⟨_,rfl,?_⟩|decide)⟩
 ·(repeat' ((conv=>whnf);first|refine vZ ?_|refine yD hA rfl rfl ?_));all_goals try conv=>whnf
  all_goals skip
end Go.Ab
namespace Go.Proofs.YtlaahcmflibkgaaDoor
open Go Go.Ab Go.RowKit Go.ChangeShapes Go.WideShapes
set_option linter.unusedVariables false
set_option maxRecDepth 100000 in
theorem plausLogics_holds:Rows.PlausLogicsSaid :=
 OpenClaim.holds_of_wide 9 Tryd.f9 rfl rfl rfl rfl rfl rfl rfl ⟨rfl,rfl,rfl,rfl,rfl⟩ rfl rfl rfl rfl rfl (by kernel_rfl) Tryd.func9 (by kernel_rfl)
  (of_decide_eq_true (by kernel_rfl)) (by unfold Func.isWrapper;rw [if_neg (of_decide_eq_false (by kernel_rfl))];exact ⟨rfl,rfl⟩)
  (fun os started H enc _=>law_lifted (C:=Tryd.checked) (s:=Rows.plausLogicsSpec) (laid:=laidL) knob started (by kernel_rfl) Tryd.func9 laidOut [25] Tryd.params9 rfl Tryd.underlying4 rfl (by kernel_rfl)
   (fun ds hds=>by match ds,hds with|[d1],_=>rfl)
   (ChangeSpec.witness_shaped (enc:=enc) (C:=Tryd.checked) (os:=os) (X:=fun w _=>laidMetH Tryd.prog laidL w) false (World.doorLaid Tryd.prog 14 os)
    #[.agg #[.int .i64 0,.slice none 0 0,.slice none 0 0,.slice none 0 0]] 8 rfl (World.shaped_of_RefB (by kernel_rfl) (by kernel_rfl)) (by kernel_rfl) (by kernel_rfl) (by kernel_rfl) (door_met os _))
   (fun W hL=>⟨TOf W,(laid_T hL).1,(laid_T hL).2,fun ds hds=>by
    obtain ⟨p1,r,rfl,hc1,hp1,k1⟩:=arg25 hds
    obtain rfl:=arg0 k1
    exact law_Logics (tz_of hL) p1 hp1⟩))
theorem plausLogics_card:Rows.PlausLogicsCardSaid :=
 Claim7.holds_tied_plain_at .later [] [.data] true (true, "94bee8f41b3226e5d37178b5def64642b3a338ae831b1aec4758e198409df0af") false
  plausLogics_holds (fun _ h=>by cases h) (by kernel_rfl) (fun _ h=>by cases h) plausLogics_row_tie rfl ⟨rfl,rfl⟩ (by kernel_rfl) rfl
  (fun f fn hf hfn=>by
   obtain rfl:f=9:=Option.some.inj ((show Tryd.prog.funcNamed Rows.plausLogicsRow.func=some 9 by kernel_rfl).symm.trans hf) |>.symm
   obtain rfl:fn=Tryd.f9:=(Option.some.inj (Tryd.func9.symm.trans hfn)).symm
   exact ⟨by kernel_rfl,fun j t ht=>by
    rw [Tryd.params9] at ht
    have hm:t∈[25]:=by
     have:=List.mem_of_getElem? (l:=[25]) (i:=j) (by simpa using ht)
     exact this
    have hall:([25].all fun t=>Tryd.prog.wantsStandIn t==false)=true:=by kernel_rfl
    exact eq_of_beq (List.all_eq_true.1 hall t hm)⟩)
  (by kernel_rfl)
end Go.Proofs.YtlaahcmflibkgaaDoor
