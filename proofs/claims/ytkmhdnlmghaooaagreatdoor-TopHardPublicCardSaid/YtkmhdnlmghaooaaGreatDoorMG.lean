/- What is proved here: the law TopHardPublic returns true at every input and leaves its arguments as they were. The condition is the row own: the listed table of math bits holds what the text lays. -/
import Derived.Test.YtkmhdnlmghaooaaGreatDoorMF
set_option linter.unusedVariables false
set_option linter.unusedSimpArgs false
set_option linter.unusedSectionVars false
namespace Go.Ab
open Go Go.Proofs
section
open K
def f_wittingtop_TopHardPublic:Nat:=4
def c_wittingtop_TopHardPublic:CFn:=⟨111,[.tmp 4],(q [(.reg [o 2 (.box 4 (t 0)),o 4 (.mv (c .bf))]),
 (q [(.reg [o 16 (la 4 2),o 17 (.call 12 [(t 16)]),o 18 (.un .not (t 17)),o 19 (m 18),g 20 19 false (m 1),g 21 19 false (ln 20),g 22 19 false (bc .gtr 21 (n 30)),o 23 (pt 19 22),o 24 (m 23),g 25 24 false (la 4 2),g 26 24 false (.call 13 [(t 25)]),g 27 24 false (bc .neq 26 (n 0)),o 28 (pt 24 27),o 29 (m 28),g 30 29 false (m 1),g 31 29 false (.call 9 [(t 30)]),g 32 29 false (bc .andNot 31 (n 11)),g 33 29 false (bc .neq 32 (n 0)),o 34 (pt 29 33),o 35 (m 34),g 36 35 false (m 1),g 37 35 false (ln 36),g 38 35 false (bc .eql 37 (n 0)),o 39 (pt 35 38)]),
 (i 39 (q [(.reg [o 40 (.call 14 []),o 4 (m 40)]),
 .ret]) .skip)]),
 (.reg [o 42 (la 4 2),o 43 (.call 15 [(t 42)]),o 41 (m 43),o 44 (e 41 0),o 45 (e 41 1),o 5 (.alloc [(n 0),(.nils 1),(.nils 1)]),w (.store 3 (t 5) (t 44)),o 6 (m 45)]),
 (q [(.reg [o 46 (m 6),o 47 (bc .neq 46 (n 0))]),
 (i 47 (q [(.reg [o 4 (.mv (c .bf))]),
 .ret]) .skip)]),
 (.reg [o 49 (la 3 5),o 50 (m 1),o 51 (.call 16 [(t 49),(t 50)]),o 48 (m 51),o 52 (e 48 0),o 53 (e 48 1),o 54 (e 48 2),o 7 (.alloc [(n 0),(.nils 1),(.nils 1)]),w (.store 3 (t 7) (t 52)),o 8 (m 53),o 9 (m 54)]),
 (.reg [o 56 (la 4 2),o 57 (m 1),o 58 (.call 17 [(t 56),(t 57)]),o 55 (m 58),o 59 (e 55 0),o 60 (e 55 1),o 61 (e 55 2),o 10 (.alloc [(n 0),(.nils 1),(.nils 1),(.nils 1)]),w (.store 4 (t 10) (t 59)),o 11 (m 60),o 12 (m 61)]),
 (q [(.reg [o 62 (m 9),o 63 (m 12),o 64 (b .neq 62 63),o 65 (m 64),g 66 65 false (m 9),g 67 65 false (bc .neq 66 (n 0)),o 68 (pt 65 67)]),
 (i 68 (q [(.reg [o 69 (m 9),o 70 (m 12),o 71 (b .eql 69 70),o 72 (m 71),g 73 72 true (.call 14 []),o 74 (pf 72 73),o 4 (m 74)]),
 .ret]) .skip)]),
 (.reg [o 76 (la 4 10),o 77 (.call 15 [(t 76)]),o 75 (m 77),o 78 (e 75 0),o 79 (e 75 1),o 13 (.alloc [(n 0),(.nils 1),(.nils 1)]),w (.store 3 (t 13) (t 78)),o 14 (m 79)]),
 (q [(.reg [o 80 (m 14),o 81 (bc .neq 80 (n 0)),o 82 (m 81),g 83 82 false (m 8),g 84 82 false (ln 83),g 85 82 false (m 11),g 86 82 false (ln 85),g 87 82 false (b .neq 84 86),o 88 (pt 82 87),o 89 (m 88),g 90 89 false (la 3 7),g 91 89 false (la 3 13),g 92 89 false (.call 18 [(t 90),(t 91)]),g 93 89 false (.un .not (t 92)),o 94 (pt 89 93)]),
 (i 94 (q [(.reg [o 4 (.mv (c .bf))]),
 .ret]) .skip)]),
 (q [(.reg [o 15 (.mv (c (n 0)))]),
 (.block 0 (.loop (q [(q [(.reg [o 95 (m 15),o 96 (m 8),o 97 (ln 96),o 98 (b .lss 95 97)]),
 (i 98 .skip (.exit 0))]),
 (.block 1 (q [(.regd [o 101 (m 8),o 102 (m 15),o 103 (ia 1 101 102),o 104 (l 103),o 105 (m 11),o 106 (m 15),o 107 (ia 1 105 106),o 108 (l 107),o 109 (b .neq 104 108)] [0,0,3,7,0,0,48,112,255]),
 (i 109 (q [(.reg [o 4 (.mv (c .bf))]),
 .ret]) .skip)])),
 (.reg [o 99 (m 15),o 100 (bc .add 99 (n 1)),o 15 (m 100)])])))]),
 (.reg [o 110 (.call 14 []),o 4 (m 110)]),
 .ret])⟩
end
theorem k_wittingtop_TopHardPublic:zm Tryz.prog f_wittingtop_TopHardPublic=some c_wittingtop_TopHardPublic:=by kernel_rfl
end Go.Ab
namespace Go.Ab
open Go Go.Proofs
set_option maxRecDepth 10000
set_option maxHeartbeats 4000000
variable {T:Nat→Obj→Prop}
section
variable {p:PM} (hc0:zy p=0) {a:Nat} (ha:a < p.cell.length)
include hc0 ha
theorem rkP_chain {w:Nat} : ∀ k:Nat,w < p.W.toNat→(k:Int)≤rkA p a w → ∃ v,v < p.W.toNat∧rkA p a v=k:=by
 have hg:=zB hc0
 have hl:=hg.lens a ha
 suffices H : ∀ (n:Nat) (w:Nat) (k:Nat),w < p.W.toNat→rkA p a w=k+n → ∃ v,v < p.W.toNat∧rkA p a v=k from fun k hw h=>H (rkA p a w - k).toNat w k hw (by omega)
 intro n
 induction n with
 | zero=>intro w k hw h;exact ⟨w,hw,by omega⟩
 | succ n ih =>
  intro w k hw h
  rcases (hg.ranked a ha w (by omega)).2 with h0|⟨v,hv,-,hr⟩
  ·unfold rkA at h;omega
  ·refine ih v k (by omega) ?_
   unfold rkA at h ⊢;omega
theorem rkP_lt {w:Nat} (hw:w < p.W.toNat):0≤rkA p a w∧rkA p a w < p.W:=by
 have hg:=zB hc0
 have hl:=hg.lens a ha
 have h0:0≤rkA p a w:=(hg.ranked a ha w (by omega)).1
 refine ⟨h0,?_⟩
 have hn:=zzK (l:=(List.range ((rkA p a w).toNat+1)).map fun k:Nat=>(k:Int)) (l':=(List.range p.W.toNat).map (rkA p a)) (by
  refine List.Pairwise.map _ (fun x y h=>?_) List.nodup_range
  omega) (fun x hx=>by
  obtain ⟨k,hk,rfl⟩:=List.mem_map.1 hx
  rw [List.mem_range] at hk
  obtain ⟨v,hv,e⟩:=rkP_chain hc0 ha k hw (by omega)
  exact List.mem_map.2 ⟨v,List.mem_range.2 hv,e⟩)
 simp at hn
 omega
end
theorem ints_ofP {p:PM} (hc0:zy p=0):zaM p.rank:=by
 have hg:=zB hc0
 have h2:=hg.w2
 intro r hr x hx
 obtain ⟨a,ha,rfl⟩:=List.mem_iff_getElem.1 hr
 have ha':a < p.cell.length:=by rw [← hg.len];exact ha
 obtain ⟨w,hw,rfl⟩:=List.mem_iff_getElem.1 hx
 have hl:=hg.lens a ha'
 have e:za p.rank a=p.rank[a]:=zaV (List.getElem?_eq_getElem ha)
 rw [e] at hl
 have:=rkP_lt hc0 ha' (w:=w) (by omega)
 have e2:rkA p a w=p.rank[a][w]:=zY (by rw [e];exact List.getElem?_eq_getElem hw)
 rw [← e2]
 exact ⟨by omega,by omega⟩
theorem law_HardPublic (hT:zma T) (p:PM) (hp:zaM p.rank) (f:List Nd):Fn Tryz.prog T f_wittingtop_TopHardPublic [.d (dPM p),.d (dF f)] [] (.d (.bool true)) []:=by
 have hA:=zzt hT
 have hF:=zz1 (T:=T) p
 have hC:=zcP zxf (T:=T) p hp
 have hG:=zry (T:=T) f
 refine zd zt k_wittingtop_TopHardPublic (by show 2≤111;decide) ?_
 generalize decide (p.val.length≤20∧p.cell.length≤8∧p.rank.length≤8∧(∀ a,a < p.cell.length→(za p.cell a).length≤20) ∧ ∀ a,a < p.rank.length→(za p.rank a).length≤20)=b at hF
 cases b with
 | false=>(repeat' ((conv=>whnf);first|refine vA ?_|refine vE ?_|refine vH ?_|refine vT ?_|refine vZ ?_|refine yD hF ⟨⟨rfl,rfl⟩,rfl⟩ rfl ?_|refine yD hA (by (repeat refine ⟨⟨rfl,rfl⟩,?_⟩);rfl) rfl ?_));all_goals try conv=>whnf
 | true =>
  by_cases hck:zy p=0
  ·by_cases hfr:zaz .i64 (fun p q=>p &&& ~~~q) (uni zbj (cL f):Int) 11=0
   ·have cK:=zy5 (T:=T) zxf p hp
    rw [zzI hck] at cK
    have cAn:=zy8 (T:=T) hT (kmP p) f
    have cHd:=zzV (T:=T) zxf (fun a b h1 h2=>zvA h1 h2) p hp f
    obtain ⟨e1,e2⟩:=zzZ hck hfr
    by_cases h0:(zhB p f).2.2=0
    ·obtain ⟨k1,k2,k3⟩:=e2 h0
     have hq:zaM (zhB p f).1.rank:=ints_ofP k1
     have cK2:=zy5 (T:=T) zxf (zhB p f).1 hq
     rw [zzI k1,k2] at cK2
     have cS:=zzF (T:=T) (zow (kmP p) f).1 (zow (kmP p) f).1
     rw [decide_eq_true rfl] at cS
     rw [show zhB p f=((zhB p f).1,(zow (kmP p) f).2.1,0) from Prod.ext rfl (Prod.ext k3 h0)] at cHd
     rw [show zow (kmP p) f=((zow (kmP p) f).1,(zow (kmP p) f).2.1,0) from Prod.ext rfl (Prod.ext rfl (e1.symm.trans h0))] at cAn
     clear e1 e2 k2 k3 h0 k1
     generalize (zow (kmP p) f).1=n at *
     generalize (zow (kmP p) f).2.1=l at *
     generalize (zhB p f).1=q at *
     generalize kmP p=m at *
     (repeat' ((conv=>whnf);first|refine vA ?_|refine vE ?_|refine vG ?_|refine vH ?_|((first|refine vD ?_ ?_|refine vF ?_ ?_)<;>intro hc<;>try simp only [vL] at hc)|refine vJ fun hg=>?_|refine vT ?_|refine vZ ?_|refine yD hF ⟨⟨rfl,rfl⟩,rfl⟩ rfl ?_|refine yD hC ⟨⟨rfl,rfl⟩,rfl⟩ rfl ?_|refine yD hG ⟨⟨rfl,rfl⟩,rfl⟩ rfl ?_|refine yD hA (by (repeat refine ⟨⟨rfl,rfl⟩,?_⟩);rfl) rfl ?_|refine yN cK ⟨⟨rfl,rfl⟩,rfl⟩ ?_|refine yN cAn ⟨⟨rfl,rfl⟩,⟨rfl,rfl⟩,rfl⟩ ?_|refine yN cHd ⟨⟨rfl,rfl⟩,⟨rfl,rfl⟩,rfl⟩ ?_|refine yN cK2 ⟨⟨rfl,rfl⟩,rfl⟩ ?_|refine yD cS ⟨⟨rfl,rfl⟩,⟨rfl,rfl⟩,rfl⟩ rfl ?_));all_goals try conv=>whnf
     ·exact absurd rfl ‹_≠_›
     refine zA (fun (j:Nat)=>[(8,.d (dI l)),(11,.d (dI l)),(15,.d (.int .i64 ((j:Int))))]) (fun (j:Nat)=>[]) 0 (fun (j:Nat)=>j≤l.length) (fun (j:Nat)=>l.length - j) (0) [] [] (by omega) (by (refine ⟨rfl,rfl,rfl,?_,?_⟩;repeat' first|exact trivial|exact rfl|refine And.intro ?_ ?_)) ?_
     rintro j hj
     (repeat' ((conv=>whnf);first|refine vA ?_|((first|refine vD ?_ ?_|refine vF ?_ ?_)<;>intro hc<;>try simp only [vL] at hc)|refine vJ fun hg=>?_|refine vT ?_|refine vN ‹_› ?_|(refine vQ ?_ fun x hx=>?_;·omega)|(refine vO ?_ ?_;·omega)|(refine vU ?_ ?_;·kernel_rfl)|refine vZ ?_|refine yD hA (by (repeat refine ⟨⟨rfl,rfl⟩,?_⟩);rfl) rfl ?_));all_goals try conv=>whnf
     ·exact absurd rfl ‹_≠_›
     ·refine ⟨j+1,[],[],?_,?_,by (refine ⟨rfl,rfl,rfl,?_,?_⟩;repeat' first|exact trivial|exact rfl|refine And.intro ?_ ?_)⟩
      ·(omega)
      ·(omega)
    ·clear e2
     rw [e1] at h0
     rw [show zhB p f=((zhB p f).1,(zhB p f).2.1,(zow (kmP p) f).2.2) from Prod.ext rfl (Prod.ext rfl e1)] at cHd
     (repeat' ((conv=>whnf);first|refine vA ?_|refine vE ?_|refine vG ?_|refine vH ?_|((first|refine vD ?_ ?_|refine vF ?_ ?_)<;>intro hc<;>try simp only [vL] at hc)|refine vJ fun hg=>?_|refine vT ?_|refine vZ ?_|refine yD hF ⟨⟨rfl,rfl⟩,rfl⟩ rfl ?_|refine yD hC ⟨⟨rfl,rfl⟩,rfl⟩ rfl ?_|refine yD hG ⟨⟨rfl,rfl⟩,rfl⟩ rfl ?_|refine yD hA (by (repeat refine ⟨⟨rfl,rfl⟩,?_⟩);rfl) rfl ?_|refine yN cK ⟨⟨rfl,rfl⟩,rfl⟩ ?_|refine yN cAn ⟨⟨rfl,rfl⟩,⟨rfl,rfl⟩,rfl⟩ ?_|refine yN cHd ⟨⟨rfl,rfl⟩,⟨rfl,rfl⟩,rfl⟩ ?_));all_goals try conv=>whnf
     all_goals first|exact absurd trivial ‹¬True›|exact absurd ‹(zow (kmP p) f).2.2=0› h0|skip
   ·(repeat' ((conv=>whnf);first|refine vA ?_|refine vE ?_|refine vG ?_|((first|refine vD ?_ ?_|refine vF ?_ ?_)<;>intro hc<;>try simp only [vL] at hc)|refine vJ fun hg=>?_|refine vT ?_|refine vZ ?_|refine yD hF ⟨⟨rfl,rfl⟩,rfl⟩ rfl ?_|refine yD hC ⟨⟨rfl,rfl⟩,rfl⟩ rfl ?_|refine yD hG ⟨⟨rfl,rfl⟩,rfl⟩ rfl ?_|refine yD hA (by (repeat refine ⟨⟨rfl,rfl⟩,?_⟩);rfl) rfl ?_));all_goals try conv=>whnf
    all_goals exact absurd ‹zaz _ _ _ _=0› hfr
  ·(repeat' ((conv=>whnf);first|refine vA ?_|refine vE ?_|refine vG ?_|((first|refine vD ?_ ?_|refine vF ?_ ?_)<;>intro hc<;>try simp only [vL] at hc)|refine vJ fun hg=>?_|refine vT ?_|refine vZ ?_|refine yD hF ⟨⟨rfl,rfl⟩,rfl⟩ rfl ?_|refine yD hC ⟨⟨rfl,rfl⟩,rfl⟩ rfl ?_|refine yD hG ⟨⟨rfl,rfl⟩,rfl⟩ rfl ?_|refine yD hA (by (repeat refine ⟨⟨rfl,rfl⟩,?_⟩);rfl) rfl ?_));all_goals try conv=>whnf
   all_goals exact absurd ‹zy p=0› hck
end Go.Ab
namespace Go.Proofs.YtkmhdnlmghaooaaGreatDoor
open Go Go.Ab Go.RowKit Go.ChangeShapes Go.WideShapes
set_option maxRecDepth 100000
theorem topHardPublic_c9:(Rows.topHardPublicRow.inPlace==Tryz.pinned.checked.prog.inPlace 4)=true:=by kernel_rfl
theorem topHardPublic_c10:(Rows.topHardPublicRow.unfollowed==Tryz.pinned.checked.prog.unfollowed 4)=true:=by kernel_rfl
theorem topHardPublic_c11:(Rows.topHardPublicRow.recurses==Tryz.pinned.checked.prog.recurses 4)=true:=by kernel_rfl
theorem topHardPublic_c12:(Rows.topHardPublicRow.named==Tryz.pinned.checked.prog.varsNamed 4)=true:=by kernel_rfl
theorem topHardPublic_c25:Tryz.pinned.checked.prog.mayEnter=true:=by kernel_rfl
theorem topHardPublic_c26:(Rows.topHardPublicRow.lifted==Tryz.pinned.checked.prog.liftsFinal)=true:=by kernel_rfl
theorem topHardPublic_c27:(Tryz.pinned.checked.prog.make==some Rows.topHardPublicRow.make)=true:=by kernel_rfl
theorem topHardPublic_facts:joinedFacts Tryz.pinned.checked.prog 4 Tryz.f4 Rows.topHardPublicSpec Rows.topHardPublicRow=true:=(zz6 (zz6 (zz6 (zz6 (zz6 (zz6 (zz6 (zz6 (zz6 (zz6 (zz6 (zz6 (zz6 (zz6 (zz6 (zz6 (zz6 (zz6 (zz6 (zz6 (zz6 (zz6 (zz6 (zz6 (zz6 (zz6 (zz6 (zz6 (zz6 (zz6 (zz6 (by kernel_rfl) (by kernel_rfl)) (by kernel_rfl)) (by kernel_rfl)) (by kernel_rfl)) (by kernel_rfl)) (by kernel_rfl)) (by kernel_rfl)) (by kernel_rfl)) topHardPublic_c9) topHardPublic_c10) topHardPublic_c11) topHardPublic_c12) (by kernel_rfl)) (by kernel_rfl)) (by kernel_rfl)) (by kernel_rfl)) (by kernel_rfl)) (by kernel_rfl)) (by kernel_rfl)) (by kernel_rfl)) (by kernel_rfl)) (by kernel_rfl)) (by kernel_rfl)) (by kernel_rfl)) topHardPublic_c25) topHardPublic_c26) topHardPublic_c27) (by kernel_rfl)) (by kernel_rfl)) (by kernel_rfl)) (by kernel_rfl))
theorem topHardPublic_holds:Rows.TopHardPublicSaid :=
 OpenClaim.holds_of_wide 4 Tryz.f4 rfl rfl rfl rfl rfl rfl rfl ⟨rfl,rfl,rfl,rfl,rfl⟩ rfl rfl rfl rfl rfl (by kernel_rfl) Tryz.func4 topHardPublic_facts
  (of_decide_eq_true (by kernel_rfl)) (by unfold Func.isWrapper;rw [if_neg (of_decide_eq_false (by kernel_rfl))];exact ⟨rfl,rfl⟩)
  (fun os started H enc _=>zzJ (C:=Tryz.checked) (s:=Rows.topHardPublicSpec) (laid:=laidL) knob started (by kernel_rfl) Tryz.func4 laidOut [42,26] Tryz.params4 rfl Tryz.underlying4 rfl (by kernel_rfl)
   (fun ds hds=>by match ds,hds with|[d1,d2],_=>rfl)
   (ChangeSpec.witness_shaped (enc:=enc) (C:=Tryz.checked) (os:=os) (X:=fun w _=>laidMetH Tryz.prog laidL w) false (World.doorLaid Tryz.prog 14 os)
    #[.agg #[.int .i64 0,.slice none 0 0,.slice none 0 0,.slice none 0 0],.slice none 0 0] 8 rfl (World.shaped_of_RefB (by kernel_rfl) (by kernel_rfl)) (by kernel_rfl) (by kernel_rfl) (by kernel_rfl) (door_met os _))
   (fun W hL=>⟨TOf W,(zz3 hL).1,(zz3 hL).2,fun ds hds=>by
    obtain ⟨p1,r,rfl,hc1,hp1,k1⟩:=zzP hds
    obtain ⟨f2,r,rfl,k2⟩:=zzR k1
    obtain rfl:=zz7 k2
    exact law_HardPublic (tz_of hL) p1 hp1 f2⟩))
theorem topHardPublic_card:Rows.TopHardPublicCardSaid :=
 Claim7.holds_tied_plain_at .later [] [.data] true (true, "86b97d0b0e390b30dd7ea571d7e291ffbe1eddf6a7df1e56dfb71c129d4366ea") false
  topHardPublic_holds (fun _ h=>by cases h) (by kernel_rfl) (fun _ h=>by cases h) topHardPublic_row_tie rfl ⟨rfl,rfl⟩ (by kernel_rfl) rfl
  (fun f fn hf hfn=>by
   obtain rfl:f=4:=Option.some.inj ((show Tryz.prog.funcNamed Rows.topHardPublicRow.func=some 4 by kernel_rfl).symm.trans hf) |>.symm
   obtain rfl:fn=Tryz.f4:=(Option.some.inj (Tryz.func4.symm.trans hfn)).symm
   exact ⟨by kernel_rfl,fun j t ht=>by
    rw [Tryz.params4] at ht
    have hm:t∈[42,26]:=by
     have:=List.mem_of_getElem? (l:=[42,26]) (i:=j) (by simpa using ht)
     exact this
    have hall:([42,26].all fun t=>Tryz.prog.wantsStandIn t==false)=true:=by kernel_rfl
    exact eq_of_beq (List.all_eq_true.1 hall t hm)⟩)
  (by kernel_rfl)
end Go.Proofs.YtkmhdnlmghaooaaGreatDoor
