/- What is proved here: the law TopSafely returns true at every input and leaves its arguments as they were. There is no further condition. -/
import Derived.Test.YtkmhdnlmghaooaaGreatMG
set_option linter.unusedVariables false
set_option linter.unusedSimpArgs false
set_option linter.unusedSectionVars false
namespace Go.Ab
open Go Go.Proofs
section
open K
def f_wittingtop_TopSafely:Nat:=3
def c_wittingtop_TopSafely:CFn:=⟨198,[.tmp 6],(q [(.reg [o 3 (.box 4 (t 0)),o 6 (.mv (c .bf))]),
 (q [(.reg [o 27 (la 4 3),o 28 (.call 4 [(t 27)]),o 29 (.un .not (t 28)),o 30 (m 29),g 31 30 false (la 4 3),g 32 30 false (.call 5 [(t 31)]),g 33 30 false (bc .neq 32 (n 0)),o 34 (pt 30 33),o 35 (m 34),g 36 35 false (m 1),g 37 35 false (ln 36),g 38 35 false (bc .gtr 37 (n 20)),o 39 (pt 35 38),o 40 (m 39),g 41 40 false (m 2),g 42 40 false (ln 41),g 43 40 false (bc .gtr 42 (n 20)),o 44 (pt 40 43),o 45 (m 44),g 46 45 false (m 1),g 47 45 false (.call 6 [(t 46)]),g 48 45 false (bc .neq 47 (n 0)),o 49 (pt 45 48),o 50 (m 49),g 51 50 false (m 2),g 52 50 false (.call 6 [(t 51)]),g 53 50 false (bc .neq 52 (n 0)),o 54 (pt 50 53),o 55 (m 54),g 56 55 false (m 1),g 57 55 false (f 1 3),g 58 55 false (l 57),g 59 55 false (ln 58),g 60 55 false (.call 7 [(t 56),(c (n 0)),(t 59)]),g 61 55 false (.un .not (t 60)),o 62 (pt 55 61),o 63 (m 62),g 64 63 false (m 2),g 65 63 false (f 1 3),g 66 63 false (l 65),g 67 63 false (ln 66),g 68 63 false (.call 7 [(t 64),(c (n 0)),(t 67)]),g 69 63 false (.un .not (t 68)),o 70 (pt 63 69)]),
 (i 70 (q [(.reg [o 71 (.call 8 []),o 6 (m 71)]),
 .ret]) .skip)]),
 (.reg [o 73 (la 4 3),o 74 (m 1),o 75 (.call 9 [(t 73),(t 74)]),o 72 (m 75),o 76 (e 72 0),o 77 (e 72 1),o 7 (.alloc [(n 0),(.nils 1),(.nils 1),(.nils 1)]),w (.store 4 (t 7) (t 76)),o 8 (m 77)]),
 (.reg [o 79 (la 4 3),o 80 (m 1),o 81 (.call 10 [(t 79),(t 80)]),o 78 (m 81),o 82 (e 78 0),o 83 (e 78 1),o 9 (m 82),o 10 (m 83)]),
 (q [(.reg [o 84 (m 8),o 85 (bc .neq 84 (n 0)),o 86 (m 85),g 87 86 false (m 10),g 88 86 false (bc .neq 87 (n 0)),o 89 (pt 86 88)]),
 (i 89 (q [(.reg [o 6 (.mv (c .bf))]),
 .ret]) .skip)]),
 (q [(.reg [o 11 (.mv (c (n 0)))]),
 (.block 0 (.loop (q [(q [(.reg [o 90 (m 11),o 91 (f 2 3),o 92 (l 91),o 93 (ln 92),o 94 (b .lss 90 93)]),
 (i 94 .skip (.exit 0))]),
 (.block 1 (q [(.regd [o 98 (la 4 7),o 99 (m 11),o 100 (m 1),o 101 (.call 11 [(t 99),(t 100)]),o 102 (.call 10 [(t 98),(t 101)]),o 97 (m 102),o 103 (e 97 0),o 104 (e 97 1),o 12 (m 103),o 13 (m 104)] [0,0,0,6,15,31,63,63,127,511]),
 (.regd [o 106 (la 4 7),o 107 (m 11),o 108 (.call 13 []),o 109 (m 2),o 110 (.call 12 [(t 107),(t 108),(t 109)]),o 111 (.call 10 [(t 106),(t 110)]),o 105 (m 111),o 112 (e 105 0),o 113 (e 105 1),o 14 (m 112),o 15 (m 113)] [0,0,0,0,14,31,63,127,127,255,1023]),
 (.regd [o 115 (la 4 3),o 116 (m 11),o 117 (m 1),o 118 (m 2),o 119 (.call 12 [(t 116),(t 117),(t 118)]),o 120 (.call 10 [(t 115),(t 119)]),o 114 (m 120),o 121 (e 114 0),o 122 (e 114 1),o 16 (m 121),o 17 (m 122)] [0,0,0,0,14,31,63,127,127,255,1023]),
 (.regd [o 124 (la 4 3),o 125 (m 11),o 126 (m 1),o 127 (.call 14 [(t 125),(t 126)]),o 128 (.call 10 [(t 124),(t 127)]),o 123 (m 128),o 129 (e 123 0),o 130 (e 123 1),o 18 (m 129),o 19 (m 130)] [0,0,0,6,15,31,63,63,127,511]),
 (.reg [o 131 (m 13),o 132 (m 15),o 133 (b .add 131 132),o 134 (m 17),o 135 (b .add 133 134),o 136 (m 19),o 137 (b .add 135 136),o 138 (bc .neq 137 (n 0)),o 139 (m 138),g 140 139 false (m 9),g 141 139 false (m 12),g 142 139 false (b .andNot 140 141),g 143 139 false (bc .neq 142 (u 0)),o 144 (pt 139 143),o 145 (m 144),g 146 145 false (m 14),g 147 145 false (m 16),g 148 145 false (b .xor 146 147),g 149 145 false (m 18),g 150 145 false (b .and 148 149),g 151 145 false (bc .neq 150 (u 0)),o 152 (pt 145 151)]),
 (i 152 (q [(.reg [o 6 (.mv (c .bf))]),
 .ret]) .skip)])),
 (.reg [o 95 (m 11),o 96 (bc .add 95 (n 1)),o 11 (m 96)])])))]),
 (.reg [o 154 (la 4 7),o 155 (.call 15 [(t 154)]),o 153 (m 155),o 156 (e 153 0),o 157 (e 153 1),o 20 (.alloc [(n 0),(.nils 1),(.nils 1)]),w (.store 3 (t 20) (t 156)),o 21 (m 157)]),
 (q [(.reg [o 22 (.mv (c (n 0)))]),
 (.block 2 (.loop (q [(q [(.reg [o 158 (m 22),o 159 (f 2 3),o 160 (l 159),o 161 (ln 160),o 162 (b .lss 158 161)]),
 (i 162 .skip (.exit 2))]),
 (.block 3 (q [(.regd [o 166 (la 3 20),o 167 (m 22),o 168 (m 2),o 169 (.call 17 [(t 167),(t 168)]),o 170 (.call 16 [(t 166),(t 169)]),o 165 (m 170),o 171 (e 165 0),o 172 (e 165 1),o 23 (m 171),o 24 (m 172)] [0,0,0,6,15,31,63,63,127,511]),
 (.regd [o 174 (la 4 7),o 175 (m 22),o 176 (.call 13 []),o 177 (m 2),o 178 (.call 12 [(t 175),(t 176),(t 177)]),o 179 (.call 10 [(t 174),(t 178)]),o 173 (m 179),o 180 (e 173 0),o 181 (e 173 1),o 25 (m 180),o 26 (m 181)] [0,0,0,0,14,31,63,127,127,255,1023]),
 (.reg [o 182 (m 21),o 183 (bc .neq 182 (n 0)),o 184 (m 183),g 185 184 false (m 24),g 186 184 false (bc .neq 185 (n 0)),o 187 (pt 184 186),o 188 (m 187),g 189 188 false (m 26),g 190 188 false (bc .neq 189 (n 0)),o 191 (pt 188 190),o 192 (m 191),g 193 192 false (m 23),g 194 192 false (m 25),g 195 192 false (b .neq 193 194),o 196 (pt 192 195)]),
 (i 196 (q [(.reg [o 6 (.mv (c .bf))]),
 .ret]) .skip)])),
 (.reg [o 163 (m 22),o 164 (bc .add 163 (n 1)),o 22 (m 164)])])))]),
 (.reg [o 197 (.call 8 []),o 6 (m 197)]),
 .ret])⟩
end
theorem k_wittingtop_TopSafely:zf Tryz.prog f_wittingtop_TopSafely=some c_wittingtop_TopSafely:=by kernel_rfl
end Go.Ab
namespace Go.Ab
open Go Go.Proofs
set_option maxRecDepth 10000
set_option maxHeartbeats 4000000
variable {T:Nat→Obj→Prop}
theorem ints_ofS {p:PM} (hc0:zy p=0):za2 p.rank:=by
 have hg:=zA hc0
 have h2:=hg.w2
 intro r hr x hx
 obtain ⟨a,ha,rfl⟩:=List.mem_iff_getElem.1 hr
 have ha':a < p.cell.length:=by rw [← hg.len];exact ha
 obtain ⟨w,hw,rfl⟩:=List.mem_iff_getElem.1 hx
 have hl:=hg.lens a ha'
 have e:ze p.rank a=p.rank[a]:=zbZ (List.getElem?_eq_getElem ha)
 rw [e] at hl
 have:=zib hc0 ha' (w:=w) (by omega)
 have e2:rkA p a w=p.rank[a][w]:=zah (by rw [e];exact List.getElem?_eq_getElem hw)
 rw [← e2]
 exact ⟨by omega,by omega⟩
theorem fn_HoldsS (p:PM) (hp:za2 p.rank) {f:List Nd} {x:BitVec 64} (h:zS p f=(x,0)):Fn Tryz.prog T zhu [.d (dPM p),.d (dF f)] [] (.d (.tup [.u64 x,.int .i64 0])) []:=by
 have c:=zsU (T:=T) zyD p hp f
 rwa [h] at c
theorem ev_in {p:PM} {f:List Nd} {t:Tm} (hc:zy p=0) (ht:OkT p f t) (hp:t.all Prp) : ∀ w,(ev (zaD p) 0#64 t).getLsbD w=true→w < p.W.toNat:=fun w h=>by
 have hto:=ht.isF.tok
 have hfx:=zvi t hto ht.fit hp
 rw [← zoD hc t hto hfx hp] at h
 exact (((zhq (zls hc) t hto hfx).2 w).1 h).1
theorem law_Safely (p:PM) (hp:za2 p.rank) (f g:List Nd):Fn Tryz.prog T f_wittingtop_TopSafely [.d (dPM p),.d (dF f),.d (dF g)] [] (.d (.bool true)) []:=by
 have hA:=zAW (T:=T)
 have hF:=zBC (T:=T) p
 have hC:=zd9 (T:=T) zyD p hp
 have hG1:=zsT (T:=T) f
 have hG2:=zsT (T:=T) g
 refine zb zn k_wittingtop_TopSafely (by show 3≤198;decide) ?_
 generalize decide (p.val.length≤20∧p.cell.length≤8∧p.rank.length≤8∧(∀ a,a < p.cell.length→(ze p.cell a).length≤20) ∧ ∀ a,a < p.rank.length→(ze p.rank a).length≤20)=b at hF
 by_cases hm:b=true∧zy p=0∧f.length≤20∧g.length≤20∧uni zap (cL f)=0∧uni zap (cL g)=0∧zcy f 0 p.val.length=true∧zcy g 0 p.val.length=true
 ·obtain ⟨rfl,hc0,hl1,hl2,hf1,hg1,hf2,hg2⟩:=hm
  obtain ⟨t,ht,htp⟩:=zBB (zA hc0) hf1 hf2
  obtain ⟨u,hu,hup⟩:=zBB (zA hc0) hg1 hg2
  have hFin:=ev_in hc0 ht htp
  have fF:Fm p f (ev (zaD p) 0#64 t) 20:=⟨⟨t,ht,rfl⟩,hl1⟩
  have fG:Fm p g (ev (zaD p) 0#64 u) 20:=⟨⟨u,hu,rfl⟩,hl2⟩
  have cR:=zA7 (T:=T) zyD p hp f
  rw [show zBy p f=(upL p fun _ _=>ev (zaD p) 0#64 t,0) by rw [zBy,fF.holds hc0];rfl] at cR
  have cH:=fn_HoldsS (T:=T) p hp (fF.holds hc0)
  have hqc:zy (upL p fun _ _=>ev (zaD p) 0#64 t)=0:=ztG hc0 _
  have qF:Fm (upL p fun _ _=>ev (zaD p) 0#64 t) f (ev (zaD p) 0#64 t) 20:=⟨⟨t,zBx (p:=p) (q:=upL p fun _ _=>ev (zaD p) 0#64 t) rfl rfl ht,zpS (p:=p) (q:=upL p fun _ _=>ev (zaD p) 0#64 t) rfl rfl htp⟩,hl1⟩
  have huq:OkT (upL p fun _ _=>ev (zaD p) 0#64 t) g u:=zBx (p:=p) (q:=upL p fun _ _=>ev (zaD p) 0#64 t) rfl rfl hu
  have qG:Fm (upL p fun _ _=>ev (zaD p) 0#64 t) g (ev (zaD p) 0#64 u) 20:=⟨⟨u,huq,zpS (p:=p) (q:=upL p fun _ _=>ev (zaD p) 0#64 t) rfl rfl hup⟩,hl2⟩
  have hS:=fun a (ha:a < p.cell.length)=>zBe hc0 ha hFin
  have hB:=fun a (ha:a < p.cell.length)=>zBj hc0 ha (G:=ev (zaD p) 0#64 u) hFin
  have hqW:(upL p fun _ _=>ev (zaD p) 0#64 t).W=p.W:=rfl
  have hqC:(upL p fun _ _=>ev (zaD p) 0#64 t).cell.length=p.cell.length:=rfl
  have hK:=fun a (ha:a < p.cell.length)=>zAG hqc huq hup (by omega) (a:=a) ha
  rw [zpS (q:=upL p fun _ _=>ev (zaD p) 0#64 t) (p:=p) rfl rfl hup] at hK
  have cB:=zBk (T:=T) zyD (upL p fun _ _=>ev (zaD p) 0#64 t) (ints_ofS hqc)
  rw [zA9 hqc] at cB
  clear htp hup ht hu hFin huq
  generalize (upL p fun _ _=>ev (zaD p) 0#64 t)=q at *
  generalize ev (zaD p) 0#64 t=F at *
  generalize ev (zaD p) 0#64 u=G at *
  (repeat' ((conv=>whnf);first|refine vA ?_|refine vE ?_|refine vG ?_|refine vH ?_|((first|refine vD ?_ ?_|refine vF ?_ ?_|refine vI ?_ ?_)<;>intro hc<;>try simp only [vL] at hc)|refine vJ fun hg=>?_|refine vT ?_|refine yD hF ⟨⟨rfl,rfl⟩,rfl⟩ rfl ?_|refine yD hC ⟨⟨rfl,rfl⟩,rfl⟩ rfl ?_|refine yD hG1 ⟨⟨rfl,rfl⟩,rfl⟩ rfl ?_|refine yD hG2 ⟨⟨rfl,rfl⟩,rfl⟩ rfl ?_|refine yD (zuw _ _ _) ⟨⟨rfl,rfl⟩,⟨rfl,rfl⟩,⟨rfl,rfl⟩,rfl⟩ rfl ?_|refine yN cR ⟨⟨rfl,rfl⟩,⟨rfl,rfl⟩,rfl⟩ ?_|refine yN cH ⟨⟨rfl,rfl⟩,⟨rfl,rfl⟩,rfl⟩ ?_));all_goals try conv=>whnf
  all_goals first|(exfalso;omega)|exact Bool.noConfusion (hg2.symm.trans ‹zcy g 0 _=false›)|exact Bool.noConfusion (hf2.symm.trans ‹zcy f 0 _=false›)|skip
  refine zt (fun (a:Nat)=>[(1,.d (dF f)),(2,.d (dF g)),(3,.ptr 0 0),(7,.ptr 1 0),(9,.d (.u64 (F))),(11,.d (.int .i64 ((a:Int))))]) (fun (a:Nat)=>[(0,some (zck p)),(1,some (zck q))]) 2 (fun (a:Nat)=>a≤p.cell.length) (fun (a:Nat)=>p.cell.length - a) (0) [(0,0),(1,1)] [] (by omega) (by (refine ⟨rfl,rfl,rfl,?_,?_⟩;repeat' first|exact trivial|exact rfl|refine And.intro ?_ ?_|refine ⟨_,rfl,?_⟩|decide)) ?_
  ·rintro a ha
   by_cases hal:a < p.cell.length
   ·have s1:=fn_HoldsS (T:=T) q (ints_ofS hqc) ((Fm.safe hqc (a:=a) qF (by omega) (by omega)).holds hqc)
    have s2:=fn_HoldsS (T:=T) q (ints_ofS hqc) ((Fm.belief hqc (a:=a) Fm.tru qG (by omega) (by omega)).holds hqc)
    have s3:=fn_HoldsS (T:=T) p hp ((Fm.belief hc0 (a:=a) fF fG (by omega) (by omega)).holds hc0)
    have s4:=fn_HoldsS (T:=T) p hp ((Fm.poss hc0 (a:=a) fF (by omega) (by omega)).holds hc0)
    have b1:=zBs (T:=T) (a:Int) f
    have bT:=zBt (T:=T)
    have b2:=zA6 (T:=T) (a:Int) (z8 ⟨1,0,0,0,0,0⟩ []) g
    have b3:=zA6 (T:=T) (a:Int) f g
    have b4:=zBr (T:=T) (a:Int) f
    generalize z8 ⟨15,(a:Int),0,0,0,0⟩ [f]=K1 at b1 s1
    generalize z8 ⟨1,0,0,0,0,0⟩ []=KT at bT b2 s2
    generalize z8 ⟨14,(a:Int),0,0,0,0⟩ [KT,g]=K2 at b2 s2
    generalize z8 ⟨14,(a:Int),0,0,0,0⟩ [f,g]=K3 at b3 s3
    generalize z8 ⟨10,(a:Int),0,0,0,0⟩ [f]=K4 at b4 s4
    rw [hqW] at s2
    have hSa:=hS a hal
    have hBa:=hB a hal
    generalize zfK q (a:Int) F=x1 at *
    generalize zaT q (a:Int) (zU p.W) G=x2 at *
    generalize zaT p (a:Int) F G=x3 at *
    rw [show zU p.W &&& ~~~zfn p (a:Int) (zU p.W &&& ~~~F)=zzi p a F from rfl] at s4
    generalize zzi p a F=x4 at *
    (repeat' ((conv=>whnf);first|refine vA ?_|refine vH ?_|((first|refine vD ?_ ?_|refine vF ?_ ?_)<;>intro hc<;>try simp only [vL] at hc)|refine vJ fun hg=>?_|refine vT ?_|(refine vO ?_ ?_;·omega)|(refine vU ?_ ?_;·kernel_rfl)|refine vZ ?_|refine yN b1 ⟨⟨rfl,rfl⟩,⟨rfl,rfl⟩,rfl⟩ ?_|refine yN s1 ⟨⟨rfl,rfl⟩,⟨rfl,rfl⟩,rfl⟩ ?_|refine yN bT rfl ?_|refine yN b2 ⟨⟨rfl,rfl⟩,⟨rfl,rfl⟩,⟨rfl,rfl⟩,rfl⟩ ?_|refine yN s2 ⟨⟨rfl,rfl⟩,⟨rfl,rfl⟩,rfl⟩ ?_|refine yN b3 ⟨⟨rfl,rfl⟩,⟨rfl,rfl⟩,⟨rfl,rfl⟩,rfl⟩ ?_|refine yN s3 ⟨⟨rfl,rfl⟩,⟨rfl,rfl⟩,rfl⟩ ?_|refine yN b4 ⟨⟨rfl,rfl⟩,⟨rfl,rfl⟩,rfl⟩ ?_|refine yN s4 ⟨⟨rfl,rfl⟩,⟨rfl,rfl⟩,rfl⟩ ?_));all_goals try conv=>whnf
    all_goals first|(exfalso;omega)|skip
    ·exact absurd hSa ‹_≠_›
    ·exact absurd hBa ‹_≠_›
    ·refine ⟨a+1,[(0,0),(1,1)],[],?_,?_,by (refine ⟨rfl,rfl,rfl,?_,?_⟩;repeat' first|exact trivial|exact rfl|refine And.intro ?_ ?_|refine ⟨_,rfl,?_⟩|decide)⟩
     ·(omega)
     ·(omega)
   ·obtain rfl:a=p.cell.length:=by omega
    (repeat' ((conv=>whnf);first|refine vA ?_|(refine vF ?_ ?_<;>intro hc<;>try simp only [vL] at hc)|refine vJ fun hg=>?_|refine vT ?_|refine yN cB ⟨⟨rfl,rfl⟩,rfl⟩ ?_));all_goals try conv=>whnf
    all_goals first|(exfalso;omega)|skip
    refine zt (fun (c:Nat)=>[(2,.d (dF g)),(3,.ptr 0 0),(7,.ptr 1 0),(20,.ptr 2 0),(21,.d (.int .i64 ((0:Int)))),(22,.d (.int .i64 ((c:Int))))]) (fun (c:Nat)=>[(0,some (zck p)),(1,some (zck q)),(2,some (zzc (kmB q)))]) 3 (fun (c:Nat)=>c≤p.cell.length) (fun (c:Nat)=>p.cell.length - c) (0) [(0,0),(1,1),(2,2)] [] (by omega) (by (refine ⟨rfl,rfl,rfl,?_,?_⟩;repeat' first|exact trivial|exact rfl|refine And.intro ?_ ?_|refine ⟨_,rfl,?_⟩|decide)) ?_
    rintro c hcl
    by_cases hcc:c < p.cell.length
    ·have s2:=fn_HoldsS (T:=T) q (ints_ofS hqc) ((Fm.belief hqc (a:=c) Fm.tru qG (by omega) (by omega)).holds hqc)
     have bT:=zBt (T:=T)
     have b2:=zA6 (T:=T) (c:Int) (z8 ⟨1,0,0,0,0,0⟩ []) g
     have b5:=zBq (T:=T) (c:Int) g
     have s5:=zBl (T:=T) (kmB q) (z8 ⟨9,(c:Int),0,0,0,0⟩ [g])
     rw [hK c hcc] at s5
     dsimp only at s5
     generalize z8 ⟨1,0,0,0,0,0⟩ []=KT at bT b2 s2
     generalize z8 ⟨14,(c:Int),0,0,0,0⟩ [KT,g]=K2 at b2 s2
     generalize z8 ⟨9,(c:Int),0,0,0,0⟩ [g]=K5 at b5 s5
     generalize zaT q (c:Int) (zU q.W) G=x2 at *
     generalize kmB q=B at *
     (repeat' ((conv=>whnf);first|refine vA ?_|refine vH ?_|((first|refine vD ?_ ?_|refine vF ?_ ?_)<;>intro hc<;>try simp only [vL] at hc)|refine vJ fun hg=>?_|refine vT ?_|(refine vO ?_ ?_;·omega)|(refine vU ?_ ?_;·kernel_rfl)|refine vZ ?_|refine yN b5 ⟨⟨rfl,rfl⟩,⟨rfl,rfl⟩,rfl⟩ ?_|refine yN s5 ⟨⟨rfl,rfl⟩,⟨rfl,rfl⟩,rfl⟩ ?_|refine yN bT rfl ?_|refine yN b2 ⟨⟨rfl,rfl⟩,⟨rfl,rfl⟩,⟨rfl,rfl⟩,rfl⟩ ?_|refine yN s2 ⟨⟨rfl,rfl⟩,⟨rfl,rfl⟩,rfl⟩ ?_));all_goals try conv=>whnf
     all_goals first|(exfalso;omega)|skip
     ·exact absurd rfl ‹_≠_›
     ·refine ⟨c+1,[(0,0),(1,1),(2,2)],[],?_,?_,by (refine ⟨rfl,rfl,rfl,?_,?_⟩;repeat' first|exact trivial|exact rfl|refine And.intro ?_ ?_|refine ⟨_,rfl,?_⟩|decide)⟩
      ·(omega)
      ·(omega)
    ·obtain rfl:c=p.cell.length:=by omega
     (repeat' ((conv=>whnf);first|refine vA ?_|(refine vF ?_ ?_<;>intro hc<;>try simp only [vL] at hc)|refine vJ fun hg=>?_|refine vT ?_|refine vZ ?_|refine yD hA (by (repeat refine ⟨⟨rfl,rfl⟩,?_⟩);rfl) rfl ?_));all_goals try conv=>whnf
     all_goals (exfalso;omega)
 ·cases b<;>(repeat' ((conv=>whnf);first|refine vA ?_|refine vE ?_|refine vG ?_|refine vH ?_|((first|refine vD ?_ ?_|refine vF ?_ ?_|refine vI ?_ ?_)<;>intro hc<;>try simp only [vL] at hc)|refine vJ fun hg=>?_|refine vT ?_|refine vZ ?_|refine yD hF ⟨⟨rfl,rfl⟩,rfl⟩ rfl ?_|refine yD hC ⟨⟨rfl,rfl⟩,rfl⟩ rfl ?_|refine yD hG1 ⟨⟨rfl,rfl⟩,rfl⟩ rfl ?_|refine yD hG2 ⟨⟨rfl,rfl⟩,rfl⟩ rfl ?_|refine yD (zuw _ _ _) ⟨⟨rfl,rfl⟩,⟨rfl,rfl⟩,⟨rfl,rfl⟩,rfl⟩ rfl ?_|refine yD hA (by (repeat refine ⟨⟨rfl,rfl⟩,?_⟩);rfl) rfl ?_));all_goals try conv=>whnf
  all_goals exact absurd ⟨rfl,‹_›,by omega,by omega,by omega,by omega,‹_›,‹_›⟩ hm
end Go.Ab
namespace Go.Proofs.YtkmhdnlmghaooaaGreat
open Go Go.Ab Go.RowKit Go.ChangeShapes Go.WideShapes
set_option maxRecDepth 100000 in
theorem topSafely_holds:Rows.TopSafelySaid :=
 OpenClaim.holds_of_wide 3 Tryz.f3 rfl rfl rfl rfl rfl rfl rfl ⟨rfl,rfl,rfl,rfl,rfl⟩ rfl rfl rfl rfl rfl (by kernel_rfl) Tryz.func3 (by kernel_rfl)
  (of_decide_eq_true (by kernel_rfl)) (by unfold Func.isWrapper;rw [if_neg (of_decide_eq_false (by kernel_rfl))];exact ⟨rfl,rfl⟩)
  (fun os started H enc _=>zBz <| zBa (C:=Tryz.checked) (s:=Rows.topSafelySpec) (laid:=[]) zBG started (by kernel_rfl) Tryz.func3 zBA [25,26,26] Tryz.params3 rfl Tryz.underlying4 rfl (by kernel_rfl)
   (fun ds hds=>by match ds,hds with|[d1,d2,d3],_=>rfl)
   (ChangeSpec.witness_shaped (enc:=enc) (C:=Tryz.checked) (os:=os) (X:=fun w _=>laidMetH Tryz.prog [] w) false (World.doorLaid Tryz.prog 14 os)
    #[.agg #[.int .i64 0,.slice none 0 0,.slice none 0 0,.slice none 0 0],.slice none 0 0,.slice none 0 0] 8 rfl (World.shaped_of_RefB (by kernel_rfl) (by kernel_rfl)) (by kernel_rfl) (by kernel_rfl) (by kernel_rfl) zyi)
   (fun W hL=>⟨noT,fun b o h=>h.elim,fun b h=>h.elim fun o h=>h.elim,fun ds hds=>by
    obtain ⟨p1,r,rfl,hc1,hp1,k1⟩:=zBh hds
    obtain ⟨f2,r,rfl,k2⟩:=zBn k1
    obtain ⟨f3,r,rfl,k3⟩:=zBn k2
    obtain rfl:=zBF k3
    exact Ab.law_Safely p1 hp1 f2 f3⟩))
end Go.Proofs.YtkmhdnlmghaooaaGreat
