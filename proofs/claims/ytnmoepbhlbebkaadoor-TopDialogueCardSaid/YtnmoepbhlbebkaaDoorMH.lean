/- What is proved here: the law TopDialogue returns true at every input and leaves its arguments as they were. The condition is the row own: the listed table of math bits holds what the text lays. -/
import Derived.Test.YtnmoepbhlbebkaaDoorMG
set_option linter.unusedVariables false
set_option linter.unusedSimpArgs false
set_option linter.unusedSectionVars false
namespace Go.Ab
open Go Go.Proofs
section
open K
def f_wittingtop_TopDialogue:Nat:=3
def c_wittingtop_TopDialogue:CFn:=⟨123,[.tmp 4],(q [(.reg [o 2 (.box 3 (t 0)),o 4 (.mv (c .bf))]),
 (q [(.reg [o 16 (la 3 2),o 17 (.call 5 [(t 16),(c (n 8))]),o 18 (.un .not (t 17)),o 19 (m 18),g 20 19 false (m 1),g 21 19 false (ln 20),g 22 19 false (bc .gtr 21 (n 4)),o 23 (pt 19 22)]),
 (i 23 (q [(.reg [o 24 (.call 6 []),o 4 (m 24)]),
 .ret]) .skip)]),
 (.reg [o 25 (.call 7 []),o 5 (m 25)]),
 (q [(.reg [o 26 (m 1),o 27 (ln 26),o 28 (bc .sub 27 (n 1)),o 6 (m 28)]),
 (.block 0 (.loop (q [(q [(.reg [o 29 (m 6),o 30 (bc .geq 29 (n 0))]),
 (i 30 .skip (.exit 0))]),
 (.block 1 (q [(q [(.regd [o 34 (la 3 2),o 35 (m 1),o 36 (m 6),o 37 (ia 1 35 36),o 38 (l 37),o 39 (.call 8 [(t 34),(t 38)]),o 33 (m 39),o 40 (e 33 0),o 41 (e 33 1),o 7 (m 40),o 8 (m 41)] [0,0,0,6,14,31,63,127,127,255,1023]),
 (.reg [o 42 (m 8),o 43 (bc .neq 42 (n 0)),o 44 (m 43),g 45 44 false (m 1),g 46 44 false (m 6),g 47 44 false (ia 1 45 46),g 48 44 false (l 47),g 49 44 false (ln 48),g 50 44 false (bc .gtr 49 (n 12)),o 51 (pt 44 50)]),
 (i 51 (q [(.reg [o 52 (.call 6 []),o 4 (m 52)]),
 .ret]) .skip)]),
 (.regd [o 53 (m 1),o 54 (m 6),o 55 (ia 1 53 54),o 56 (l 55),o 57 (m 5),o 58 (.call 9 [(t 57)]),o 59 (.call 10 [(t 56),(t 58)]),o 60 (.call 9 [(t 59)]),o 5 (m 60)] [0,0,3,7,0,16,63,127,255])])),
 (.reg [o 31 (m 6),o 32 (bc .sub 31 (n 1)),o 6 (m 32)])])))]),
 (.reg [o 62 (la 3 2),o 63 (m 5),o 64 (.call 11 [(t 62),(c (.nils 3)),(t 63)]),o 61 (m 64),o 65 (e 61 0),o 66 (e 61 1),o 9 (m 65),o 10 (m 66)]),
 (q [(.reg [o 11 (.mv (c (n 0)))]),
 (.block 2 (.loop (q [(q [(.reg [o 67 (m 11),o 68 (f 0 2),o 69 (l 68),o 70 (b .lss 67 69)]),
 (i 70 .skip (.exit 2))]),
 (.block 3 (q [(.reg [o 74 (la 3 2),o 75 (m 11),o 76 (m 1),o 77 (.call 12 [(t 74),(t 75),(t 76)]),o 73 (m 77),o 78 (e 73 0),o 79 (e 73 1),o 12 (m 78),o 13 (m 79)]),
 (q [(.reg [o 80 (m 10),o 81 (bc .neq 80 (n 0)),o 82 (m 81),g 83 82 false (m 13),g 84 82 false (bc .neq 83 (n 0)),o 85 (pt 82 84)]),
 (i 85 (q [(.reg [o 86 (m 10),o 87 (bc .neq 86 (n 0)),o 88 (m 87),g 89 88 true (m 13),g 90 88 true (bc .neq 89 (n 0)),o 91 (pf 88 90),o 92 (m 91),g 93 92 true (.call 6 []),o 94 (pf 92 93),o 4 (m 94)]),
 .ret]) .skip)]),
 (.reg [o 95 (m 12),o 96 (ln 95),o 97 (m 1),o 98 (ln 97),o 99 (b .eql 96 98),o 14 (m 99)]),
 (q [(.reg [o 15 (.mv (c (n 0)))]),
 (.block 4 (.loop (q [(q [(.reg [o 100 (m 15),o 101 (m 12),o 102 (ln 101),o 103 (b .lss 100 102)]),
 (i 103 .skip (.exit 4))]),
 (.block 5 (.reg [o 106 (m 14),o 107 (m 106),g 108 107 true (m 12),g 109 107 true (m 15),g 110 107 true (ia 2 108 109),g 111 107 true (f 0 110),g 112 107 true (l 111),o 113 (pf 107 112),o 14 (m 113)])),
 (.reg [o 104 (m 15),o 105 (bc .add 104 (n 1)),o 15 (m 105)])])))]),
 (.reg [o 114 (m 14),o 115 (m 9),o 116 (m 11),o 117 (.conv .u64 (t 116)),o 118 (b .shr 115 117),o 119 (bc .and 118 (u 1)),o 120 (bc .eql 119 (u 1)),o 121 (.eqB true (t 114) (t 120))]),
 (i 121 (q [(.reg [o 4 (.mv (c .bf))]),
 .ret]) .skip)])),
 (.reg [o 71 (m 11),o 72 (bc .add 71 (n 1)),o 11 (m 72)])])))]),
 (.reg [o 122 (.call 6 []),o 4 (m 122)]),
 .ret])⟩
end
theorem k_wittingtop_TopDialogue:ze Tryd.prog f_wittingtop_TopDialogue=some c_wittingtop_TopDialogue:=by kernel_rfl
end Go.Ab
namespace Go.Ab
open Go Go.Proofs
set_option maxRecDepth 10000
set_option maxHeartbeats 4000000
variable {T:Nat→Obj→Prop}
def dlF:List (List Nd)→List Nd
 | []=>zbB ⟨1,0,0,0,0,0⟩ []
 | s::r=>zbB ⟨4,0,0,0,0,0⟩ [zbB ⟨16,0,0,0,0,0⟩ [s,zbB ⟨4,0,0,0,0,0⟩ [dlF r]]]
theorem dlF_is : ∀ (l:List (List Nd)),(∀ f∈l,zbq f=0∧f.length≤12)→l.length≤4→IsF (dlF l) (Fl (l.map zeK))∧(dlF l).length≤1+15 * l.length
 | [],_,_=>zBU (h:=⟨1,0,0,0⟩) (by constructor<;>decide) (by decide) (by decide)
 | s::r,h,h4=>by
  simp only [List.length_cons] at h4
  obtain ⟨i1,i2⟩:=dlF_is r (fun f hf=>h f (List.mem_cons_of_mem _ hf)) (by omega)
  obtain ⟨s1,s2⟩:=h s (List.mem_cons_self ..)
  obtain ⟨a1,a2⟩:=zCa (h:=⟨4,0,0,0⟩) (by constructor<;>decide) (by decide) (by decide) i1 (by omega)
  obtain ⟨b1,b2⟩:=zCb (h:=⟨16,0,0,0⟩) (by constructor<;>decide) (by decide) (zCw s1) a1 (by dsimp only at a2 ⊢;omega)
  obtain ⟨c1,c2⟩:=zCa (h:=⟨4,0,0,0⟩) (by constructor<;>decide) (by decide) (by decide) b1 (by dsimp only at a2 b2 ⊢;omega)
  refine ⟨c1,?_⟩
  dsimp only [List.length_cons] at a2 b2 c2 ⊢
  show (zbB _ _).length≤_
  omega
theorem Fl_all {P:Hd→Prop} (h1:P ⟨1,0,0,0⟩) (h4:P ⟨4,0,0,0⟩) (h16:P ⟨16,0,0,0⟩) : ∀ (l:List Tm),(∀ t∈l,t.all P)→(Fl l).all P
 | [],_=>h1
 | t::r,h=>⟨h4,h16,h t (List.mem_cons_self ..),h4,Fl_all h1 h4 h16 r fun u hu=>h u (List.mem_cons_of_mem _ hu)⟩
theorem law_Dial (hT:zcl T) (m:KM) (says:List (List Nd)):Fn Tryd.prog T f_wittingtop_TopDialogue [.d (dKM m),.d (.arr 1 (says.map dF))] [] (.d (.bool true)) []:=by
 have hA:=zBK (T:=T) hT
 have hf:=zCt (T:=T) m 8
 have ct:=zCi (T:=T)
 refine zb zk k_wittingtop_TopDialogue (by show 2≤123;decide) ?_
 cases hbw:zs0 m 8 with
 | false =>
  rw [hbw] at hf
  (repeat' ((conv=>whnf);first|refine vA ?_|refine vE ?_|refine vH ?_|refine vT ?_|refine vZ ?_|refine yD hf ⟨⟨rfl,rfl⟩,⟨rfl,rfl⟩,rfl⟩ rfl ?_|refine yD hA rfl rfl ?_));all_goals try conv=>whnf
 | true =>
  rw [hbw] at hf
  (repeat' ((conv=>whnf);first|refine vA ?_|refine vE ?_|refine vG ?_|(refine vF ?_ ?_<;>intro hc<;>try simp only [vL] at hc)|refine vJ fun hg=>?_|refine vT ?_|(refine vO ?_ ?_;·(simp only [vM] at *;omega))|refine vZ ?_|refine yD hf ⟨⟨rfl,rfl⟩,⟨rfl,rfl⟩,rfl⟩ rfl ?_|refine yD hA rfl rfl ?_|refine yN ct rfl ?_));all_goals try conv=>whnf
  refine zy (fun ((r,F,i):Nat×List Nd×Int)=>[(1,.d (.arr 1 (says.map dF))),(2,.ptr 0 0),(5,.d (dF F)),(6,.d (.int .i64 (i)))]) (fun ((r,F,i):Nat×List Nd×Int)=>[(0,some (zaH m))]) 1 (fun ((r,F,i):Nat×List Nd×Int)=>r≤says.length∧(∀ f∈says.drop r,zaL m f=0∧f.length≤12)∧F=dlF (says.drop r)∧i=(r:Int) - 1) (fun ((r,F,i):Nat×List Nd×Int)=>r) (((says.map dF).length,zbB ⟨1,0,0,0,0,0⟩ [],((says.map dF).length:Int) - 1)) [(0,0)] [] (⟨by simp,by simp,by simp [dlF],rfl⟩) (by (refine ⟨rfl,rfl,rfl,?_,?_⟩;repeat' first|exact trivial|exact rfl|refine And.intro ?_ ?_|refine ⟨_,rfl,?_⟩|decide)) ?_
  rintro ⟨r,F,i⟩ ⟨i1,i2,i3,i4⟩
  have hlen:says.length≤4:=by omega
  clear hf ct
  rcases r with _|r
  ·obtain rfl:i = -1:=by omega
   rw [List.drop_zero] at i2 i3
   have hs : ∀ f∈says,zaL m f=0:=fun f hf=>(i2 f hf).1
   have hfe : ∀ f∈says,zbq f=0∧f.length≤12:=fun f hf=>⟨(zgq (hs f hf)).2.1,(i2 f hf).2⟩
   have hIs:=(dlF_is says hfe hlen).1
   rw [← i3] at hIs
   clear i1 i2 i3 hfe
   by_cases hk:zi m=0
   ·have hall:(Fl (says.map zeK)).all (zhK m):=Fl_all (.inl ⟨by decide,fun h=>(by cases h),fun h=>(by rcases h with h|h<;>cases h),fun h=>absurd h (by decide)⟩) (.inl ⟨by decide,fun h=>(by cases h),fun h=>(by rcases h with h|h<;>cases h),fun h=>absurd h (by decide)⟩) (.inr rfl) _ fun t ht=>by
     obtain ⟨f,hf,rfl⟩:=List.mem_map.1 ht
     exact zhQ (fun _ h => .inl h) (zqz (hs f hf)).2
    obtain ⟨hr,h17,hfd⟩:=zCu hk hIs hall
    have cd:=zwZ (T:=T) hT hr h17 hfd
    rw [show zeK F=Fl (says.map zeK) from hIs.tree] at cd
    have hpl:=fun {w:Nat} => zAq says hk hs (w:=w)
    have hin:=zjv (Fl (says.map zeK)) hk hIs.tok hall
    have w2:=(zw hk).w2
    have w1:=(zw hk).w1
    clear hall hr h17 hfd hIs
    generalize zA (Fl (says.map zeK)) m=S at *
    (repeat' ((conv=>whnf);first|refine vA ?_|refine vH ?_|refine vT ?_));all_goals try conv=>whnf
    refine zo.dataN (cd) (by (repeat refine ⟨⟨rfl,rfl⟩,?_⟩);rfl) ?_
    (repeat' ((conv=>whnf);first|refine vA ?_|refine vT ?_));all_goals try conv=>whnf
    refine zy (fun (w:Nat)=>[(1,.d (.arr 1 (says.map dF))),(2,.ptr 0 0),(9,.d (.u64 (S))),(10,.d (.int .i64 (0))),(11,.d (.int .i64 ((w:Int))))]) (fun (w:Nat)=>[(0,some (zaH m))]) 1 (fun (w:Nat)=>w≤m.W.toNat) (fun (w:Nat)=>m.W.toNat - w) (0) [(0,0)] [] (by omega) (by (refine ⟨rfl,rfl,rfl,?_,?_⟩;repeat' first|exact trivial|exact rfl|refine And.intro ?_ ?_|refine ⟨_,rfl,?_⟩|decide)) ?_
    rintro w hw
    by_cases hwl:w < m.W.toNat
    ·have cp:=zCs (T:=T) hT hk hwl says hs hlen
     have hpw:=hpl hwl
     generalize zgF says m w=L at *
     (repeat' ((conv=>whnf);first|refine vA ?_|(refine vF ?_ ?_<;>intro hc<;>try simp only [vL] at hc)|refine vT ?_));all_goals try conv=>whnf
     ·refine zo.dataN (cp) (by (repeat refine ⟨⟨rfl,rfl⟩,?_⟩);rfl) ?_
      (repeat' ((conv=>whnf);first|refine vA ?_|refine vH ?_|refine vJ fun hg=>?_|refine vT ?_));all_goals try conv=>whnf
      refine zy (fun ((j,b):Nat×Bool)=>[(1,.d (.arr 1 (says.map dF))),(2,.ptr 0 0),(9,.d (.u64 (S))),(10,.d (.int .i64 (0))),(11,.d (.int .i64 ((w:Int)))),(12,.d (.arr 2 (L.map zpl))),(14,.d (.bool (b))),(15,.d (.int .i64 ((j:Int))))]) (fun ((j,b):Nat×Bool)=>[(0,some (zaH m))]) 1 (fun ((j,b):Nat×Bool)=>j≤L.length∧b=(decide (L.length=says.length)&&(L.take j).all (·.1))) (fun ((j,b):Nat×Bool)=>L.length - j) ((0,decide (((L.map zpl).length:Int)=((says.map dF).length:Int)))) [(0,0)] [] (⟨by omega,by simp only [List.length_map,List.take_zero,List.all_nil,Bool.and_true];exact decide_eq_decide.2 (by omega)⟩) (by (refine ⟨rfl,rfl,rfl,?_,?_⟩;repeat' first|exact trivial|exact rfl|exact .inl rfl|refine And.intro ?_ ?_|refine ⟨_,rfl,?_⟩|decide)) ?_
      rintro ⟨j,b⟩ ⟨j1,j2⟩
      (repeat' ((conv=>whnf);first|refine vA ?_|refine vE ?_|((first|refine vF ?_ ?_|refine vI ?_ ?_)<;>intro hc<;>try simp only [vL] at hc)|refine vJ fun hg=>?_|refine vT ?_|(refine vQ ?_ fun x hx=>?_;·omega)|(refine vO ?_ ?_;·omega)|refine vZ ?_));all_goals try conv=>whnf
      ·refine ⟨(j+1,x.1),[(0,0)],[],?_,?_,by (refine ⟨rfl,rfl,rfl,?_,?_⟩;repeat' first|exact trivial|exact rfl|exact .inl rfl|refine And.intro ?_ ?_|refine ⟨_,rfl,?_⟩|decide)⟩
       ·refine ⟨by omega,?_⟩
        rw [‹b=true›] at j2
        rw [zwq hx,List.all_append,← Bool.and_assoc,← j2]
        simp
       ·((simp only [vM] at *;omega))
      ·refine ⟨(j+1,false),[(0,0)],[],?_,?_,by (refine ⟨rfl,rfl,rfl,?_,?_⟩;repeat' first|exact trivial|exact rfl|exact .inr (.inr ⟨rfl,rfl⟩)|refine And.intro ?_ ?_|refine ⟨_,rfl,?_⟩|decide)⟩
       ·refine ⟨by omega,?_⟩
        rw [‹b=false›] at j2
        have hjl:j < L.length:=by omega
        rw [zwq (List.getElem?_eq_getElem hjl),List.all_append,← Bool.and_assoc,← j2]
        rfl
       ·((simp only [vM] at *;omega))
      ·refine ⟨w+1,[(0,0)],[],?_,?_,by (refine ⟨rfl,rfl,rfl,?_,?_⟩;repeat' first|exact trivial|exact rfl|refine And.intro ?_ ?_|refine ⟨_,rfl,?_⟩|decide)⟩
       ·(omega)
       ·(omega)
      ·exfalso
       refine ‹¬b=_› ?_
       rw [show (BitVec.ofInt 64 (w:Int)).toNat=w from zj4 (k := .i64) (Nat.lt_of_lt_of_le (show w < 64 by omega) (by decide)),j2,List.take_of_length_le (by omega),Bool.eq_iff_iff,Bool.and_eq_true,decide_eq_true_eq,List.all_eq_true,hpw,decide_eq_true_eq]
       exact (zcg S w).symm
     all_goals (exfalso;omega)
    ·(repeat' ((conv=>whnf);first|refine vA ?_|(refine vF ?_ ?_<;>intro hc<;>try simp only [vL] at hc)|refine vT ?_));all_goals try conv=>whnf
     ·exfalso;omega
     ·refine zo.dataN (hA) (by (repeat refine ⟨⟨rfl,rfl⟩,?_⟩);rfl) ?_
      (repeat' ((conv=>whnf);first|refine vT ?_|refine vZ ?_));all_goals try conv=>whnf
   ·have h17 : ∀ n∈cL F,n.op≠17:=(hIs.canon.1.all fun h=>h.op≠17).2 (by
     cases says with
     | nil=>exact (show (1:Int)≠17 by decide)
     | cons f r=>exact absurd (zgq (hs f (List.mem_cons_self ..))).1 hk)
    have cd:=zBY (T:=T) hk h17
    have cp:=fun w:Int=>zCj (T:=T) m w says hk
    generalize zi m=e at *
    clear hIs h17
    (repeat' ((conv=>whnf);first|refine vA ?_|refine vH ?_|refine vT ?_));all_goals try conv=>whnf
    refine zo.dataN (cd) (by (repeat refine ⟨⟨rfl,rfl⟩,?_⟩);rfl) ?_
    (repeat' ((conv=>whnf);first|refine vA ?_|refine vT ?_));all_goals try conv=>whnf
    refine zy (fun (w:Nat)=>[(1,.d (.arr 1 (says.map dF))),(2,.ptr 0 0),(9,.d (.u64 (0#64))),(10,.d (.int .i64 (e))),(11,.d (.int .i64 ((w:Int))))]) (fun (w:Nat)=>[(0,some (zaH m))]) 1 (fun (w:Nat)=>True) (fun (w:Nat)=>m.W.toNat - w) (0) [(0,0)] [] (trivial) (by (refine ⟨rfl,rfl,rfl,?_,?_⟩;repeat' first|exact trivial|exact rfl|refine And.intro ?_ ?_|refine ⟨_,rfl,?_⟩|decide)) ?_
    rintro w -
    have cw:=cp (w:Int)
    (repeat' ((conv=>whnf);first|refine vA ?_|(refine vF ?_ ?_<;>intro hc<;>try simp only [vL] at hc)|refine vT ?_));all_goals try conv=>whnf
    ·refine zo.dataN (cw) (by (repeat refine ⟨⟨rfl,rfl⟩,?_⟩);rfl) ?_
     (repeat' ((conv=>whnf);first|refine vA ?_|(refine vD ?_ ?_<;>intro hc)|refine vJ fun hg=>?_|refine vK fun hg=>?_|refine vT ?_|refine vZ ?_|refine yD hA rfl rfl ?_));all_goals try conv=>whnf
     all_goals exact absurd ‹e=0› hk
    ·refine zo.dataN (hA) (by (repeat refine ⟨⟨rfl,rfl⟩,?_⟩);rfl) ?_
     (repeat' ((conv=>whnf);first|refine vT ?_|refine vZ ?_));all_goals try conv=>whnf
  ·have hz:i.toNat=r:=by omega
   (repeat' ((conv=>whnf);first|refine vA ?_|(refine vF ?_ ?_<;>intro hc<;>try simp only [vL] at hc)|refine vT ?_|(refine vS ?_ fun x hx=>?_;·omega)|fail));all_goals try conv=>whnf
   ·have ch:=zrk (T:=T) m x
    have hx2:says[r]? = some x:=by rw [← hz];exact hx
    refine zo.dataN (ch) (by (repeat refine ⟨⟨rfl,rfl⟩,?_⟩);rfl) ?_
    (repeat' ((conv=>whnf);first|refine vA ?_|((first|refine vD ?_ ?_|refine vF ?_ ?_)<;>intro hc<;>try simp only [vL] at hc)|refine vJ fun hg=>?_|refine vT ?_|(refine vR ?_ ‹_› ?_;·omega)|(refine vU ?_ ?_;·kernel_rfl)|refine vZ ?_|refine yD hA rfl rfl ?_));all_goals try conv=>whnf
    refine zo.dataN (zCr F) (by (repeat refine ⟨⟨rfl,rfl⟩,?_⟩);rfl) ?_
    (repeat' ((conv=>whnf);refine vT ?_));all_goals try conv=>whnf
    refine zo.dataN (zCq x _) (by (repeat refine ⟨⟨rfl,rfl⟩,?_⟩);rfl) ?_
    (repeat' ((conv=>whnf);refine vT ?_));all_goals try conv=>whnf
    refine zo.dataN (zCr _) (by (repeat refine ⟨⟨rfl,rfl⟩,?_⟩);rfl) ?_
    (repeat' ((conv=>whnf);first|refine vT ?_|(refine vO ?_ ?_;·omega)|(refine vU ?_ ?_;·kernel_rfl)|fail));all_goals try conv=>whnf
    refine ⟨(r,_,_),[(0,0)],[],?_,?_,by (refine ⟨rfl,rfl,rfl,?_,?_⟩;repeat' first|exact trivial|exact rfl|refine And.intro ?_ ?_|refine ⟨_,rfl,?_⟩|decide)⟩
    ·have he:(zM m x).2=0:=by assumption
     refine ⟨by omega,fun f hf=>?_,by rw [zab hx2,dlF,← i3],by omega⟩
     rw [zab hx2] at hf
     rcases List.mem_cons.1 hf with rfl|hf
     ·exact ⟨Classical.byContradiction fun hn=>hn (by rw [zkJ hn] at he;exact he),by omega⟩
     ·exact i2 f hf
    ·((simp only [vM] at *;omega))
   ·exfalso;omega
end Go.Ab
namespace Go.Proofs.YtnmoepbhlbebkaaDoor
open Go Go.Ab Go.RowKit Go.ChangeShapes Go.WideShapes
set_option maxRecDepth 100000
theorem topDialogue_c9:(Rows.topDialogueRow.inPlace==Tryd.pinned.checked.prog.inPlace 3)=true:=by kernel_rfl
theorem topDialogue_c10:(Rows.topDialogueRow.unfollowed==Tryd.pinned.checked.prog.unfollowed 3)=true:=by kernel_rfl
theorem topDialogue_c11:(Rows.topDialogueRow.recurses==Tryd.pinned.checked.prog.recurses 3)=true:=by kernel_rfl
theorem topDialogue_c12:(Rows.topDialogueRow.named==Tryd.pinned.checked.prog.varsNamed 3)=true:=by kernel_rfl
theorem topDialogue_c25:Tryd.pinned.checked.prog.mayEnter=true:=by kernel_rfl
theorem topDialogue_c26:(Rows.topDialogueRow.lifted==Tryd.pinned.checked.prog.liftsFinal)=true:=by kernel_rfl
theorem topDialogue_c27:(Tryd.pinned.checked.prog.make==some Rows.topDialogueRow.make)=true:=by kernel_rfl
theorem topDialogue_facts:joinedFacts Tryd.pinned.checked.prog 3 Tryd.f3 Rows.topDialogueSpec Rows.topDialogueRow=true:=(zCB (zCB (zCB (zCB (zCB (zCB (zCB (zCB (zCB (zCB (zCB (zCB (zCB (zCB (zCB (zCB (zCB (zCB (zCB (zCB (zCB (zCB (zCB (zCB (zCB (zCB (zCB (zCB (zCB (zCB (zCB (by kernel_rfl) (by kernel_rfl)) (by kernel_rfl)) (by kernel_rfl)) (by kernel_rfl)) (by kernel_rfl)) (by kernel_rfl)) (by kernel_rfl)) (by kernel_rfl)) topDialogue_c9) topDialogue_c10) topDialogue_c11) topDialogue_c12) (by kernel_rfl)) (by kernel_rfl)) (by kernel_rfl)) (by kernel_rfl)) (by kernel_rfl)) (by kernel_rfl)) (by kernel_rfl)) (by kernel_rfl)) (by kernel_rfl)) (by kernel_rfl)) (by kernel_rfl)) (by kernel_rfl)) topDialogue_c25) topDialogue_c26) topDialogue_c27) (by kernel_rfl)) (by kernel_rfl)) (by kernel_rfl)) (by kernel_rfl))
theorem topDialogue_holds:Rows.TopDialogueSaid :=
 OpenClaim.holds_of_wide 3 Tryd.f3 rfl rfl rfl rfl rfl rfl rfl ⟨rfl,rfl,rfl,rfl,rfl⟩ rfl rfl rfl rfl rfl (by kernel_rfl) Tryd.func3 topDialogue_facts
  (of_decide_eq_true (by kernel_rfl)) (by unfold Func.isWrapper;rw [if_neg (of_decide_eq_false (by kernel_rfl))];exact ⟨rfl,rfl⟩)
  (fun os started H enc _=>zB1 (C:=Tryd.checked) (s:=Rows.topDialogueSpec) (laid:=laidL) knob started (by kernel_rfl) Tryd.func3 laidOut [25,26] Tryd.params3 rfl Tryd.underlying4 rfl (by kernel_rfl)
   (fun ds hds=>by match ds,hds with|[d1,d2],_=>rfl)
   (ChangeSpec.witness_shaped (enc:=enc) (C:=Tryd.checked) (os:=os) (X:=fun w _=>laidMetH Tryd.prog laidL w) false (World.doorLaid Tryd.prog 14 os)
    #[.agg #[.int .i64 0,.slice none 0 0,.slice none 0 0],.slice none 0 0] 8 rfl (World.shaped_of_RefB (by kernel_rfl) (by kernel_rfl)) (by kernel_rfl) (by kernel_rfl) (by kernel_rfl) (door_met os _))
   (fun W hL=>⟨TOf W,(zCx hL).1,(zCx hL).2,fun ds hds=>by
    obtain ⟨m1,r,rfl,hm1,k1⟩:=zB7 hds
    obtain ⟨f2,r,rfl,k2⟩:=zB6 k1
    obtain rfl:=zCC k2
    exact law_Dial (tz_of hL) m1 f2⟩))
theorem topDialogue_card:Rows.TopDialogueCardSaid :=
 Claim7.holds_tied_plain_at .later [] [.data] true (true, "7a347cb9a06394a95226200a4545b30b3c5f3750811211b8b198eb3700db2b15") false
  topDialogue_holds (fun _ h=>by cases h) (by kernel_rfl) (fun _ h=>by cases h) topDialogue_row_tie rfl ⟨rfl,rfl⟩ (by kernel_rfl) rfl
  (fun f fn hf hfn=>by
   obtain rfl:f=3:=Option.some.inj ((show Tryd.prog.funcNamed Rows.topDialogueRow.func=some 3 by kernel_rfl).symm.trans hf) |>.symm
   obtain rfl:fn=Tryd.f3:=(Option.some.inj (Tryd.func3.symm.trans hfn)).symm
   exact ⟨by kernel_rfl,fun j t ht=>by
    rw [Tryd.params3] at ht
    have hm:t∈[25,26]:=by
     have:=List.mem_of_getElem? (l:=[25,26]) (i:=j) (by simpa using ht)
     exact this
    have hall:([25,26].all fun t=>Tryd.prog.wantsStandIn t==false)=true:=by kernel_rfl
    exact eq_of_beq (List.all_eq_true.1 hall t hm)⟩)
  (by kernel_rfl)
end Go.Proofs.YtnmoepbhlbebkaaDoor
