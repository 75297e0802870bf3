/- What is proved here: the law PlausbisimFormulas returns true at every input and leaves its arguments as they were. The condition is the row own: the listed table of math bits holds what the text lays. -/
import Derived.Test.YtmnbcipineblbaaGreatDoorMH
set_option linter.unusedVariables false
set_option linter.unusedSimpArgs false
set_option linter.unusedSectionVars false
namespace Go.Ab
open Go Go.Proofs
section
open K
def zcE:Nat:=5
def zek:Nat:=26
def zfT:CFn:=⟨129,[.tmp 6],(q [(.reg [o 3 (.box 4 (t 0)),o 6 (.mv (c .bf))]),
 (q [(.reg [o 15 (la 4 3),o 16 (.call 10 [(t 15),(c (n 7))]),o 17 (.un .not (t 16))]),
 (i 17 (q [(.reg [o 18 (.call 11 []),o 6 (m 18)]),
 .ret]) .skip)]),
 (.reg [o 20 (la 4 3),o 21 (m 1),o 22 (m 2),o 23 (.call 20 [(t 20),(t 21),(t 22)]),o 19 (m 23),o 24 (e 19 0),o 25 (e 19 1),o 7 (m 24),o 8 (m 25)]),
 (.reg [o 27 (la 4 3),o 28 (m 1),o 29 (m 2),o 30 (.call 21 [(t 27),(t 28),(t 29)]),o 26 (m 30),o 31 (e 26 0),o 32 (e 26 1),o 9 (m 31),o 10 (m 32)]),
 (.reg [o 34 (la 4 3),o 35 (m 1),o 36 (m 2),o 37 (.call 22 [(t 34),(t 35),(t 36)]),o 33 (m 37),o 38 (e 33 0),o 39 (e 33 1),o 11 (m 38),o 12 (m 39)]),
 (q [(.reg [o 40 (m 7),o 41 (m 9),o 42 (b .neq 40 41),o 43 (m 42),g 44 43 false (m 8),g 45 43 false (m 10),g 46 43 false (b .neq 44 45),o 47 (pt 43 46)]),
 (i 47 (q [(.reg [o 6 (.mv (c .bf))]),
 .ret]) .skip)]),
 (q [(.reg [o 48 (m 12),o 49 (bc .neq 48 (n 0))]),
 (i 49 (q [(.reg [o 50 (m 11),o 51 (ln 50),o 52 (bc .eql 51 (n 0)),o 53 (m 52),g 54 53 true (m 12),g 55 53 true (m 10),g 56 53 true (b .eql 54 55),g 57 53 true (m 56),g 58 57 false (m 12),g 59 57 false (bc .eql 58 (n 8)),g 60 57 false (m 59),g 61 60 true (m 10),g 62 60 true (bc .eql 61 (n 0)),g 63 57 false (pf 60 62),g 64 57 false (m 63),g 65 64 true (f 0 3),g 66 64 true (l 65),g 67 64 true (bc .gtr 66 (n 5)),g 68 57 false (pf 64 67),g 69 53 true (pt 57 68),o 70 (pf 53 69),o 71 (m 70),g 72 71 true (.call 11 []),o 73 (pf 71 72),o 6 (m 73)]),
 .ret]) .skip)]),
 (q [(.reg [o 74 (m 10),o 75 (bc .neq 74 (n 0)),o 76 (m 75),g 77 76 false (m 11),g 78 76 false (.call 23 [(t 77)]),g 79 76 false (bc .neq 78 (n 0)),o 80 (pt 76 79),o 81 (m 80),g 82 81 false (m 11),g 83 81 false (f 2 3),g 84 81 false (l 83),g 85 81 false (ln 84),g 86 81 false (f 1 3),g 87 81 false (l 86),g 88 81 false (ln 87),g 89 81 false (.call 24 [(t 82),(t 85),(t 88)]),g 90 81 false (.un .not (t 89)),o 91 (pt 81 90),o 92 (m 91),g 93 92 false (m 11),g 94 92 false (.call 25 [(t 93)]),g 95 92 false (bc .andNot 94 (n 33)),g 96 92 false (bc .neq 95 (n 0)),o 97 (pt 92 96),o 98 (m 97),g 99 98 false (m 11),g 100 98 false (.call 26 [(t 99)]),g 101 98 false (m 7),g 102 98 false (b .neq 100 101),o 103 (pt 98 102)]),
 (i 103 (q [(.reg [o 6 (.mv (c .bf))]),
 .ret]) .skip)]),
 (.reg [o 105 (la 4 3),o 106 (m 11),o 107 (.call 27 [(t 105),(t 106)]),o 104 (m 107),o 108 (e 104 0),o 109 (e 104 1),o 13 (m 108),o 14 (m 109)]),
 (.reg [o 110 (m 14),o 111 (bc .eql 110 (n 0)),o 112 (m 111),g 113 112 true (m 13),g 114 112 true (m 1),g 115 112 true (b .shr 113 114),g 116 112 true (bc .and 115 (u 1)),g 117 112 true (bc .eql 116 (u 1)),o 118 (pf 112 117),o 119 (m 118),g 120 119 true (m 13),g 121 119 true (m 2),g 122 119 true (b .shr 120 121),g 123 119 true (bc .and 122 (u 1)),g 124 119 true (bc .eql 123 (u 0)),o 125 (pf 119 124),o 126 (m 125),g 127 126 true (.call 11 []),o 128 (pf 126 127),o 6 (m 128)]),
 .ret])⟩
end
set_option maxRecDepth 100000
set_option maxHeartbeats 4000000
theorem zfZ:za Tryz.prog zcE=some zfT:=by kernel_rfl
def zg5 : {c:CFn // za Tryz.prog zek=some c} := ⟨_,by cbv⟩
theorem zmQ:za Tryz.prog zek=some zg5.1:=zg5.2
end Go.Ab
namespace Go.Ab
open Go Go.Proofs
set_option maxRecDepth 10000
set_option maxHeartbeats 4000000
variable {T:Nat→Obj→Prop}
abbrev zsg (l:List Nat):List D:=l.map fun d:Nat=>D.int .i64 (d:Int)
theorem zBO:zxo zac where
 x h a b c hx:=by unfold zac;simp [hx]
 y h a b c hy:=by unfold zac;simp [hy]
def zsh (f:List Nd):Int:=if (cL f).length=0 then -1 else ((za0 zac 0 (cL f) []).getD ((cL f).length - 1) 0:Nat)
theorem zy0 (f:List Nd) (ho : ∀ n∈cL f,n.op≤15):Fn Tryz.prog T zek [.d (dF f)] [] (.d (.int .i64 (zsh f))) []:=by
 have hlen:=zj2 f
 have hok:=zpp f
 refine zd zp zmQ (by show 1≤82;decide) ?_
 (repeat' ((conv=>whnf);first|refine vA ?_|refine vT ?_|refine yN (zfX _) ⟨⟨rfl,rfl⟩,rfl⟩ ?_));all_goals try conv=>whnf
 refine zt (fun ((k,zs):Nat×List D)=>[(3,.d (dF (cL f))),(4,.own 0),(5,.d (.int .i64 ((k:Int))))]) (fun ((k,zs):Nat×List D)=>[(0,some (.row 1 zs))]) 1 (fun ((k,zs):Nat×List D)=>k≤(cL f).length∧zs=zsg (za0 zac 0 ((cL f).take k) []) ∧ ∀ x∈za0 zac 0 ((cL f).take k) [],x≤k) (fun ((k,zs):Nat×List D)=>(cL f).length - k) ((0,[])) [] [0] (⟨by simp,rfl,by simp [za0]⟩) (by (refine ⟨rfl,rfl,rfl,?_,?_⟩;repeat' first|exact trivial|exact rfl|exact ⟨_,rfl⟩|refine And.intro ?_ ?_|decide)) ?_
 rintro ⟨k,zs⟩ ⟨hk,hI,hB⟩
 subst hI
 have hl:(za0 zac 0 ((cL f).take k) []).length=k:=by rw [zqY];simp;omega
 by_cases hkl:k < (cL f).length
 ·obtain ⟨n,hn⟩ : ∃ n,(cL f)[k]? = some n:=⟨(cL f)[k],by simp [hkl]⟩
  have hnm:=List.mem_of_getElem? hn
  have h15:=ho n hnm
  obtain ⟨-,x1,-,y1,-⟩:=zlH (hok k n hn)
  have hst0:za0 zac 0 ((cL f).take (k+1)) []=za0 zac 0 ((cL f).take k) []++[zac n.hd ((za0 zac 0 ((cL f).take k) []).getD n.x.toNat 0) ((za0 zac 0 ((cL f).take k) []).getD n.y.toNat 0)]:=by
   rw [List.take_add_one,hn];exact zpc _ _ _ _ _
  generalize za0 zac 0 ((cL f).take k) []=S at hst0 hl hB
  have hSl:(zsg S).length=k:=by simp;omega
  have hgx : ∀ i:Int,0≤i→i < k → ∃ a,S[i.toNat]? = some a∧a≤k∧S.getD i.toNat 0=a:=fun i h0 h1=>by
   obtain ⟨a,ha⟩ : ∃ a,S[i.toNat]? = some a:=⟨_,List.getElem?_eq_getElem (by omega)⟩
   exact ⟨a,ha,hB _ (List.mem_of_getElem? ha),by rw [List.getD,ha];rfl⟩
  have hux:=zd5 (T:=T) n.op
  have huy:=zcn (T:=T) n.op
  have fin : ∀ (d:Nat) (z:Int),z=d→d≤k+1→zac n.hd (S.getD n.x.toNat 0) (S.getD n.y.toNat 0)=d→zsg S++[D.int .i64 z]=zsg (za0 zac 0 ((cL f).take (k+1)) []) ∧ ∀ x∈za0 zac 0 ((cL f).take (k+1)) [],x≤k+1:=by
   rintro d z rfl hd e
   rw [hst0,e]
   refine ⟨by simp,fun x hx=>?_⟩
   rcases List.mem_append.1 hx with h|h
   ·have:=hB x h;omega
   ·rw [List.mem_singleton.1 h];omega
  have hm:zfj n.hd.op=if 9≤n.op then 1 else 0:=by
   unfold zfj;show (if (9≤n.op∧n.op≤15)∨16≤n.op then 1 else 0)=_
   by_cases h:9≤n.op
   ·rw [if_pos (by omega),if_pos h]
   ·rw [if_neg (by omega),if_neg h]
  cases hx:zK n.op with
  | false =>
   have hy:zB n.op=false:=by
    cases hy:zB n.op with
    | true=>rw [zX hy] at hx;cases hx
    | false=>rfl
   rw [hx] at hux
   rw [hy] at huy
   have hlt:n.op < 9:=by have : ¬(4≤n.op∧n.op≤21):=of_decide_eq_false hx;omega
   have hd:zac n.hd (S.getD n.x.toNat 0) (S.getD n.y.toNat 0)=0:=by
    unfold zac;rw [hm,if_neg (show ¬zK n.hd.op=true by rw [show zK n.hd.op=false from hx];decide),if_neg (show ¬zB n.hd.op=true by rw [show zB n.hd.op=false from hy];decide),if_neg (by omega)];rfl
   (repeat' ((conv=>whnf);first|refine zP.decN (by omega) ?_|refine vA ?_|refine vH ?_|(refine vF ?_ ?_<;>intro hc<;>try simp only [vL] at hc)|refine vJ fun hg=>?_|refine vT ?_|refine vN ‹_› ?_|(refine vQ ?_ fun x hx=>?_;·omega)|((first|refine vO ?_ ?_|refine vP ?_ ?_);·first|omega|(simp only [vM] at *;omega))|refine vX ?_|refine yD hux ⟨⟨rfl,rfl⟩,rfl⟩ rfl ?_|refine yD huy ⟨⟨rfl,rfl⟩,rfl⟩ rfl ?_));all_goals try conv=>whnf
   all_goals try omega
   refine ⟨(k+1,_),[(0,2)],[],?_,?_,by (refine ⟨rfl,rfl,rfl,?_,?_⟩;repeat' first|exact trivial|exact rfl|refine And.intro ?_ ?_|refine ⟨_,rfl,?_⟩|decide)⟩
   ·exact ⟨hkl,fin 0 _ rfl (by omega) hd⟩
   ·((simp only [vM] at *;omega))
  | true =>
   obtain ⟨x2,x3⟩:=x1 hx
   obtain ⟨a,ha,hak,hga⟩:=hgx n.x x2 x3
   rw [hx] at hux
   cases hy:zB n.op with
   | false =>
    rw [hy] at huy
    have hd:zac n.hd (S.getD n.x.toNat 0) (S.getD n.y.toNat 0)=a+if 9≤n.op then 1 else 0:=by
     unfold zac;rw [hm,if_pos (show zK n.hd.op=true from hx),if_neg (show ¬zB n.hd.op=true by rw [show zB n.hd.op=false from hy];decide),hga];omega
    by_cases h9:9≤n.op
    ·rw [if_pos h9] at hd
     (repeat' ((conv=>whnf);first|refine zP.decN (by omega) ?_|refine zP.decY (by omega) ?_|refine vA ?_|refine vG ?_|refine vH ?_|(refine vF ?_ ?_<;>intro hc<;>try simp only [vL] at hc)|refine vJ fun hg=>?_|refine vT ?_|refine vN ‹_› ?_|(refine vQ ?_ fun x hx=>?_;·omega)|((first|refine vO ?_ ?_|refine vP ?_ ?_);·first|omega|(simp only [vM] at *;omega))|refine vX ?_|refine yD hux ⟨⟨rfl,rfl⟩,rfl⟩ rfl ?_|refine yD huy ⟨⟨rfl,rfl⟩,rfl⟩ rfl ?_));all_goals try conv=>whnf
     all_goals try omega
     refine ⟨(k+1,_),[(0,2)],[],?_,?_,by (refine ⟨rfl,rfl,rfl,?_,?_⟩;repeat' first|exact trivial|exact rfl|refine And.intro ?_ ?_|refine ⟨_,rfl,?_⟩|decide)⟩
     ·exact ⟨hkl,fin _ _ (by omega) (by omega) hd⟩
     ·((simp only [vM] at *;omega))
    ·rw [if_neg h9] at hd
     (repeat' ((conv=>whnf);first|refine zP.decN (by omega) ?_|refine vA ?_|refine vG ?_|refine vH ?_|(refine vF ?_ ?_<;>intro hc<;>try simp only [vL] at hc)|refine vJ fun hg=>?_|refine vT ?_|refine vN ‹_› ?_|(refine vQ ?_ fun x hx=>?_;·omega)|((first|refine vO ?_ ?_|refine vP ?_ ?_);·first|omega|(simp only [vM] at *;omega))|refine vX ?_|refine yD hux ⟨⟨rfl,rfl⟩,rfl⟩ rfl ?_|refine yD huy ⟨⟨rfl,rfl⟩,rfl⟩ rfl ?_));all_goals try conv=>whnf
     all_goals try omega
     refine ⟨(k+1,_),[(0,2)],[],?_,?_,by (refine ⟨rfl,rfl,rfl,?_,?_⟩;repeat' first|exact trivial|exact rfl|refine And.intro ?_ ?_|refine ⟨_,rfl,?_⟩|decide)⟩
     ·exact ⟨hkl,fin _ _ (by omega) (by omega) hd⟩
     ·((simp only [vM] at *;omega))
   | true =>
    obtain ⟨y2,y3⟩:=y1 hy
    obtain ⟨b,hb,hbk,hgb⟩:=hgx n.y y2 y3
    rw [hy] at huy
    have hd:zac n.hd (S.getD n.x.toNat 0) (S.getD n.y.toNat 0)=max a b+if 9≤n.op then 1 else 0:=by
     unfold zac;rw [hm,if_pos (show zK n.hd.op=true from hx),if_pos (show zB n.hd.op=true from hy),hga,hgb]
    by_cases h9:9≤n.op
    ·rw [if_pos h9] at hd
     (repeat' ((conv=>whnf);first|refine zP.decN (by omega) ?_|refine zP.decY (by omega) ?_|refine vA ?_|refine vG ?_|(refine vF ?_ ?_<;>intro hc<;>try simp only [vL] at hc)|refine vJ fun hg=>?_|refine vT ?_|refine vN ‹_› ?_|(refine vQ ?_ fun x hx=>?_;·omega)|((first|refine vO ?_ ?_|refine vP ?_ ?_);·first|omega|(simp only [vM] at *;omega))|refine vX ?_|refine yD hux ⟨⟨rfl,rfl⟩,rfl⟩ rfl ?_|refine yD huy ⟨⟨rfl,rfl⟩,rfl⟩ rfl ?_));all_goals try conv=>whnf
     all_goals try omega
     refine ⟨(k+1,_),[(0,2)],[],?_,?_,by (refine ⟨rfl,rfl,rfl,?_,?_⟩;repeat' first|exact trivial|exact rfl|refine And.intro ?_ ?_|refine ⟨_,rfl,?_⟩|decide)⟩
     ·exact ⟨hkl,fin _ _ (by omega) (by omega) hd⟩
     ·((simp only [vM] at *;omega))
    ·rw [if_neg h9] at hd
     (repeat' ((conv=>whnf);first|refine zP.decN (by omega) ?_|refine vA ?_|refine vG ?_|(refine vF ?_ ?_<;>intro hc<;>try simp only [vL] at hc)|refine vJ fun hg=>?_|refine vT ?_|refine vN ‹_› ?_|(refine vQ ?_ fun x hx=>?_;·omega)|((first|refine vO ?_ ?_|refine vP ?_ ?_);·first|omega|(simp only [vM] at *;omega))|refine vX ?_|refine yD hux ⟨⟨rfl,rfl⟩,rfl⟩ rfl ?_|refine yD huy ⟨⟨rfl,rfl⟩,rfl⟩ rfl ?_));all_goals try conv=>whnf
     all_goals try omega
     refine ⟨(k+1,_),[(0,2)],[],?_,?_,by (refine ⟨rfl,rfl,rfl,?_,?_⟩;repeat' first|exact trivial|exact rfl|refine And.intro ?_ ?_|refine ⟨_,rfl,?_⟩|decide)⟩
     ·exact ⟨hkl,fin _ _ (by omega) (by omega) hd⟩
     ·((simp only [vM] at *;omega))
 ·obtain rfl:k=(cL f).length:=by omega
  rw [List.take_length] at hl
  rw [List.take_length]
  have h0:=congrArg List.length (show zsg (za0 zac 0 (cL f) [])=_ from rfl)
  (repeat' ((conv=>whnf);first|refine vA ?_|(refine vF ?_ ?_<;>intro hc<;>try simp only [vL] at hc)|refine vJ fun hg=>?_|refine vT ?_|(refine vQ ?_ fun x hx=>?_;·first|omega|(simp only [vM] at *;omega))|((first|refine vO ?_ ?_|refine vP ?_ ?_);·(simp only [vM] at *;omega))|refine vX ?_));all_goals try conv=>whnf
  ·omega
  ·have:zsh f = -1:=if_pos (by omega)
   rw [this]
  ·have h1:zsh f=_:=if_neg (by omega)
   have h2:((zsg (za0 zac 0 (cL f) [])).length:Int) - 1=((cL f).length - 1:Nat):=by simp;omega
   rw [h2,Int.toNat_natCast] at hx
   rw [h1,List.getD,hx];rfl
theorem zBg {f:List Nd} (h:zbI .i64 (fun p q=>p &&& ~~~q) (uni zai (cL f):Int) 33=0) {n:Nd} (hn:n∈cL f) (h15:n.op≤15):zhK n.hd:=by
 have hlt:uni zai (cL f) < 2 ^ 63:=Nat.lt_trans ((zfq zai).2 fun n _=>zh4 n.hd) (by decide)
 have h1:=(zio hlt (b:=33) (by decide)).1 h
 have h2 : ∀ i,(zai n.hd).testBit i=true→(33:Nat).testBit i=true:=fun i hi=>h1 i (by rw [zih];exact List.any_eq_true.2 ⟨n,hn,hi⟩)
 have key : ∀ (o:Int) (i:Nat),n.op=o→((zaH o).toNat).testBit i=true→(33:Nat).testBit i=true:=fun o i e hi=>h2 i (by rw [zai];show ((zaH n.op).toNat).testBit i=true;rw [e];exact hi)
 refine Classical.byContradiction fun hc=>?_
 have hc : ¬(n.op≤10∨n.op=15):=hc
 have:n.op=11∨n.op=12∨n.op=13∨n.op=14:=by omega
 rcases this with e|e|e|e
 ·exact absurd (key 11 1 e (by decide)) (by decide)
 ·exact absurd (key 12 2 e (by decide)) (by decide)
 ·exact absurd (key 13 3 e (by decide)) (by decide)
 ·exact absurd (key 14 4 e (by decide)) (by decide)
end Go.Ab
namespace Go.Ab
open Go Go.Proofs
set_option maxRecDepth 10000
set_option maxHeartbeats 4000000
variable {T:Nat→Obj→Prop}
theorem zDE {p:PM} {v w:Int} (he:zaD p v w=0) : ∃ d:Nat,zdL p v w=((d:Int),0)∧((5 < p.W∧zot p v w=([],8)) ∨ ∃ f t,zot p v w=(f,0)∧zaX f=0∧zfu f p.cell.length p.val.length=true ∧
  zbI .i64 (fun p q=>p &&& ~~~q) (uni zai (cL f):Int) 33=0∧(∀ n∈cL f,n.op≤15)∧zsh f=d∧zcP p f=(t,0)∧t.getLsbD v.toNat=true∧t.getLsbD w.toNat=false):=by
 obtain ⟨hc0,h2,h3,h4,h5,d,h6,h7,h8,h9⟩:=zne he
 have hg:=zM hc0
 refine ⟨d,by rw [zdL,if_neg (not_not_intro he),h6],?_⟩
 have e:zot p v w=if (apF p (zaS p+1) [] v.toNat w.toNat).2.length=0 then ([],8) else ((apF p (zaS p+1) [] v.toNat w.toNat).2,0):=if_neg (not_not_intro he)
 rw [e]
 obtain ⟨L',m,-,-,-,-,hr⟩:=zyz hc0 (sm:=decide (p.W≤5)) (fun h=>of_decide_eq_true h) (zaS p+1) v.toNat w.toNat d (by omega) (by omega) (by omega) h7 h8 [] [] ⟨List.nodup_nil,nofun,fun _=>by simp,nofun⟩
 rcases hr with ⟨h,hf⟩|⟨t,⟨hF,hlh,-⟩,ht⟩
 ·left
  rw [hf]
  exact ⟨by have:=of_decide_eq_false h;omega,rfl⟩
 ·right
  have hpos:=(zdN.1 hF.ok).1
  rw [if_neg (by omega)]
  generalize (apF p (zaS p+1) [] v.toNat w.toNat).2=f at hF hpos
  have hc:=hF.canon.1
  have hfit:t.all (zhJ p):=(zgk.1 (zgk.1 hlh).2).2
  have h33 : ∀ n∈cL f,∀ i,(zai n.hd).testBit i=true→(33:Nat).testBit i=true:=fun n hn=>(hc.all _).2 (zgk.1 (zgk.1 hlh).2).1 n hn
  have hlang:t.all zik:=(hc.all _).1 fun n hn i hi=>by
   have:=h33 n hn i hi
   have h6:i < 6:=by
    refine Classical.byContradiction fun h=>?_
    rw [Nat.testBit_lt_two_pow (Nat.lt_of_lt_of_le (by decide:(33:Nat) < 2 ^ 6) (Nat.pow_le_pow_right (by decide) (by omega)))] at this
    cases this
   have:i=0∨i=5:=by
    have:i=0∨i=1∨i=2∨i=3∨i=4∨i=5:=by omega
    rcases this with rfl|rfl|rfl|rfl|rfl|rfl<;>first|exact .inl rfl|exact .inr rfl|(revert this;decide)
   rcases this with rfl|rfl<;>decide
  have hfr:zbI .i64 (fun p q=>p &&& ~~~q) (uni zai (cL f):Int) 33=0:=by
   have hlt:uni zai (cL f) < 2 ^ 63:=Nat.lt_trans ((zfq zai).2 fun n _=>zh4 n.hd) (by decide)
   refine (zio hlt (b:=33) (by decide)).2 fun i hi=>?_
   rw [zih,List.any_eq_true] at hi
   obtain ⟨n,hn,hi⟩:=hi
   exact h33 n hn i hi
  have h59:=(zvr hc).2 hlang
  have h15 : ∀ n∈cL f,n.op≤15:=fun n hn=>(zrQ h59 hn).2.1
  have hv:=zvm hF hc0 hlang hfit
  have hp:=hc.pos
  have hdep:zsh f=(ev zac 0 t:Nat):=by rw [zsh,if_neg (by omega),ztD zBO hc]
  have hge:d≤ev zac 0 t:=by
   refine Classical.byContradiction fun hlt=>?_
   have hpl:t.all zhK:=(hc.all _).1 fun n hn=>zBg hfr hn (h15 n hn)
   have hs:=zpB hc0 t hF.tok hfit hpl v.toNat w.toNat (by omega) (by omega) (h9 _ (by omega))
   exact ht.no _ rfl (hs.1 ht.yes)
  have hle:=ht.dep
  exact ⟨f,_,rfl,hF.ok,(zu3 hg hF).2 hfit,hfr,h15,by rw [hdep];omega,hv,ht.yes,by simpa using ht.no _ rfl⟩
theorem zvs (hT:zqn T) (p:PM) (hp:zat p.rank) (v w:Int):Fn Tryz.prog T zcE [.d (dPM p),.d (.int .i64 v),.d (.int .i64 w)] [] (.d (.bool true)) []:=by
 have hR:=zqS (T:=T)
 have hA:=zxO hT
 have hf:=zAK (T:=T) p 7
 refine zd zp zfZ (by show 3≤129;decide) ?_
 cases hb:zqx p 7 with
 | false =>
  rw [hb] at hf
  (repeat' ((conv=>whnf);first|refine vA ?_|refine vE ?_|refine vH ?_|refine vT ?_|refine vZ ?_|refine yD hf ⟨⟨rfl,rfl⟩,⟨rfl,rfl⟩,rfl⟩ rfl ?_|refine yD hA (by (repeat refine ⟨⟨rfl,rfl⟩,?_⟩);rfl) rfl ?_));all_goals try conv=>whnf
 | true =>
  rw [hb] at hf
  have c1:=zyX (T:=T) hR p hp v w
  have c2:=zwm (T:=T) p hp v w
  have c3:=zwj (T:=T) hR p hp v w
  by_cases he:zaD p v w=0
  ·obtain ⟨hc0,r1,r2,r3,r4,-⟩:=zne he
   obtain ⟨d,e1,⟨hW,e2⟩|⟨f,t,e2,q1,q2,q3,q4,q5,q6,q7,q8⟩⟩:=zDE he
   ·rw [e1] at c1 c2
    rw [e2] at c3
    (repeat' ((conv=>whnf);first|refine vA ?_|refine vE ?_|refine vG ?_|refine vH ?_|((first|refine vD ?_ ?_|refine vF ?_ ?_)<;>intro hc<;>try simp only [vL] at hc)|refine vJ fun hg=>?_|refine vT ?_|refine vZ ?_|refine yD hf ⟨⟨rfl,rfl⟩,⟨rfl,rfl⟩,rfl⟩ rfl ?_|refine yN c1 ⟨⟨rfl,rfl⟩,⟨rfl,rfl⟩,⟨rfl,rfl⟩,rfl⟩ ?_|refine yN c2 ⟨⟨rfl,rfl⟩,⟨rfl,rfl⟩,⟨rfl,rfl⟩,rfl⟩ ?_|refine yN c3 ⟨⟨rfl,rfl⟩,⟨rfl,rfl⟩,⟨rfl,rfl⟩,rfl⟩ ?_|refine yD hA (by (repeat refine ⟨⟨rfl,rfl⟩,?_⟩);rfl) rfl ?_));all_goals try conv=>whnf
    all_goals first|(exact absurd rfl ‹(d:Int)≠d›)|(exfalso;omega)
   ·rw [e1] at c1 c2
    rw [e2] at c3
    have c4:=ziw (T:=T) f
    have c5:=zve (T:=T) f ((p.cell.map dI).length:Int) ((p.val.map D.u64).length:Int)
    have c6:=zy0 (T:=T) f q4
    have c7:=zxN (T:=T) p hp f
    rw [q1] at c4
    rw [show zfu f ((p.cell.map dI).length:Int) ((p.val.map D.u64).length:Int)=true by rw [List.length_map,List.length_map];exact q2] at c5
    rw [q5] at c6
    rw [q6] at c7
    have b1:t >>> v.toNat&&&1#64=1#64:=(zk8 t _).2 q7
    have b2:t >>> w.toNat&&&1#64=0#64:=(zee t _).2 q8
    (repeat' ((conv=>whnf);first|refine vA ?_|refine vE ?_|refine vG ?_|refine vH ?_|((first|refine vD ?_ ?_|refine vF ?_ ?_)<;>intro hc<;>try simp only [vL] at hc)|refine vJ fun hg=>?_|refine vT ?_|(refine vP ?_ ?_;·omega)|refine vZ ?_|refine yD hf ⟨⟨rfl,rfl⟩,⟨rfl,rfl⟩,rfl⟩ rfl ?_|refine yN c1 ⟨⟨rfl,rfl⟩,⟨rfl,rfl⟩,⟨rfl,rfl⟩,rfl⟩ ?_|refine yN c2 ⟨⟨rfl,rfl⟩,⟨rfl,rfl⟩,⟨rfl,rfl⟩,rfl⟩ ?_|refine yN c3 ⟨⟨rfl,rfl⟩,⟨rfl,rfl⟩,⟨rfl,rfl⟩,rfl⟩ ?_|refine yD c4 ⟨⟨rfl,rfl⟩,rfl⟩ rfl ?_|refine yD c5 ⟨⟨rfl,rfl⟩,⟨rfl,rfl⟩,⟨rfl,rfl⟩,rfl⟩ rfl ?_|refine yD (zs4 f) ⟨⟨rfl,rfl⟩,rfl⟩ rfl ?_|refine yD c6 ⟨⟨rfl,rfl⟩,rfl⟩ rfl ?_|refine yN c7 ⟨⟨rfl,rfl⟩,⟨rfl,rfl⟩,rfl⟩ ?_|refine yD hA (by (repeat refine ⟨⟨rfl,rfl⟩,?_⟩);rfl) rfl ?_));all_goals try conv=>whnf
    all_goals try first|(exact absurd rfl ‹(d:Int)≠d›)|(exact absurd b1 ‹_›)|(exact absurd b2 ‹_›)|(exact absurd q3 ‹_›)
  ·have e1:zdL p v w=(0,zaD p v w):=if_pos he
   have e2:zot p v w=([],zaD p v w):=if_pos he
   rw [e1] at c1 c2
   rw [e2] at c3
   (repeat' ((conv=>whnf);first|refine vA ?_|refine vE ?_|refine vG ?_|refine vH ?_|((first|refine vD ?_ ?_|refine vF ?_ ?_)<;>intro hc<;>try simp only [vL] at hc)|refine vJ fun hg=>?_|refine vT ?_|refine vZ ?_|refine yD hf ⟨⟨rfl,rfl⟩,⟨rfl,rfl⟩,rfl⟩ rfl ?_|refine yN c1 ⟨⟨rfl,rfl⟩,⟨rfl,rfl⟩,⟨rfl,rfl⟩,rfl⟩ ?_|refine yN c2 ⟨⟨rfl,rfl⟩,⟨rfl,rfl⟩,⟨rfl,rfl⟩,rfl⟩ ?_|refine yN c3 ⟨⟨rfl,rfl⟩,⟨rfl,rfl⟩,⟨rfl,rfl⟩,rfl⟩ ?_|refine yD hA (by (repeat refine ⟨⟨rfl,rfl⟩,?_⟩);rfl) rfl ?_));all_goals try conv=>whnf
   all_goals first|(exact absurd rfl ‹zaD p v w≠zaD p v w›)|(exact absurd trivial ‹¬True›)|(exact absurd ‹zaD p v w=0› he)
end Go.Ab
namespace Go.Proofs.YtmnbcipineblbaaGreatDoor
open Go Go.Ab Go.RowKit Go.ChangeShapes Go.WideShapes
set_option maxRecDepth 100000 in
theorem plausbisimFormulas_holds:Rows.PlausbisimFormulasSaid :=
 OpenClaim.holds_of_wide 5 Tryz.f5 rfl rfl rfl rfl rfl rfl rfl ⟨rfl,rfl,rfl,rfl,rfl⟩ rfl rfl rfl rfl rfl (by kernel_rfl) Tryz.func5 (by kernel_rfl)
  (of_decide_eq_true (by kernel_rfl)) (by unfold Func.isWrapper;rw [if_neg (of_decide_eq_false (by kernel_rfl))];exact ⟨rfl,rfl⟩)
  (fun os started H enc _=>zx0 (C:=Tryz.checked) (s:=Rows.plausbisimFormulasSpec) (laid:=laidL) knob started (by kernel_rfl) Tryz.func5 laidOut [25,3,3] Tryz.params5 rfl Tryz.underlying4 rfl (by kernel_rfl)
   (fun ds hds=>by match ds,hds with|[d1,d2,d3],_=>rfl)
   (ChangeSpec.witness_shaped (enc:=enc) (C:=Tryz.checked) (os:=os) (X:=fun w _=>laidMetH Tryz.prog laidL w) false (World.doorLaid Tryz.prog 14 os)
    #[.agg #[.int .i64 0,.slice none 0 0,.slice none 0 0,.slice none 0 0],.int .i64 0,.int .i64 0] 8 rfl (World.shaped_of_RefB (by kernel_rfl) (by kernel_rfl)) (by kernel_rfl) (by kernel_rfl) (by kernel_rfl) (door_met os _))
   (fun W hL=>⟨TOf W,(zzg hL).1,(zzg hL).2,fun ds hds=>by
    obtain ⟨p1,r,rfl,hc1,hp1,k1⟩:=zyA hds
    obtain ⟨a2,r,rfl,ha2,k2⟩:=zwK k1
    obtain ⟨a3,r,rfl,ha3,k3⟩:=zwK k2
    obtain rfl:=zEm k3
    exact zvs (tz_of hL) p1 hp1 a2 a3⟩))
theorem plausbisimFormulas_card:Rows.PlausbisimFormulasCardSaid :=
 Claim7.holds_tied_plain_at .later [] [.data] true (true, "18dfd4ab517486b5b4083ac9653826283ad51281ee160e75dab1c2a0d205e19f") false
  plausbisimFormulas_holds (fun _ h=>by cases h) (by kernel_rfl) (fun _ h=>by cases h) plausbisimFormulas_row_tie rfl ⟨rfl,rfl⟩ (by kernel_rfl) rfl
  (fun f fn hf hfn=>by
   obtain rfl:f=5:=Option.some.inj ((show Tryz.prog.funcNamed Rows.plausbisimFormulasRow.func=some 5 by kernel_rfl).symm.trans hf) |>.symm
   obtain rfl:fn=Tryz.f5:=(Option.some.inj (Tryz.func5.symm.trans hfn)).symm
   exact ⟨by kernel_rfl,fun j t ht=>by
    rw [Tryz.params5] at ht
    have hm:t∈[25,3,3]:=by
     have:=List.mem_of_getElem? (l:=[25,3,3]) (i:=j) (by simpa using ht)
     exact this
    have hall:([25,3,3].all fun t=>Tryz.prog.wantsStandIn t==false)=true:=by kernel_rfl
    exact eq_of_beq (List.all_eq_true.1 hall t hm)⟩)
  (by kernel_rfl)
end Go.Proofs.YtmnbcipineblbaaGreatDoor
