/- What is proved here: the law PlausbisimQuotient returns true at every input and leaves its arguments as they were. The condition is the row own: the listed table of math bits holds what the text lays. -/
import Derived.Test.YtmnbcipineblbaaGreatDoorMH
set_option linter.unusedVariables false
set_option linter.unusedSimpArgs false
set_option linter.unusedSectionVars false
namespace Go.Ab
open Go Go.Proofs
section
open K
def zb9:Nat:=7
def zgc:Nat:=28
def zhf:Nat:=62
def zeB:CFn:=⟨108,[.tmp 4],(q [(.reg [o 2 (.box 4 (t 0)),o 4 (.mv (c .bf))]),
 (q [(.reg [o 14 (la 4 2),o 15 (.call 10 [(t 14),(c (n 8))]),o 16 (.un .not (t 15)),o 17 (m 16),g 18 17 false (la 4 2),g 19 17 false (m 1),g 20 17 false (.call 28 [(t 18),(t 19)]),g 21 17 false (.un .not (t 20)),o 22 (pt 17 21)]),
 (i 22 (q [(.reg [o 23 (.call 11 []),o 4 (m 23)]),
 .ret]) .skip)]),
 (.reg [o 25 (la 4 2),o 26 (.call 17 [(t 25)]),o 24 (m 26),o 27 (e 24 0),o 28 (e 24 1),o 29 (e 24 2),o 5 (.alloc [(n 0),(.nils 1),(.nils 1),(.nils 1)]),w (.store 4 (t 5) (t 27)),o 6 (m 28),o 7 (m 29)]),
 (q [(.reg [o 30 (m 7),o 31 (bc .neq 30 (n 0)),o 32 (m 31),g 33 32 false (m 6),g 34 32 false (ln 33),g 35 32 false (f 0 2),g 36 32 false (l 35),g 37 32 false (b .neq 34 36),o 38 (pt 32 37),o 39 (m 38),g 40 39 false (la 4 5),g 41 39 false (.call 29 [(t 40)]),g 42 39 false (bc .neq 41 (n 0)),o 43 (pt 39 42),o 44 (m 43),g 45 44 false (f 2 5),g 46 44 false (l 45),g 47 44 false (ln 46),g 48 44 false (f 2 2),g 49 44 false (l 48),g 50 44 false (ln 49),g 51 44 false (b .neq 47 50),o 52 (pt 44 51),o 53 (m 52),g 54 53 false (f 1 5),g 55 53 false (l 54),g 56 53 false (ln 55),g 57 53 false (f 1 2),g 58 53 false (l 57),g 59 53 false (ln 58),g 60 53 false (b .neq 56 59),o 61 (pt 53 60)]),
 (i 61 (q [(.reg [o 4 (.mv (c .bf))]),
 .ret]) .skip)]),
 (.reg [o 63 (la 4 2),o 64 (m 1),o 65 (.call 27 [(t 63),(t 64)]),o 62 (m 65),o 66 (e 62 0),o 67 (e 62 1),o 8 (m 66),o 9 (m 67)]),
 (.reg [o 69 (la 4 5),o 70 (m 1),o 71 (.call 27 [(t 69),(t 70)]),o 68 (m 71),o 72 (e 68 0),o 73 (e 68 1),o 10 (m 72),o 11 (m 73)]),
 (q [(.reg [o 74 (m 9),o 75 (bc .neq 74 (n 0)),o 76 (m 75),g 77 76 false (m 11),g 78 76 false (bc .neq 77 (n 0)),o 79 (pt 76 78)]),
 (i 79 (q [(.reg [o 4 (.mv (c .bf))]),
 .ret]) .skip)]),
 (q [(.reg [o 80 (m 6),o 81 (ln 80),o 82 (.mv (c (n 0)))]),
 (.block 0 (.loop (q [(.reg [o 83 (b .lss 82 81)]),
 (i 83 .skip (.exit 0)),
 (.block 1 (q [(.reg [o 84 (m 82),o 85 (ia 1 80 82),o 86 (l 85),o 12 (m 84),o 13 (m 86)]),
 (.regd [o 87 (m 13),o 88 (bc .lss 87 (n 0)),o 89 (m 88),g 90 89 false (m 13),g 91 89 false (f 0 5),g 92 89 false (l 91),g 93 89 false (b .geq 90 92),o 94 (pt 89 93),o 95 (m 94),g 96 95 false (m 8),g 97 95 false (m 12),g 98 95 false (b .shr 96 97),g 99 95 false (bc .and 98 (u 1)),g 100 95 false (m 10),g 101 95 false (m 13),g 102 95 false (b .shr 100 101),g 103 95 false (bc .and 102 (u 1)),g 104 95 false (b .neq 99 103),o 105 (pt 95 104)] [0,1,3,7,7,23,63,127,255,511,511,2047,4095,511,511,25087,57855,131071,262143]),
 (i 105 (q [(.reg [o 4 (.mv (c .bf))]),
 .ret]) .skip)])),
 (.reg [o 106 (bc .add 82 (n 1)),o 82 (m 106)])])))]),
 (.reg [o 107 (.call 11 []),o 4 (m 107)]),
 .ret])⟩
def zme:CFn:=⟨28,[.tmp 4],(q [(.reg [o 2 (.box 4 (t 0)),o 4 (.mv (c .bf))]),
 (.reg [o 5 (la 4 2),o 6 (.call 29 [(t 5)]),o 7 (bc .eql 6 (n 0)),o 8 (m 7),g 9 8 true (m 1),g 10 8 true (.call 62 [(t 9),(c (n 20))]),o 11 (pf 8 10),o 12 (m 11),g 13 12 true (m 1),g 14 12 true (f 2 2),g 15 12 true (l 14),g 16 12 true (ln 15),g 17 12 true (f 1 2),g 18 12 true (l 17),g 19 12 true (ln 18),g 20 12 true (.call 24 [(t 13),(t 16),(t 19)]),o 21 (pf 12 20),o 22 (m 21),g 23 22 true (m 1),g 24 22 true (.call 25 [(t 23)]),g 25 22 true (bc .andNot 24 (n 59)),g 26 22 true (bc .eql 25 (n 0)),o 27 (pf 22 26),o 4 (m 27)]),
 .ret])⟩
def zmK:CFn:=⟨9,[.tmp 4],(q [(.reg [o 4 (.mv (c .bf))]),
 (.reg [o 5 (m 0),o 6 (ln 5),o 7 (m 1),o 8 (b .leq 6 7),o 4 (m 8)]),
 .ret])⟩
end
theorem zeH:zj Tryz.prog zb9=some zeB:=by kernel_rfl
theorem zmq:zj Tryz.prog zgc=some zme:=by kernel_rfl
theorem znv:zj Tryz.prog zhf=some zmK:=by kernel_rfl
end Go.Ab
namespace Go.Ab
open Go Go.Proofs
set_option maxRecDepth 10000
set_option maxHeartbeats 4000000
variable {T:Nat→Obj→Prop}
section
variable {p:PM} (hc0:zm p=0) {a:Nat} (ha:a < p.cell.length)
include hc0 ha
theorem zyQ {w:Nat} : ∀ k:Nat,w < p.W.toNat→(k:Int)≤rkA p a w → ∃ v,v < p.W.toNat∧rkA p a v=k:=by
 have hg:=zz hc0
 have hl:=hg.lens a ha
 suffices H : ∀ (n:Nat) (w:Nat) (k:Nat),w < p.W.toNat→rkA p a w=k+n → ∃ v,v < p.W.toNat∧rkA p a v=k from fun k hw h=>H (rkA p a w - k).toNat w k hw (by omega)
 intro n
 induction n with
 | zero=>intro w k hw h;exact ⟨w,hw,by omega⟩
 | succ n ih =>
  intro w k hw h
  rcases (hg.ranked a ha w (by omega)).2 with h0|⟨v,hv,-,hr⟩
  ·unfold rkA at h;omega
  ·refine ih v k (by omega) ?_
   unfold rkA at h ⊢;omega
theorem zCB {w:Nat} (hw:w < p.W.toNat):0≤rkA p a w∧rkA p a w < p.W:=by
 have hg:=zz hc0
 have hl:=hg.lens a ha
 have h0:0≤rkA p a w:=(hg.ranked a ha w (by omega)).1
 refine ⟨h0,?_⟩
 have hn:=zqH (l:=(List.range ((rkA p a w).toNat+1)).map fun k:Nat=>(k:Int)) (l':=(List.range p.W.toNat).map (rkA p a)) (by
  refine List.Pairwise.map _ (fun x y h=>?_) List.nodup_range
  omega) (fun x hx=>by
  obtain ⟨k,hk,rfl⟩:=List.mem_map.1 hx
  rw [List.mem_range] at hk
  obtain ⟨v,hv,e⟩:=zyQ hc0 ha k hw (by omega)
  exact List.mem_map.2 ⟨v,List.mem_range.2 hv,e⟩)
 simp at hn
 omega
end
theorem zvZ {p:PM} (hc0:zm p=0):zas p.rank:=by
 have hg:=zz hc0
 have h2:=hg.w2
 intro r hr x hx
 obtain ⟨a,ha,rfl⟩:=List.mem_iff_getElem.1 hr
 have ha':a < p.cell.length:=by rw [← hg.len];exact ha
 obtain ⟨w,hw,rfl⟩:=List.mem_iff_getElem.1 hx
 have hl:=hg.lens a ha'
 have e:za p.rank a=p.rank[a]:=zak (List.getElem?_eq_getElem ha)
 rw [e] at hl
 have:=zCB hc0 ha' (w:=w) (by omega)
 have e2:rkA p a w=p.rank[a][w]:=zy (by rw [e];exact List.getElem?_eq_getElem hw)
 rw [← e2]
 exact ⟨by omega,by omega⟩
theorem zyu {p:PM} (hc0:zm p=0) : ∃ s:PM,zfX p (zja p)=(s,0)∧zm s=0∧zpg p=(s,ptL p.W.toNat (z2 (zja p)),0)∧zcc p 64=(ptL p.W.toNat (zja p),0) ∧
  zcc s 64=(ptL s.W.toNat (fun w=>w),0)∧zpg s=(s,ptL s.W.toNat (fun w=>w),0):=by
 obtain ⟨s,hs,-⟩:=zyJ hc0 (zk6 hc0)
 have h1:=(zgF hs).1
 have w2:=(zz h1).w2
 have hd : ∀ b,b < s.W.toNat→zaA s 64 b=b:=fun b hb=>zAw hc0 hs (by omega) hb
 obtain ⟨h2,h3,h4⟩:=zAx h1 hd
 have e1:ptL s.W.toNat (zaA s 64)=ptL s.W.toNat fun w=>w:=zd8 hd
 have e2:ptL s.W.toNat (z2 (zaA s 64))=ptL s.W.toNat fun w=>w:=zd8 h3
 refine ⟨s,hs,h1,?_,?_,?_,?_⟩
 ·rw [zpg,if_neg (by omega),show (zfX p (zaA p 64)).1=s by rw [hs]]
 ·rw [zcc,if_neg (by omega),if_neg (by omega)];rfl
 ·rw [zcc,if_neg (by omega),if_neg (by omega)];rw [← e1];rfl
 ·rw [zpg,if_neg (by omega),h2,e2]
end Go.Ab
namespace Go.Ab
open Go Go.Proofs
set_option maxRecDepth 10000
set_option maxHeartbeats 4000000
variable {T:Nat→Obj→Prop}
def zit (p:PM) (f:List Nd):Bool:=decide (zm p=0)&&(decide (f.length≤20)&&(zdH f p.cell.length p.val.length&&decide (zbt .i64 (fun p q=>p &&& ~~~q) (uni zbO (cL f):Int) 59=0)))
theorem zyc (f:List Nd) (n:Int):Fn Tryz.prog T zhf [.d (dF f),.d (.int .i64 n)] [] (.d (.bool (decide (f.length≤n)))) []:=by
 refine zh zw znv (by show 2≤9;decide) ?_
 (repeat' ((conv=>whnf);first|refine vJ fun hg=>?_|refine vT ?_|refine vZ ?_));all_goals try conv=>whnf
 rw [List.length_map]
theorem zx5 (p:PM) (hp:zas p.rank) (f:List Nd):Fn Tryz.prog T zgc [.d (dPM p),.d (dF f)] [] (.d (.bool (zit p f))) []:=by
 refine zh zw zmq (by show 2≤28;decide) ?_
 (repeat' ((conv=>whnf);first|refine vA ?_|((first|refine vF ?_ ?_|refine vI ?_ ?_)<;>intro hc<;>try simp only [vL] at hc)|refine vJ fun hg=>?_|refine vT ?_|refine vZ ?_|refine yD (zgr p hp) ⟨⟨rfl,rfl⟩,rfl⟩ rfl ?_|refine yD (zyc _ _) ⟨⟨rfl,rfl⟩,⟨rfl,rfl⟩,rfl⟩ rfl ?_|refine yD (zt2 _ _ _) ⟨⟨rfl,rfl⟩,⟨rfl,rfl⟩,⟨rfl,rfl⟩,rfl⟩ rfl ?_|refine yD (zr0 _) ⟨⟨rfl,rfl⟩,rfl⟩ rfl ?_));all_goals try conv=>whnf
 all_goals (unfold zit;first|(rw [decide_eq_false ‹¬zm p=0›];rfl)|(rw [decide_eq_true ‹zm p=0›,decide_eq_false (show ¬f.length≤20 by omega)];rfl)|(rw [decide_eq_true ‹zm p=0›,decide_eq_true (show f.length≤20 by omega),‹zdH f _ _=_›];rfl))
theorem ztO {p:PM} {f:List Nd} (h:zit p f=true):zm p=0∧zbI f=0∧(∀ n∈cL f,n.op≤15)∧(z7 f (f.length - 1)).ok∧(z7 f (f.length - 1)).all (zmw p)∧zcE p f=(ev (zaL p) 0#64 (z7 f (f.length - 1)),0):=by
 unfold zit at h
 simp only [Bool.and_eq_true,decide_eq_true_eq] at h
 obtain ⟨hc0,h20,hfit,hfr⟩:=h
 have hf0:zbI f=0:=by
  have:=hfit
  unfold zdH at this
  simp only [Bool.and_eq_true,decide_eq_true_eq] at this
  exact this.1.1
 have hf:=zCj hf0
 have hc:=hf.canon.1
 have a1:=(zue hc).1 hfr
 have a2:=(ztN (zz hc0) hf).1 hfit
 exact ⟨hc0,hf0,fun n hn=>(zqM hfr hn).2.1,hf.tok,a2,zt8 hf hc0 a1 a2⟩
theorem zs4 : ∀ {t:Tm},t.ok→t.all zgj
 | .z h,ho=>ho.1
 | .u h x,ho=>⟨ho.1,zs4 ho.2.2.2⟩
 | .b h x y,ho=>⟨ho.1,zs4 ho.2.2.2.1,zs4 ho.2.2.2.2⟩
theorem zzK {S S':BitVec 64} {v w:Nat} (h:S.getLsbD v=S'.getLsbD w):S >>> v&&&1#64=S' >>> w&&&1#64:=by
 cases hb:S.getLsbD v with
 | true=>rw [(zee S v).2 hb,(zee S' w).2 (h▸hb)]
 | false=>rw [(zeP S v).2 hb,(zeP S' w).2 (h▸hb)]
end Go.Ab
namespace Go.Ab
open Go Go.Proofs
set_option maxRecDepth 10000
set_option maxHeartbeats 4000000
variable {T:Nat→Obj→Prop}
theorem zuf (hT:zeO T) (p:PM) (hp:zas p.rank) (f:List Nd):Fn Tryz.prog T zb9 [.d (dPM p),.d (dF f)] [] (.d (.bool true)) []:=by
 have hR:=zlP (T:=T)
 have hA:=zwS hT
 have hf:=zzV (T:=T) p 8
 have hk:=zx5 (T:=T) p hp f
 refine zh zw zeH (by show 2≤108;decide) ?_
 cases hb:zm6 p 8 with
 | false =>
  rw [hb] at hf
  (repeat' ((conv=>whnf);first|refine vA ?_|refine vE ?_|refine vH ?_|refine vT ?_|refine vZ ?_|refine yD hf ⟨⟨rfl,rfl⟩,⟨rfl,rfl⟩,rfl⟩ rfl ?_|refine yD hA (by (repeat refine ⟨⟨rfl,rfl⟩,?_⟩);rfl) rfl ?_));all_goals try conv=>whnf
 | true =>
  rw [hb] at hf
  have hW:p.W≤12:=by
   have:=hb;unfold zm6 at this;simp only [Bool.and_eq_true,decide_eq_true_eq] at this;omega
  cases hfi:zit p f with
  | false =>
   rw [hfi] at hk
   (repeat' ((conv=>whnf);first|refine vA ?_|refine vE ?_|refine vG ?_|refine vH ?_|refine vT ?_|refine vZ ?_|refine yD hf ⟨⟨rfl,rfl⟩,⟨rfl,rfl⟩,rfl⟩ rfl ?_|refine yD hk ⟨⟨rfl,rfl⟩,⟨rfl,rfl⟩,rfl⟩ rfl ?_|refine yD hA (by (repeat refine ⟨⟨rfl,rfl⟩,?_⟩);rfl) rfl ?_));all_goals try conv=>whnf
  | true =>
   rw [hfi] at hk
   obtain ⟨hc0,hf0,h15,htok,hfit,hh⟩:=ztO hfi
   have cH:=zqu (T:=T) p hp f
   rw [hh] at cH
   have hg:=zz hc0
   have hw1:=hg.w1
   have hw2:=hg.w2
   obtain ⟨s,hs,h1,m1,-,-,-⟩:=zyu hc0
   have cH':=zqu (T:=T) s (zvZ h1) f
   obtain ⟨-,q1,q2,q3,-⟩:=zgF hs
   have hvl:s.val.length=p.val.length:=by rw [q3];simp [zdF]
   have hfi':zit s f=true:=by
    unfold zit at hfi ⊢
    rw [decide_eq_true h1,q2,hvl]
    rw [decide_eq_true hc0] at hfi
    exact hfi
   rw [(ztO hfi').2.2.2.2.2] at cH'
   have c1:=zvi hT p hp hW
   rw [m1] at c1
   have ck:=zgr (T:=T) s (zvZ h1)
   rw [h1] at ck
   have hag:=zkB hc0 h1 (zv8 hc0 (zk6 hc0) hs) _ (zs4 htok) hfit
   generalize ev (zaL p) 0#64 (z7 f (f.length - 1))=S at cH hag
   generalize ev (zaL s) 0#64 (z7 f (f.length - 1))=S' at cH' hag
   have hlt : ∀ w,w < p.W.toNat→z2 (zja p) w < s.W.toNat∧S.getLsbD w=S'.getLsbD (z2 (zja p) w):=by
    intro w hw
    have:=zkc (zk6 hc0).canon hw
    exact ⟨by omega,Bool.eq_iff_iff.2 (hag w _ ⟨hw,rfl⟩)⟩
   have w2:=(zz h1).w2
   generalize z2 (zja p)=q at *
   have l2:=zcu (n:=p.W.toNat) (q:=q)
   (repeat' ((conv=>whnf);first|refine vA ?_|refine vE ?_|refine vG ?_|refine vH ?_|(refine vD ?_ ?_<;>intro hc<;>try simp only [vL] at hc)|refine vJ fun hg=>?_|refine vT ?_|refine vZ ?_|refine yD hf ⟨⟨rfl,rfl⟩,⟨rfl,rfl⟩,rfl⟩ rfl ?_|refine yD hk ⟨⟨rfl,rfl⟩,⟨rfl,rfl⟩,rfl⟩ rfl ?_|refine yN c1 ⟨⟨rfl,rfl⟩,rfl⟩ ?_|refine yD ck ⟨⟨rfl,rfl⟩,rfl⟩ rfl ?_|refine yN cH ⟨⟨rfl,rfl⟩,⟨rfl,rfl⟩,rfl⟩ ?_|refine yD cH' (by (repeat refine ⟨⟨rfl,rfl⟩,?_⟩);rfl) rfl ?_));all_goals try conv=>whnf
   ·omega
   ·omega
   ·omega
   ·refine zn (fun (k:Nat)=>[(5,.ptr 0 0),(8,.d (.u64 (S))),(10,.d (.u64 (S'))),(80,.d (dI (ptL p.W.toNat q))),(81,.d (.int .i64 (((ptL p.W.toNat q).map (D.int .i64)).length:Int))),(82,.d (.int .i64 ((k:Int))))]) (fun (k:Nat)=>[(0,some (zay s))]) 1 (fun (k:Nat)=>k≤p.W.toNat) (fun (k:Nat)=>p.W.toNat - k) (0) [(0,1)] [] (by simp) (by (refine ⟨rfl,rfl,rfl,?_,?_⟩;repeat' first|exact trivial|exact rfl|refine And.intro ?_ ?_|refine ⟨_,rfl,?_⟩|decide)) ?_
    rintro k hk
    by_cases hkl:k < p.W.toNat
    ·have e1:(ptL p.W.toNat q)[k]? = some ((q k:Nat):Int):=zb1 hkl
     obtain ⟨b1,b2⟩:=hlt k hkl
     have b3:=zzK b2
     (repeat' ((conv=>whnf);first|refine vA ?_|refine vH ?_|((first|refine vD ?_ ?_|refine vF ?_ ?_)<;>intro hc<;>try simp only [vL] at hc)|refine vT ?_|refine vN ‹_› ?_|((first|refine vO ?_ ?_|refine vP ?_ ?_);·omega)|(refine vU ?_ ?_;·kernel_rfl)|refine vZ ?_));all_goals try conv=>whnf
     all_goals try omega
     ·exact absurd b3 ‹_›
     ·exact ⟨k+1,[(0,0)],[],by (omega),by (omega),by (refine ⟨rfl,rfl,rfl,?_,?_⟩;repeat' first|exact trivial|exact rfl|refine And.intro ?_ ?_|refine ⟨_,rfl,?_⟩|decide)⟩
    ·(repeat' ((conv=>whnf);first|refine vA ?_|((first|refine vD ?_ ?_|refine vF ?_ ?_)<;>intro hc<;>try simp only [vL] at hc)|refine vT ?_|(refine vQ ?_ fun x hx=>?_;·omega)|((first|refine vO ?_ ?_|refine vP ?_ ?_);·omega)|(refine vU ?_ ?_;·kernel_rfl)|refine vZ ?_|refine yD hA (by (repeat refine ⟨⟨rfl,rfl⟩,?_⟩);rfl) rfl ?_));all_goals try conv=>whnf
     all_goals try omega
end Go.Ab
namespace Go.Proofs.YtmnbcipineblbaaGreatDoor
open Go Go.Ab Go.RowKit Go.ChangeShapes Go.WideShapes
set_option maxRecDepth 100000 in
theorem plausbisimQuotient_holds:Rows.PlausbisimQuotientSaid :=
 OpenClaim.holds_of_wide 7 Tryz.f7 rfl rfl rfl rfl rfl rfl rfl ⟨rfl,rfl,rfl,rfl,rfl⟩ rfl rfl rfl rfl rfl (by kernel_rfl) Tryz.func7 (by kernel_rfl)
  (of_decide_eq_true (by kernel_rfl)) (by unfold Func.isWrapper;rw [if_neg (of_decide_eq_false (by kernel_rfl))];exact ⟨rfl,rfl⟩)
  (fun os started H enc _=>zw4 (C:=Tryz.checked) (s:=Rows.plausbisimQuotientSpec) (laid:=laidL) knob started (by kernel_rfl) Tryz.func7 laidOut [25,39] Tryz.params7 rfl Tryz.underlying4 rfl (by kernel_rfl)
   (fun ds hds=>by match ds,hds with|[d1,d2],_=>rfl)
   (ChangeSpec.witness_shaped (enc:=enc) (C:=Tryz.checked) (os:=os) (X:=fun w _=>laidMetH Tryz.prog laidL w) false (World.doorLaid Tryz.prog 14 os)
    #[.agg #[.int .i64 0,.slice none 0 0,.slice none 0 0,.slice none 0 0],.slice none 0 0] 8 rfl (World.shaped_of_RefB (by kernel_rfl) (by kernel_rfl)) (by kernel_rfl) (by kernel_rfl) (by kernel_rfl) (door_met os _))
   (fun W hL=>⟨TOf W,(zyq hL).1,(zyq hL).2,fun ds hds=>by
    obtain ⟨p1,r,rfl,hc1,hp1,k1⟩:=zxE hds
    obtain ⟨f2,r,rfl,k2⟩:=zzD k1
    obtain rfl:=zCZ k2
    exact zuf (tz_of hL) p1 hp1 f2⟩))
theorem plausbisimQuotient_card:Rows.PlausbisimQuotientCardSaid :=
 Claim7.holds_tied_plain_at .later [] [.data] true (true, "18dfd4ab517486b5b4083ac9653826283ad51281ee160e75dab1c2a0d205e19f") false
  plausbisimQuotient_holds (fun _ h=>by cases h) (by kernel_rfl) (fun _ h=>by cases h) plausbisimQuotient_row_tie rfl ⟨rfl,rfl⟩ (by kernel_rfl) rfl
  (fun f fn hf hfn=>by
   obtain rfl:f=7:=Option.some.inj ((show Tryz.prog.funcNamed Rows.plausbisimQuotientRow.func=some 7 by kernel_rfl).symm.trans hf) |>.symm
   obtain rfl:fn=Tryz.f7:=(Option.some.inj (Tryz.func7.symm.trans hfn)).symm
   exact ⟨by kernel_rfl,fun j t ht=>by
    rw [Tryz.params7] at ht
    have hm:t∈[25,39]:=by
     have:=List.mem_of_getElem? (l:=[25,39]) (i:=j) (by simpa using ht)
     exact this
    have hall:([25,39].all fun t=>Tryz.prog.wantsStandIn t==false)=true:=by kernel_rfl
    exact eq_of_beq (List.all_eq_true.1 hall t hm)⟩)
  (by kernel_rfl)
end Go.Proofs.YtmnbcipineblbaaGreatDoor
