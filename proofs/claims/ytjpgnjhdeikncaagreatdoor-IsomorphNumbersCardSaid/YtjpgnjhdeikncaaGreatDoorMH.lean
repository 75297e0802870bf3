/- What is proved here: the law IsomorphNumbers returns true at every input and leaves its arguments as they were. The condition is the row own: the listed table of math bits holds what the text lays. -/
import Derived.Test.YtjpgnjhdeikncaaGreatDoorMG
set_option linter.unusedVariables false
set_option linter.unusedSimpArgs false
set_option linter.unusedSectionVars false
namespace Go.Ab
open Go Go.Proofs
section
open K
def f_wittinglaw16_IsomorphNumbers:Nat:=7
def c_wittinglaw16_IsomorphNumbers:CFn:=⟨215,[.tmp 6],(q [(.reg [o 3 (.box 3 (t 0)),o 6 (.mv (c .bf))]),
 (q [(.reg [o 23 (la 3 3),o 24 (.call 13 [(t 23),(c (n 10))]),o 25 (.un .not (t 24)),o 26 (m 25),g 27 26 false (la 3 3),g 28 26 false (.call 27 [(t 27)]),g 29 26 false (bc .neq 28 (n 0)),o 30 (pt 26 29),o 31 (m 30),g 32 31 false (m 1),g 33 31 false (bc .lss 32 (n 0)),o 34 (pt 31 33),o 35 (m 34),g 36 35 false (m 1),g 37 35 false (f 0 3),g 38 35 false (l 37),g 39 35 false (b .geq 36 38),o 40 (pt 35 39)]),
 (i 40 (q [(.reg [o 41 (.call 14 []),o 6 (m 41)]),
 .ret]) .skip)]),
 (.reg [o 43 (la 3 3),o 44 (m 2),o 45 (.call 28 [(t 43),(t 44)]),o 42 (m 45),o 46 (e 42 0),o 47 (e 42 1),o 48 (e 42 2),o 7 (.alloc [(n 0),(.nils 1),(.nils 1)]),w (.store 3 (t 7) (t 46)),o 8 (m 47),o 9 (m 48)]),
 (q [(.reg [o 49 (m 9),o 50 (.un .not (t 49))]),
 (i 50 (q [(.reg [o 6 (.mv (c .bf))]),
 .ret]) .skip)]),
 (.reg [o 52 (la 3 3),o 53 (m 1),o 54 (.call 24 [(t 52),(t 53)]),o 51 (m 54),o 55 (e 51 0),o 56 (e 51 1),o 57 (e 51 2),o 10 (.alloc [(n 0),(.nils 1),(.nils 1)]),w (.store 3 (t 10) (t 55)),o 11 (m 56),o 12 (m 57)]),
 (.regd [o 59 (la 3 7),o 60 (m 8),o 61 (m 1),o 62 (ia 1 60 61),o 63 (l 62),o 64 (.call 24 [(t 59),(t 63)]),o 58 (m 64),o 65 (e 58 0),o 66 (e 58 1),o 67 (e 58 2),o 13 (.alloc [(n 0),(.nils 1),(.nils 1)]),w (.store 3 (t 13) (t 65)),o 14 (m 66),o 15 (m 67)] [0,0,0,6,14,31,63,127,127,127,0,1279,3583,8191]),
 (q [(.reg [o 68 (m 12),o 69 (m 15),o 70 (b .neq 68 69),o 71 (m 70),g 72 71 false (la 3 10),g 73 71 false (la 3 13),g 74 71 false (.call 26 [(t 72),(t 73)]),g 75 71 false (.un .not (t 74)),o 76 (pt 71 75),o 77 (m 76),g 78 77 false (m 11),g 79 77 false (ln 78),g 80 77 false (m 14),g 81 77 false (ln 80),g 82 77 false (b .neq 79 81),o 83 (pt 77 82)]),
 (i 83 (q [(.reg [o 6 (.mv (c .bf))]),
 .ret]) .skip)]),
 (q [(.reg [o 84 (m 12),o 85 (bc .neq 84 (n 0))]),
 (i 85 (q [(.reg [o 86 (m 12),o 87 (bc .eql 86 (n 16)),o 88 (m 87),g 89 88 true (.call 14 []),o 90 (pf 88 89),o 6 (m 90)]),
 .ret]) .skip)]),
 (.regd [o 92 (la 3 3),o 93 (m 1),o 94 (.bin .shl (c (u 1)) (t 93)),o 95 (.call 29 [(t 92),(t 94)]),o 91 (m 95),o 96 (e 91 0),o 97 (e 91 1),o 16 (m 96),o 17 (m 97)] [0,0,2,7,15,31,31,63,255]),
 (q [(.reg [o 98 (m 17),o 99 (bc .neq 98 (n 0)),o 100 (m 99),g 101 100 false (m 11),g 102 100 false (ln 101),g 103 100 false (bc .eql 102 (n 0)),o 104 (pt 100 103),o 105 (m 104),g 106 105 false (m 11),g 107 105 false (.iaddr 1 (t 106) (c (n 0))),g 108 105 false (l 107),g 109 105 false (m 1),g 110 105 false (b .neq 108 109),o 111 (pt 105 110),o 112 (m 111),g 113 112 false (m 11),g 114 112 false (ln 113),g 115 112 false (f 0 10),g 116 112 false (l 115),g 117 112 false (b .neq 114 116),o 118 (pt 112 117)]),
 (i 118 (q [(.reg [o 6 (.mv (c .bf))]),
 .ret]) .skip)]),
 (q [(.reg [o 119 (m 11),o 120 (ln 119),o 121 (.mv (c (n 0)))]),
 (.block 0 (.loop (q [(.reg [o 122 (b .lss 121 120)]),
 (i 122 .skip (.exit 0)),
 (.block 1 (q [(.reg [o 123 (m 121),o 124 (ia 1 119 121),o 125 (l 124),o 18 (m 123),o 19 (m 125)]),
 (q [(.regd [o 126 (m 19),o 127 (bc .lss 126 (n 0)),o 128 (m 127),g 129 128 false (m 19),g 130 128 false (f 0 3),g 131 128 false (l 130),g 132 128 false (b .geq 129 131),o 133 (pt 128 132),o 134 (m 133),g 135 134 false (m 16),g 136 134 false (m 19),g 137 134 false (b .shr 135 136),g 138 134 false (bc .and 137 (u 1)),g 139 134 false (bc .eql 138 (u 0)),o 140 (pt 134 139),o 141 (m 140),g 142 141 false (m 11),g 143 141 false (m 19),g 144 141 false (.call 30 [(t 142),(t 143)]),g 145 141 false (m 18),g 146 141 false (b .neq 144 145),o 147 (pt 141 146),o 148 (m 147),g 149 148 false (la 3 10),g 150 148 false (m 18),g 151 148 false (.call 31 [(t 149),(t 150)]),g 152 148 false (la 3 3),g 153 148 false (m 19),g 154 148 false (.call 31 [(t 152),(t 153)]),g 155 148 false (b .neq 151 154),o 156 (pt 148 155)] [0,1,3,7,7,23,63,127,255,511,511,2047,4095,8191,16383,32767,65535,65535,262143,65535,1048575,2097151,4194303,8388607,8388607,33554431,8388607,8388607,268435455,536870911,1073741823]),
 (i 156 (q [(.reg [o 6 (.mv (c .bf))]),
 .ret]) .skip)]),
 (.reg [o 157 (m 16),o 158 (m 19),o 159 (.bin .shl (c (u 1)) (t 158)),o 160 (b .sub 157 159),o 16 (m 160)]),
 (.reg [o 161 (f 2 3),o 162 (l 161),o 163 (ln 162),o 164 (.mv (c (n 0)))]),
 (.block 2 (.loop (q [(.reg [o 165 (b .lss 164 163)]),
 (i 165 .skip (.exit 2)),
 (.block 3 (q [(.reg [o 166 (m 164),o 20 (m 166)]),
 (.reg [o 167 (m 11),o 168 (ln 167),o 169 (.mv (c (n 0)))]),
 (.block 4 (.loop (q [(.reg [o 170 (b .lss 169 168)]),
 (i 170 .skip (.exit 4)),
 (.block 5 (q [(.reg [o 171 (m 169),o 172 (ia 1 167 169),o 173 (l 172),o 21 (m 171),o 22 (m 173)]),
 (.regd [o 174 (m 22),o 175 (bc .lss 174 (n 0)),o 176 (m 175),g 177 176 false (m 22),g 178 176 false (f 0 3),g 179 176 false (l 178),g 180 176 false (b .geq 177 179),o 181 (pt 176 180),o 182 (m 181),g 183 182 false (f 2 3),g 184 182 false (l 183),g 185 182 false (m 20),g 186 182 false (ia 1 184 185),g 187 182 false (l 186),g 188 182 false (m 19),g 189 182 false (ia 1 187 188),g 190 182 false (l 189),g 191 182 false (m 22),g 192 182 false (b .shr 190 191),g 193 182 false (bc .and 192 (u 1)),g 194 182 false (f 2 10),g 195 182 false (l 194),g 196 182 false (m 20),g 197 182 false (ia 1 195 196),g 198 182 false (l 197),g 199 182 false (m 18),g 200 182 false (ia 1 198 199),g 201 182 false (l 200),g 202 182 false (m 21),g 203 182 false (b .shr 201 202),g 204 182 false (bc .and 203 (u 1)),g 205 182 false (b .neq 193 204),o 206 (pt 182 205)] [0,1,3,7,7,23,63,127,255,511,1023,511,4095,8191,511,32767,65535,511,262143,524287,511,1049087,511,7340543,15729151,511,66060799,133169663,511,535822847,1072693759,2147483647,4294967295]),
 (i 206 (q [(.reg [o 6 (.mv (c .bf))]),
 .ret]) .skip)])),
 (.reg [o 207 (bc .add 169 (n 1)),o 169 (m 207)])])))])),
 (.reg [o 208 (bc .add 164 (n 1)),o 164 (m 208)])])))])),
 (.reg [o 209 (bc .add 121 (n 1)),o 121 (m 209)])])))]),
 (.reg [o 210 (m 16),o 211 (bc .eql 210 (u 0)),o 212 (m 211),g 213 212 true (.call 14 []),o 214 (pf 212 213),o 6 (m 214)]),
 .ret])⟩
end
theorem k_wittinglaw16_IsomorphNumbers:zm Tryz.prog f_wittinglaw16_IsomorphNumbers=some c_wittinglaw16_IsomorphNumbers:=by kernel_rfl
end Go.Ab
namespace Go.Ab
open Go Go.Proofs
set_option maxRecDepth 10000
set_option maxHeartbeats 4000000
variable {T:Nat→Obj→Prop}
section
variable {m:KM} (hk0:zj m=0) (l:List Int)
include hk0
theorem renK_ok:zj (zfj m l)=0:=by
 have hg:=zB hk0
 have w1:=hg.w1;have w2:=hg.w2
 exact zuB hk0 (by rw [zdo];omega) (by rw [zdo];omega)
theorem renK_iso:ze7 m.W.toNat (zay m) (zay (zfj m l)) (zw m) (zw (zfj m l)) (toQ l m.W.toNat) :=
 (zvv hk0 (zhn (zma l m.W.toNat))).congr fun w hw=>(zuW hw).symm
end
end Go.Ab
namespace Go.Ab
open Go Go.Proofs
set_option maxRecDepth 10000
set_option maxHeartbeats 4000000
variable {T:Nat→Obj→Prop}
theorem setN_sub {x:Nat} {t:List Nat} (hx:x < 64) (hn:x ∉ t):zti (x::t) - 1#64 <<< x=zti t:=by
 have h1:zti t&&&1#64 <<< x=0#64:=by
  refine BitVec.eq_of_getLsbD_eq fun i hi=>?_
  rw [BitVec.getLsbD_and,zvo hi,zlO]
  by_cases e:i=x
  ·subst e;simp [hn]
  ·simp [e]
 have h2:zti (x::t)=zti t+1#64 <<< x:=by
  rw [BitVec.add_eq_or_of_and_eq_zero _ _ h1]
  refine BitVec.eq_of_getLsbD_eq fun i hi=>?_
  rw [Bool.eq_iff_iff,zls hx,zvo hi,zvo hi]
  simp [or_comm]
 rw [h2,BitVec.add_sub_cancel]
theorem idx_nd {c:List Nat} (hn:c.Nodup) {i:Nat} (hi:i < c.length):c.idxOf (c.getD i 0)=i:=by
 have h:=zn4 (zaB hi)
 exact zf0 hn h.1 hi h.2
theorem genL_set {m:KM} (hk0:zj m=0) {w:Nat} (hw:w < m.W.toNat) {c:List Nat} (hc : ∀ x,x∈c↔x∈zY m.W.toNat (zw m) w):zgD m (1#64 <<< w)=zti c:=by
 have hl:=zsK hk0 hw
 refine BitVec.eq_of_getLsbD_eq fun i hi=>?_
 rw [zvo hi,Bool.eq_iff_iff,decide_eq_true_eq,hc,← hl]
 simp [zE,hi]
set_option maxHeartbeats 8000000 in
theorem law_Numbers (hT:ze9 T) (m:KM) (w:Int) (l:List Int):Fn Tryz.prog T f_wittinglaw16_IsomorphNumbers [.d (dKM m),.d (.int .i64 w),.d (dI l)] [] (.d (.bool true)) []:=by
 have hA:=zu9 hT
 have hf:=zvu (T:=T) m 10
 have ck:=zvj (T:=T) m
 cases hbw:znO m 10 with
 | false =>
  rw [hbw] at hf
  refine zp zF k_wittinglaw16_IsomorphNumbers (by show 3≤215;decide) ?_
  (repeat' ((conv=>whnf);first|refine vA ?_|refine vB fun b hb=>?_|refine vC (fun hl=>?_) fun i kv vv hi=>?_|refine vE ?_|refine vG ?_|refine vH ?_|((first|refine vD ?_ ?_|refine vF ?_ ?_|refine vI ?_ ?_)<;>intro hc<;>try simp only [vL] at hc)|refine vJ fun hg=>?_|refine vK fun hg=>?_|refine vT ?_|refine vN ‹_› ?_|(refine vQ ?_ fun x hx=>?_;·first|omega|(simp only [vM] at *;omega))|((first|refine vO ?_ ?_|refine vR ?_ ‹_› ?_|refine vS ?_ fun x hx=>?_|refine vP ?_ ?_);·first|omega|(simp only [vM] at *;omega))|refine vW ⟨by omega,by omega⟩ ?_|(refine vU ?_ ?_;·kernel_rfl)|refine vX ?_|refine vY ?_|refine vZ ?_|refine yD hf ⟨⟨rfl,rfl⟩,⟨rfl,rfl⟩,rfl⟩ rfl ?_|refine yD hA (by (repeat refine ⟨⟨rfl,rfl⟩,?_⟩);rfl) rfl ?_|refine yN hA (by (repeat refine ⟨⟨rfl,rfl⟩,?_⟩);rfl) ?_|refine za.mk _ ‹_› ?_|refine vP (show (_:BitVec 64)≠_ by decide) ?_));all_goals try conv=>whnf
 | true =>
  rw [hbw] at hf
  by_cases hin:zj m=0∧0≤w∧w < m.W
  ·obtain ⟨hk0,hw0,hw1⟩:=hin
   obtain ⟨w,rfl⟩ : ∃ v:Nat,w=(v:Int):=⟨w.toNat,by omega⟩
   have hg0:=zB hk0
   have w1:=hg0.w1;have w2:=hg0.w2
   have hwl:w < m.W.toNat:=by omega
   have h10:m.W≤10:=by
    have:=of_decide_eq_true hbw
    omega
   rw [hk0] at ck
   have hr:=renK_ok hk0 l
   have hrW:=zrF hk0 (l:=l)
   have cr:=zuY (T:=T) hk0 (by omega) l
   have hi:=renK_iso hk0 l
   have hfr:=zma l m.W.toNat
   have hfw:=hfr.lt w hwl
   have et:=zlv (q:=toQ l m.W.toNat) hwl
   have lf:(ptL m.W.toNat (toQ l m.W.toNat)).length=m.W.toNat:=zho
   obtain ⟨q1,q2,q3⟩:=zvi hk0 l hwl hi hr
   have c1:=zuH hT m (fun _=>by omega) (w:Int)
   have c2:=zuH hT (zfj m l) (fun _=>by omega) (toQ l m.W.toNat w:Nat)
   rw [q1,q2] at c2
   generalize (zdS (zfj m l) (toQ l m.W.toNat w:Nat)).2.1=y at c2 q3
   have hcan:=zpt hk0 hwl
   cases hmin:zel (zx m (zY m.W.toNat (zw m) w)) with
   | false =>
    rw [hmin,if_pos rfl] at hcan
    rw [hcan] at c1 c2 q3
    have hy:y=[]:=List.eq_nil_of_length_eq_zero q3
    subst hy
    refine zp zF k_wittinglaw16_IsomorphNumbers (by show 3≤215;decide) ?_
    (repeat' ((conv=>whnf);first|refine vA ?_|refine vB fun b hb=>?_|refine vC (fun hl=>?_) fun i kv vv hi=>?_|refine vE ?_|refine vG ?_|refine vH ?_|((first|refine vD ?_ ?_|refine vF ?_ ?_|refine vI ?_ ?_)<;>intro hc<;>try simp only [vL] at hc)|refine vJ fun hg=>?_|refine vK fun hg=>?_|refine vT ?_|refine vN ‹_› ?_|(refine vQ ?_ fun x hx=>?_;·first|omega|(simp only [vM] at *;omega))|((first|refine vO ?_ ?_|refine vR ?_ ‹_› ?_|refine vS ?_ fun x hx=>?_|refine vP ?_ ?_);·first|omega|(simp only [vM] at *;omega))|refine vW ⟨by omega,by omega⟩ ?_|(refine vU ?_ ?_;·kernel_rfl)|refine vX ?_|refine vY ?_|refine vZ ?_|refine yD hf ⟨⟨rfl,rfl⟩,⟨rfl,rfl⟩,rfl⟩ rfl ?_|refine yD hA (by (repeat refine ⟨⟨rfl,rfl⟩,?_⟩);rfl) rfl ?_|refine yN hA (by (repeat refine ⟨⟨rfl,rfl⟩,?_⟩);rfl) ?_|refine yD ck ⟨⟨rfl,rfl⟩,rfl⟩ rfl ?_|refine yN cr ⟨⟨rfl,rfl⟩,⟨rfl,rfl⟩,rfl⟩ ?_|refine yN c1 ⟨⟨rfl,rfl⟩,⟨rfl,rfl⟩,rfl⟩ ?_|refine yN c2 ⟨⟨rfl,rfl⟩,⟨rfl,rfl⟩,rfl⟩ ?_|refine yD (zva _ _) ⟨⟨rfl,rfl⟩,⟨rfl,rfl⟩,rfl⟩ rfl ?_|refine za.mk _ ‹_› ?_|refine vP (show (_:BitVec 64)≠_ by decide) ?_));all_goals try conv=>whnf
   | true =>
    rw [hmin,if_neg (by decide)] at hcan
    rw [hcan] at c1 c2 q3
    obtain ⟨k1,k2,k3,-,-,k4⟩:=zq6 (zbT m.W.toNat (zw m) w) (zew hwl) (zmi hk0 hwl hmin)
    have hlen:=zg4 (n:=m.W.toNat) (R:=zw m) (w:=w)
    have hlt:=ztS hk0 hwl hmin
    have hset:=genL_set hk0 hwl k3
    have hpos:1≤(zY m.W.toNat (zw m) w).length:=List.length_pos_of_mem (zew hwl)
    have hbit : ∀ v,(1#64 <<< w).getLsbD v=true→v < m.W.toNat:=fun v hv=>by have:=(zl2 (by omega)).1 hv;omega
    have cg:=zmZ hT hk0 hbit
    rw [hset] at cg
    change (za5 m w).length=_ at k1
    change (za5 m w).Nodup at k2
    change (za5 m w).getD 0 0=w at k4
    change Fn _ _ _ _ _ (.d (.tup [.u64 (zti (za5 m w)),.int .i64 0])) _ at cg
    generalize za5 m w=c at *
    have hcl:c.length≤64:=by omega
    have hp0:=zuB hk0 (l:=c) (by omega) hcl
    have e0:=zjy (show 0 < c.length by omega)
    rw [k4] at e0
    have hAW:(zx m c).W=(c.length:Int):=rfl
    refine zp zF k_wittinglaw16_IsomorphNumbers (by show 3≤215;decide) ?_
    have q4:y.length=c.length:=by rw [q3];simp
    dsimp only at c1 c2
    have hfac : ∀ i,i < c.length→zay (zx m c) i=zay m (c.getD i 0):=fun i hi=>zlM hcl hi
    (repeat' ((conv=>whnf);first|refine vA ?_|refine vB fun b hb=>?_|refine vC (fun hl=>?_) fun i kv vv hi=>?_|refine vE ?_|refine vG ?_|refine vH ?_|((first|refine vD ?_ ?_|refine vF ?_ ?_|refine vI ?_ ?_)<;>intro hc<;>try simp only [vL] at hc)|refine vJ fun hg=>?_|refine vK fun hg=>?_|refine vT ?_|refine vN ‹_› ?_|(refine vQ ?_ fun x hx=>?_;·first|omega|(simp only [vM] at *;omega))|((first|refine vO ?_ ?_|refine vR ?_ ‹_› ?_|refine vS ?_ fun x hx=>?_|refine vP ?_ ?_);·first|omega|(simp only [vM] at *;omega))|refine vW ⟨by omega,by omega⟩ ?_|(refine vU ?_ ?_;·kernel_rfl)|refine vX ?_|refine vY ?_|refine vZ ?_|refine yD hf ⟨⟨rfl,rfl⟩,⟨rfl,rfl⟩,rfl⟩ rfl ?_|refine yD hA (by (repeat refine ⟨⟨rfl,rfl⟩,?_⟩);rfl) rfl ?_|refine yN hA (by (repeat refine ⟨⟨rfl,rfl⟩,?_⟩);rfl) ?_|refine yD ck ⟨⟨rfl,rfl⟩,rfl⟩ rfl ?_|refine yN cr ⟨⟨rfl,rfl⟩,⟨rfl,rfl⟩,rfl⟩ ?_|refine yN c1 ⟨⟨rfl,rfl⟩,⟨rfl,rfl⟩,rfl⟩ ?_|refine yN c2 ⟨⟨rfl,rfl⟩,⟨rfl,rfl⟩,rfl⟩ ?_|refine yD (zva _ _) ⟨⟨rfl,rfl⟩,⟨rfl,rfl⟩,rfl⟩ rfl ?_|refine yN cg ⟨⟨rfl,rfl⟩,⟨rfl,rfl⟩,rfl⟩ ?_|refine za.mk _ ‹_› ?_|refine vP (show (_:BitVec 64)≠_ by decide) ?_));all_goals try conv=>whnf
    all_goals try first|(exfalso;omega)|exact absurd trivial ‹¬True›
    refine zq (fun (i:Nat)=>[(3,.ptr 0 0),(10,.ptr 1 0),(11,.d (dN c)),(16,.d (.u64 ((zti (c.drop i))))),(119,.d (dN c)),(120,.d (.int .i64 (((c.map fun (x:Nat)=>(x:Int)).map (D.int .i64)).length:Int))),(121,.d (.int .i64 ((i:Int))))]) (fun (i:Nat)=>[(0,some (zcd m)),(1,some (zcd (zx m c)))]) 2 (fun (i:Nat)=>i≤c.length) (fun (i:Nat)=>c.length - i) (0) [(0,0),(1,2)] [] (by omega) (by (refine ⟨rfl,rfl,rfl,?_,?_⟩;repeat' first|exact trivial|exact rfl|exact ⟨_,rfl⟩|exact .inl rfl|exact .inr (.inl ⟨rfl,rfl⟩)|exact .inr (.inr ⟨rfl,rfl⟩)|refine And.intro ?_ ?_|refine ⟨_,rfl,?_⟩|decide|exact of_decide_eq_true rfl)) ?_
    rintro i hi2
    by_cases hil:i < c.length
    ·have ei:=zjy hil
     have hvm:=zaB hil
     have hvl:=hlt _ hvm
     have hix:=idx_nd k2 hil
     have hdr:c.drop i=c.getD i 0::c.drop (i+1):=by rw [List.drop_eq_getElem_cons hil];simp [List.getD,hil]
     have hnd:c.getD i 0 ∉ c.drop (i+1):=by
      have:=k2.sublist (List.drop_sublist i c)
      rw [hdr] at this
      exact (List.nodup_cons.1 this).1
     have hss:=setN_sub (by omega) hnd
     have hsb:(zti (c.drop i)).getLsbD (c.getD i 0)=true:=by rw [zvo (by omega),hdr];simp
     have cx:=znV (T:=T) (c.map fun (x:Nat)=>(x:Int)) ((c.getD i 0:Nat):Int)
     rw [zrf hvm,hix] at cx
     have cf:=zmr (T:=T) m ((c.getD i 0:Nat):Int)
     rw [zt1 hk0 hvl,← hfac i hil] at cf
     have cg2:=zmr (T:=T) (zx m c) (i:Int)
     rw [zt1 hp0 (by omega)] at cg2
     rw [← hdr] at hss
     have hbs:=fun j (hj:j < c.length) (s:BitVec 64)=>zhX (s:=s) hcl (i:=j)
     obtain ⟨v,hvi⟩ : ∃ v,v=c.getD i 0:=⟨_,rfl⟩
     rw [← hvi] at ei hvl hss hsb cx cf hnd hix hdr hvm
     (repeat' ((conv=>whnf);first|refine vA ?_|refine vB fun b hb=>?_|refine vC (fun hl=>?_) fun i kv vv hi=>?_|refine vE ?_|refine vG ?_|refine vH ?_|((first|refine vD ?_ ?_|refine vF ?_ ?_|refine vI ?_ ?_)<;>intro hc<;>try simp only [vL] at hc)|refine vJ fun hg=>?_|refine vK fun hg=>?_|refine vT ?_|refine vN ‹_› ?_|(refine vQ ?_ fun x hx=>?_;·first|omega|(simp only [vM] at *;omega))|((first|refine vO ?_ ?_|refine vR ?_ ‹_› ?_|refine vS ?_ fun x hx=>?_|refine vP ?_ ?_);·first|omega|(simp only [vM] at *;omega))|refine vW ⟨by omega,by omega⟩ ?_|(refine vU ?_ ?_;·kernel_rfl)|refine vX ?_|refine vY ?_|refine vZ ?_|refine yD cx ⟨⟨rfl,rfl⟩,⟨rfl,rfl⟩,rfl⟩ rfl ?_|refine yD cf ⟨⟨rfl,rfl⟩,⟨rfl,rfl⟩,rfl⟩ rfl ?_|refine yD cg2 ⟨⟨rfl,rfl⟩,⟨rfl,rfl⟩,rfl⟩ rfl ?_|refine za.mk _ ‹_› ?_|refine vP (show (_:BitVec 64)≠_ by decide) ?_));all_goals try conv=>whnf
     ·exfalso;omega
     ·have:=(zdR _ _).1 ‹_=(0:BitVec 64)›
      rw [show (v:Int).toNat=v from rfl,hsb] at this;cases this
     ·exact absurd rfl ‹(i:Int)≠i›
     ·exact absurd rfl ‹zay (zx m c) i≠_›
     ·refine zq (fun ((k,s):Nat×BitVec 64)=>[(3,.ptr 0 0),(10,.ptr 1 0),(11,.d (dN c)),(16,.d (.u64 (s))),(18,.d (.int .i64 ((i:Int)))),(19,.d (.int .i64 ((v:Int)))),(119,.d (dN c)),(120,.d (.int .i64 (((c.map fun (x:Nat)=>(x:Int)).map (D.int .i64)).length:Int))),(121,.d (.int .i64 ((i:Int)))),(163,.d (.int .i64 ((m.rel.map dU).length:Int))),(164,.d (.int .i64 ((k:Int))))]) (fun ((k,s):Nat×BitVec 64)=>[(0,some (zcd m)),(1,some (zcd (zx m c)))]) 2 (fun ((k,s):Nat×BitVec 64)=>k≤m.rel.length∧s=zti (c.drop (i+1))) (fun ((k,s):Nat×BitVec 64)=>m.rel.length - k) ((0,zti (c.drop i) - 1#64 <<< v)) [(0,0),(1,1)] [] (⟨by omega,hss⟩) (by (refine ⟨rfl,rfl,rfl,?_,?_⟩;repeat' first|exact trivial|exact rfl|exact ⟨_,rfl⟩|exact .inl rfl|exact .inr (.inl ⟨rfl,rfl⟩)|exact .inr (.inr ⟨rfl,rfl⟩)|refine And.intro ?_ ?_|refine ⟨_,rfl,?_⟩|decide|exact of_decide_eq_true rfl)) ?_
      rintro ⟨k,s⟩ ⟨hk,hs⟩
      by_cases hkl:k < m.rel.length
      ·obtain ⟨r,har⟩ : ∃ r,m.rel[k]? = some r:=⟨_,List.getElem?_eq_getElem hkl⟩
       have hrl:=hg0.len r (List.mem_of_getElem? har)
       have a1:=zdm (l:=r) (d:=0#64) (show v < r.length by omega)
       obtain ⟨rA,hrA,hbA⟩ : ∃ rA,(zx m c).rel[k]? = some rA∧rA[i]? = some (zad (r.getD v 0#64) c):=⟨c.map fun w=>zad (r.getD w 0#64) c,by simp [zx,har],by
        simp [List.getD,hil,hvi]⟩
       (repeat' ((conv=>whnf);first|refine vA ?_|refine vB fun b hb=>?_|refine vC (fun hl=>?_) fun i kv vv hi=>?_|refine vE ?_|refine vG ?_|refine vH ?_|((first|refine vD ?_ ?_|refine vF ?_ ?_|refine vI ?_ ?_)<;>intro hc<;>try simp only [vL] at hc)|refine vJ fun hg=>?_|refine vK fun hg=>?_|refine vT ?_|refine vN ‹_› ?_|(refine vQ ?_ fun x hx=>?_;·first|omega|(simp only [vM] at *;omega))|((first|refine vO ?_ ?_|refine vR ?_ ‹_› ?_|refine vS ?_ fun x hx=>?_|refine vP ?_ ?_);·first|omega|(simp only [vM] at *;omega))|refine vW ⟨by omega,by omega⟩ ?_|(refine vU ?_ ?_;·kernel_rfl)|refine vX ?_|refine vY ?_|refine vZ ?_|refine za.mk _ ‹_› ?_|refine vP (show (_:BitVec 64)≠_ by decide) ?_));all_goals try conv=>whnf
       ·refine zq (fun (j:Nat)=>[(3,.ptr 0 0),(10,.ptr 1 0),(11,.d (dN c)),(16,.d (.u64 (s))),(18,.d (.int .i64 ((i:Int)))),(19,.d (.int .i64 ((v:Int)))),(20,.d (.int .i64 ((k:Int)))),(119,.d (dN c)),(120,.d (.int .i64 (((c.map fun (x:Nat)=>(x:Int)).map (D.int .i64)).length:Int))),(121,.d (.int .i64 ((i:Int)))),(163,.d (.int .i64 ((m.rel.map dU).length:Int))),(164,.d (.int .i64 ((k:Int)))),(167,.d (dN c)),(168,.d (.int .i64 (((c.map fun (x:Nat)=>(x:Int)).map (D.int .i64)).length:Int))),(169,.d (.int .i64 ((j:Int))))]) (fun (j:Nat)=>[(0,some (zcd m)),(1,some (zcd (zx m c)))]) 2 (fun (j:Nat)=>j≤c.length) (fun (j:Nat)=>c.length - j) (0) [(0,0),(1,1)] [] (by omega) (by (refine ⟨rfl,rfl,rfl,?_,?_⟩;repeat' first|exact trivial|exact rfl|exact ⟨_,rfl⟩|exact .inl rfl|exact .inr (.inl ⟨rfl,rfl⟩)|exact .inr (.inr ⟨rfl,rfl⟩)|refine And.intro ?_ ?_|refine ⟨_,rfl,?_⟩|decide|exact of_decide_eq_true rfl)) ?_
        rintro j hj
        by_cases hjl:j < c.length
        ·have ej:=zjy hjl
         have hul:=hlt _ (zaB hjl)
         have hpb:=hbs j hjl (r.getD v 0#64)
         generalize c.getD j 0=u at ej hul hpb
         have k1:=zvt (x:=r.getD v 0#64) (y:=zad (r.getD v 0#64) c) (u:=u) (w:=j)
         (repeat' ((conv=>whnf);first|refine vA ?_|refine vB fun b hb=>?_|refine vC (fun hl=>?_) fun i kv vv hi=>?_|refine vE ?_|refine vG ?_|refine vH ?_|((first|refine vD ?_ ?_|refine vF ?_ ?_|refine vI ?_ ?_)<;>intro hc<;>try simp only [vL] at hc)|refine vJ fun hg=>?_|refine vK fun hg=>?_|refine vT ?_|refine vN ‹_› ?_|(refine vQ ?_ fun x hx=>?_;·first|omega|(simp only [vM] at *;omega))|((first|refine vO ?_ ?_|refine vR ?_ ‹_› ?_|refine vS ?_ fun x hx=>?_|refine vP ?_ ?_);·first|omega|(simp only [vM] at *;omega))|refine vW ⟨by omega,by omega⟩ ?_|(refine vU ?_ ?_;·kernel_rfl)|refine vX ?_|refine vY ?_|refine vZ ?_|refine za.mk _ ‹_› ?_|refine vP (show (_:BitVec 64)≠_ by decide) ?_));all_goals try conv=>whnf
         ·exfalso;omega
         ·exfalso
          refine absurd (k1.2 ?_) ‹_≠_›
          rw [Bool.eq_iff_iff,hpb]
          exact ⟨fun h=>⟨hjl,h⟩,fun h=>h.2⟩
         ·refine ⟨j+1,[(0,0),(1,1)],[],?_,?_,by (refine ⟨rfl,rfl,rfl,?_,?_⟩;repeat' first|exact trivial|exact rfl|exact ⟨_,rfl⟩|exact .inl rfl|exact .inr (.inl ⟨rfl,rfl⟩)|exact .inr (.inr ⟨rfl,rfl⟩)|refine And.intro ?_ ?_|refine ⟨_,rfl,?_⟩|decide|exact of_decide_eq_true rfl)⟩
          ·omega
          ·(first|omega|(simp only [vM] at *;omega))
         ·exfalso;omega
        ·(repeat' ((conv=>whnf);first|refine vA ?_|refine vB fun b hb=>?_|refine vC (fun hl=>?_) fun i kv vv hi=>?_|refine vE ?_|refine vG ?_|refine vH ?_|((first|refine vD ?_ ?_|refine vF ?_ ?_|refine vI ?_ ?_)<;>intro hc<;>try simp only [vL] at hc)|refine vJ fun hg=>?_|refine vK fun hg=>?_|refine vT ?_|refine vN ‹_› ?_|(refine vQ ?_ fun x hx=>?_;·first|omega|(simp only [vM] at *;omega))|((first|refine vO ?_ ?_|refine vR ?_ ‹_› ?_|refine vS ?_ fun x hx=>?_|refine vP ?_ ?_);·first|omega|(simp only [vM] at *;omega))|refine vW ⟨by omega,by omega⟩ ?_|(refine vU ?_ ?_;·kernel_rfl)|refine vX ?_|refine vY ?_|refine vZ ?_|refine za.mk _ ‹_› ?_|refine vP (show (_:BitVec 64)≠_ by decide) ?_));all_goals try conv=>whnf
         all_goals try (exfalso;omega)
         refine ⟨(k+1,s),[(0,0),(1,1)],[],?_,?_,by (refine ⟨rfl,rfl,rfl,?_,?_⟩;repeat' first|exact trivial|exact rfl|exact ⟨_,rfl⟩|exact .inl rfl|exact .inr (.inl ⟨rfl,rfl⟩)|exact .inr (.inr ⟨rfl,rfl⟩)|refine And.intro ?_ ?_|refine ⟨_,rfl,?_⟩|decide|exact of_decide_eq_true rfl)⟩
         ·exact ⟨by omega,hs⟩
         ·(first|omega|(simp only [vM] at *;omega))
       ·exfalso;omega
      ·subst hs
       (repeat' ((conv=>whnf);first|refine vA ?_|refine vB fun b hb=>?_|refine vC (fun hl=>?_) fun i kv vv hi=>?_|refine vE ?_|refine vG ?_|refine vH ?_|((first|refine vD ?_ ?_|refine vF ?_ ?_|refine vI ?_ ?_)<;>intro hc<;>try simp only [vL] at hc)|refine vJ fun hg=>?_|refine vK fun hg=>?_|refine vT ?_|refine vN ‹_› ?_|(refine vQ ?_ fun x hx=>?_;·first|omega|(simp only [vM] at *;omega))|((first|refine vO ?_ ?_|refine vR ?_ ‹_› ?_|refine vS ?_ fun x hx=>?_|refine vP ?_ ?_);·first|omega|(simp only [vM] at *;omega))|refine vW ⟨by omega,by omega⟩ ?_|(refine vU ?_ ?_;·kernel_rfl)|refine vX ?_|refine vY ?_|refine vZ ?_|refine za.mk _ ‹_› ?_|refine vP (show (_:BitVec 64)≠_ by decide) ?_));all_goals try conv=>whnf
       all_goals try (exfalso;omega)
       refine ⟨i+1,[(0,0),(1,1)],[],?_,?_,by (refine ⟨rfl,rfl,rfl,?_,?_⟩;repeat' first|exact trivial|exact rfl|exact ⟨_,rfl⟩|exact .inl rfl|exact .inr (.inl ⟨rfl,rfl⟩)|exact .inr (.inr ⟨rfl,rfl⟩)|refine And.intro ?_ ?_|refine ⟨_,rfl,?_⟩|decide|exact of_decide_eq_true rfl)⟩
       ·omega
       ·(first|omega|(simp only [vM] at *;omega))
     all_goals (exfalso;omega)
    ·have hdn:zti (c.drop i)=0#64:=by rw [List.drop_eq_nil_of_le (by omega)];exact zvp
     (repeat' ((conv=>whnf);first|refine vA ?_|refine vB fun b hb=>?_|refine vC (fun hl=>?_) fun i kv vv hi=>?_|refine vE ?_|refine vG ?_|refine vH ?_|((first|refine vD ?_ ?_|refine vF ?_ ?_|refine vI ?_ ?_)<;>intro hc<;>try simp only [vL] at hc)|refine vJ fun hg=>?_|refine vK fun hg=>?_|refine vT ?_|refine vN ‹_› ?_|(refine vQ ?_ fun x hx=>?_;·first|omega|(simp only [vM] at *;omega))|((first|refine vO ?_ ?_|refine vR ?_ ‹_› ?_|refine vS ?_ fun x hx=>?_|refine vP ?_ ?_);·first|omega|(simp only [vM] at *;omega))|refine vW ⟨by omega,by omega⟩ ?_|(refine vU ?_ ?_;·kernel_rfl)|refine vX ?_|refine vY ?_|refine vZ ?_|refine yD hA (by (repeat refine ⟨⟨rfl,rfl⟩,?_⟩);rfl) rfl ?_|refine yN hA (by (repeat refine ⟨⟨rfl,rfl⟩,?_⟩);rfl) ?_|refine za.mk _ ‹_› ?_|refine vP (show (_:BitVec 64)≠_ by decide) ?_));all_goals try conv=>whnf
     all_goals first|(exfalso;omega)|exact absurd hdn ‹_›|skip
  ·refine zp zF k_wittinglaw16_IsomorphNumbers (by show 3≤215;decide) ?_
   (repeat' ((conv=>whnf);first|refine vA ?_|refine vB fun b hb=>?_|refine vC (fun hl=>?_) fun i kv vv hi=>?_|refine vE ?_|refine vG ?_|refine vH ?_|((first|refine vD ?_ ?_|refine vF ?_ ?_|refine vI ?_ ?_)<;>intro hc<;>try simp only [vL] at hc)|refine vJ fun hg=>?_|refine vK fun hg=>?_|refine vT ?_|refine vN ‹_› ?_|(refine vQ ?_ fun x hx=>?_;·first|omega|(simp only [vM] at *;omega))|((first|refine vO ?_ ?_|refine vR ?_ ‹_› ?_|refine vS ?_ fun x hx=>?_|refine vP ?_ ?_);·first|omega|(simp only [vM] at *;omega))|refine vW ⟨by omega,by omega⟩ ?_|(refine vU ?_ ?_;·kernel_rfl)|refine vX ?_|refine vY ?_|refine vZ ?_|refine yD hf ⟨⟨rfl,rfl⟩,⟨rfl,rfl⟩,rfl⟩ rfl ?_|refine yD hA (by (repeat refine ⟨⟨rfl,rfl⟩,?_⟩);rfl) rfl ?_|refine yN hA (by (repeat refine ⟨⟨rfl,rfl⟩,?_⟩);rfl) ?_|refine yD ck ⟨⟨rfl,rfl⟩,rfl⟩ rfl ?_|refine za.mk _ ‹_› ?_|refine vP (show (_:BitVec 64)≠_ by decide) ?_));all_goals try conv=>whnf
   all_goals exact absurd ⟨‹zj m=0›,by omega,by omega⟩ hin
end Go.Ab
namespace Go.Proofs.YtjpgnjhdeikncaaGreatDoor
open Go Go.Ab Go.RowKit Go.ChangeShapes Go.WideShapes
set_option maxRecDepth 100000 in
theorem isomorphNumbers_holds:Rows.IsomorphNumbersSaid :=
 OpenClaim.holds_of_wide 7 Tryz.f7 rfl rfl rfl rfl rfl rfl rfl ⟨rfl,rfl,rfl,rfl,rfl⟩ rfl rfl rfl rfl rfl (by kernel_rfl) Tryz.func7 (by kernel_rfl)
  (of_decide_eq_true (by kernel_rfl)) (by unfold Func.isWrapper;rw [if_neg (of_decide_eq_false (by kernel_rfl))];exact ⟨rfl,rfl⟩)
  (fun os started H enc _=>zvc (C:=Tryz.checked) (s:=Rows.isomorphNumbersSpec) (laid:=laidL) knob started (by kernel_rfl) Tryz.func7 laidOut [25,3,28] Tryz.params7 rfl Tryz.underlying4 rfl (by kernel_rfl)
   (fun ds hds=>by match ds,hds with|[d1,d2,d3],_=>rfl)
   (ChangeSpec.witness_shaped (enc:=enc) (C:=Tryz.checked) (os:=os) (X:=fun w _=>laidMetH Tryz.prog laidL w) false (World.doorLaid Tryz.prog 14 os)
    #[.agg #[.int .i64 0,.slice none 0 0,.slice none 0 0],.int .i64 0,.slice none 0 0] 8 rfl (World.shaped_of_RefB (by kernel_rfl) (by kernel_rfl)) (by kernel_rfl) (by kernel_rfl) (by kernel_rfl) (door_met os _))
   (fun W hL=>⟨TOf W,(zvx hL).1,(zvx hL).2,fun ds hds=>by
    obtain ⟨m1,r,rfl,hm1,k1⟩:=zvg hds
    obtain ⟨a2,r,rfl,ha2,k2⟩:=zvs k1
    obtain ⟨l3,r,rfl,hl3,k3⟩:=zvl k2
    obtain rfl:=zvz k3
    exact law_Numbers (tz_of hL) m1 a2 l3⟩))
theorem isomorphNumbers_card:Rows.IsomorphNumbersCardSaid :=
 Claim7.holds_tied_plain_at .later [] [.data] true (true, "c96b12866c1abf5fdfd17610126ecda506524b3457cc7270fbd11550e856ea1c") false
  isomorphNumbers_holds (fun _ h=>by cases h) (by kernel_rfl) (fun _ h=>by cases h) isomorphNumbers_row_tie rfl ⟨rfl,rfl⟩ (by kernel_rfl) rfl
  (fun f fn hf hfn=>by
   obtain rfl:f=7:=Option.some.inj ((show Tryz.prog.funcNamed Rows.isomorphNumbersRow.func=some 7 by kernel_rfl).symm.trans hf) |>.symm
   obtain rfl:fn=Tryz.f7:=(Option.some.inj (Tryz.func7.symm.trans hfn)).symm
   exact ⟨by kernel_rfl,fun j t ht=>by
    rw [Tryz.params7] at ht
    have hm:t∈[25,3,28]:=by
     have:=List.mem_of_getElem? (l:=[25,3,28]) (i:=j) (by simpa using ht)
     exact this
    have hall:([25,3,28].all fun t=>Tryz.prog.wantsStandIn t==false)=true:=by kernel_rfl
    exact eq_of_beq (List.all_eq_true.1 hall t hm)⟩)
  (by kernel_rfl)
end Go.Proofs.YtjpgnjhdeikncaaGreatDoor
