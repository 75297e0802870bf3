/- A part of the proofs of this seat: functions and their contracts. -/
import Derived.Test.YtffknaghkomefaaGreatMD
import Derived.Sort.AssemblyPlain
import Derived.Shelf.Strconv.Itoa0
import Derived.Sort.WalkA14
import Derived.Test.YtffknaghkomefaaGreatProg
import Derived.Sort.LotD4
set_option linter.unusedVariables false
set_option linter.unusedSimpArgs false
set_option linter.unusedSectionVars false
namespace Go.Ab
open Go Go.Proofs
set_option linter.unusedSimpArgs false
set_option linter.unusedVariables false
set_option maxRecDepth 10000
set_option maxHeartbeats 4000000
variable {T:Nat→Obj→Prop}
theorem CallS.objs {P:Program} {M:Nat→Option Ob} {n f:Nat} {vs lvs:List V} {obs:List Ob} {lv:V} {obs':List (Option Ob)} {K:V→Upd→Nat→Prop} (js:List Nat) (hf:Fn P T f lvs obs lv obs') (ha:VPasses M js [] 20 lvs vs)
  (ho:ObPasses M js [] obs js) (hnd:nodup js=true) (hsj:subl js (valReach M vs)=true) (hle:js.length≤obs'.length)
  (hK:K (renV js n 20 lv) (callU js [] n obs' false) (obs'.length - js.length)):CallS (CallC P T) M n f vs K :=
 ⟨⟨_,_,_,⟨js,[],false,lvs,obs,lv,obs',hf,ha,ho,hnd,by simp [disj],hsj,by simp [subl],hle,nofun,rfl,rfl,rfl⟩,hK⟩⟩
section
variable {α:Type} [Inhabited α]
theorem arr_get {d:Array α} {i:Nat} (h:i < d.size):d.toList[i]? = some d[i]! := by
 simp [h]
theorem arr_eq {d:Array α} {i:Nat} {x:α} (h:d.toList[i]? = some x):d[i]! = x∧i < d.size:=by
 obtain ⟨h1,h2⟩:=List.getElem?_eq_some_iff.1 h
 rw [Array.length_toList] at h1
 exact ⟨by simp [h1];simpa using h2,h1⟩
theorem swp_row {enc:α→D} {d:Array α} {i j:Nat} {x y:α} (hi:d.toList[i]? = some x) (hj:d.toList[j]? = some y):((d.toList.map enc).set i (enc y)).set j (enc x)=(Sort.swp d i j).toList.map enc:=by
 obtain ⟨e1,_⟩:=arr_eq hi
 obtain ⟨e2,_⟩:=arr_eq hj
 simp [Sort.swp,e1,e2,List.map_set]
theorem arr_at {d:Array α} {i:Int} {x:α} (k:Nat) (h:d.toList[i.toNat]? = some x) (hk:i=k):d.toList[k]? = some x:=by subst hk;exact h
theorem swp_rowI {enc:α→D} {d:Array α} {i j:Int} {x y:α} (i' j':Nat) (hi:d.toList[i.toNat]? = some x) (hj:d.toList[j.toNat]? = some y) (ei:i=i') (ej:j=j'):((d.toList.map enc).set i.toNat (enc y)).set j.toNat (enc x)=(Sort.swp d i' j').toList.map enc:=by
 subst ei;subst ej;exact swp_row hi hj
theorem swp_size (d:Array α) (i j:Nat):(Sort.swp d i j).size=d.size:=by simp [Sort.swp]
variable {lt:α→α→Bool}
theorem lt_at {d:Array α} {i j:Nat} {x y:α} (hi:d.toList[i]? = some x) (hj:d.toList[j]? = some y):lt d[i]! d[j]! = lt x y:=by rw [(arr_eq hi).1,(arr_eq hj).1]
theorem insInner_stop {a j:Nat} {d:Array α} (h : ¬(a < j∧lt d[j]! d[j - 1]! = true)):Sort.insInner lt a j d=d:=by
 cases j with
 | zero=>rfl
 | succ j =>
  unfold Sort.insInner
  rw [if_neg]
  simpa using h
theorem insInner_step {a j:Nat} {d:Array α} (h1:a < j) (h2:lt d[j]! d[j - 1]! = true):Sort.insInner lt a j d=Sort.insInner lt a (j - 1) (Sort.swp d j (j - 1)):=by
 cases j with
 | zero=>omega
 | succ j =>
  rw [Sort.insInner,if_pos]
  ·simp
  ·simp at h2 ⊢;exact ⟨by omega,h2⟩
theorem insInner_size {a:Nat} : ∀ {j:Nat} {d:Array α},(Sort.insInner lt a j d).size=d.size
 | 0,d=>rfl
 | j+1,d=>by
  unfold Sort.insInner
  split
  ·rw [insInner_size,swp_size]
  ·rfl
theorem insOuter_stop {a b i:Nat} {d:Array α} (h : ¬i < b):Sort.insOuter lt a b i d=d:=by rw [Sort.insOuter,if_neg h]
theorem insOuter_step {a b i:Nat} {d:Array α} (h:i < b):Sort.insOuter lt a b i d=Sort.insOuter lt a b (i+1) (Sort.insInner lt a i d):=by rw [Sort.insOuter.eq_def lt a b i,if_pos h]
theorem sift_stop {hi first root:Nat} {d:Array α} (h:2 * root+1 ≥ hi):Sort.siftDown lt hi first root d=d:=by rw [Sort.siftDown,dif_pos h]
def childOf (lt:α→α→Bool) (hi first root:Nat) (d:Array α):Nat:=if 2 * root+1+1 < hi∧lt d[first+(2 * root+1)]! d[first+(2 * root+1)+1]! = true then 2 * root+2 else 2 * root+1
theorem sift_eq {hi first root:Nat} {d:Array α} (h : ¬2 * root+1 ≥ hi):Sort.siftDown lt hi first root d =
  if lt d[first+root]! d[first+childOf lt hi first root d]! = true then Sort.siftDown lt hi first (childOf lt hi first root d) (Sort.swp d (first+root) (first+childOf lt hi first root d)) else d:=by
 rw [Sort.siftDown,dif_neg h,childOf]
 by_cases h1:2 * root+1+1 < hi∧lt d[first+(2 * root+1)]! d[first+(2 * root+1)+1]! = true
 ·rw [if_pos (by simpa using h1),if_pos h1]
  cases hb:lt d[first+root]! d[first+(2 * root+2)]! with
  | false=>simp
  | true=>simp only [Bool.not_true,Bool.false_eq_true,if_false,if_true];rw [dif_pos (by omega)]
 ·rw [if_neg (by simpa using h1),if_neg h1]
  cases hb:lt d[first+root]! d[first+(2 * root+1)]! with
  | false=>simp
  | true=>simp
theorem sift_size {hi first:Nat} : ∀ (n root:Nat) (d:Array α),hi - root≤n→(Sort.siftDown lt hi first root d).size=d.size
 | 0,root,d,h=>by rw [sift_stop (by omega)]
 | n+1,root,d,h=>by
  by_cases h1:2 * root+1 ≥ hi
  ·rw [sift_stop h1]
  ·rw [sift_eq h1]
   split
   ·have:root < childOf lt hi first root d:=by unfold childOf;split<;>omega
    rw [sift_size n _ _ (by omega),swp_size]
   ·rfl
theorem siftDown_size {hi first root:Nat} {d:Array α} : (Sort.siftDown lt hi first root d).size=d.size:=sift_size _ _ _ (Nat.le_refl _)
theorem build_size {hi first:Nat} : ∀ {k:Nat} {d:Array α},(Sort.heapBuild lt hi first k d).size=d.size
 | 0,d=>rfl
 | k+1,d=>by rw [Sort.heapBuild,build_size,siftDown_size]
theorem rev_stop {i j:Nat} {d:Array α} (h : ¬i < j):Sort.reverseLoop i j d=d:=by rw [Sort.reverseLoop,if_neg h]
theorem rev_next {i j:Nat} {d:Array α} (h:i < j):Sort.reverseLoop i j d=Sort.reverseLoop (i+1) (j - 1) (Sort.swp d i j):=by rw [Sort.reverseLoop,if_pos h]
end
end Go.Ab
namespace Go.Proofs
def Tryz.lays129_ren:Go.Shelf.Ren:=⟨fun|129=>116|n=>n,fun|53=>29|3=>3|4=>4|46=>108|5=>5|9=>9|n=>n,fun|n=>n⟩
theorem Tryz.lays129:Go.Proofs.Lays.n129 Tryz.prog Tryz.lays129_ren := {
 mixed:=by kernel_rfl
 f129:=Tryz.func116.trans (congrArg some (by kernel_rfl))
 t3:=Tryz.underlying3
 a3:=Tryz.isAgg3
 z3:=Tryz.sizeOf3
 v3:=Tryz.zeroValue3
 t4:=Tryz.underlying4
 a4:=Tryz.isAgg4
 z4:=Tryz.sizeOf4
 v4:=Tryz.zeroValue4
 t5:=Tryz.underlying5
 a5:=Tryz.isAgg5
 z5:=Tryz.sizeOf5
 v5:=Tryz.zeroValue5
 t9:=Tryz.underlying9
 a9:=Tryz.isAgg9
 z9:=Tryz.sizeOf9
 v9:=Tryz.zeroValue9
 t46:=Tryz.underlying108
 a46:=Tryz.isAgg108
 z46:=Tryz.sizeOf108
 v46:=Tryz.zeroValue108
 t53:=Tryz.underlying29
 a53:=Tryz.isAgg29
 z53:=Tryz.sizeOf29
 v53:=Tryz.zeroValue29 }
end Go.Proofs
namespace Go.Ab
open Go Go.Proofs
set_option linter.unusedSimpArgs false
set_option linter.unusedVariables false
set_option maxRecDepth 10000
set_option maxHeartbeats 4000000
variable {T:Nat→Obj→Prop}
theorem call_len64:callable Tryz.prog f_math_bits_Len64:=⟨_,Tryz.func116,by kernel_rfl,by kernel_rfl⟩
theorem fn_Len64 (x:BitVec 64):Fn Tryz.prog T f_math_bits_Len64 [.d (.u64 x)] [] (.d (.int .i64 (Sort.bitsLen x.toNat:Int))) []:=by
 refine fn_pure (ds:=[.u64 x]) call_len64 fun w args hw hsz hargs=>?_
 obtain ⟨X,hX⟩:=hargs 0 (by simp)
 have ha:args = #[.int .u64 (x.toNat:Int)]:=by
  have h0:args.getD 0 undef = .int .u64 (x.toNat:Int):=by
   generalize args.getD 0 undef=y at hX
   cases hX;rfl
  obtain ⟨l⟩:=args
  match l,hsz with
  | [y],_=>rw [← h0];rfl
 rw [ha]
 have:=Any.bits_Len64 Tryz.lays129 (x.toNat:Int) w (by omega) (by have:=x.isLt;omega)
 refine this.mono fun e w' he=>⟨_,he.1,he.2,fun X=>?_⟩
 rw [Int.toNat_natCast,Go.Proofs.bitLen_eq _ x.isLt]
 exact .int _ _ (by decide)
theorem fn_Len (x:BitVec 64):Fn Tryz.prog T f_math_bits_Len [.d (.u64 x)] [] (.d (.int .i64 (Sort.bitsLen x.toNat:Int))) []:=by
 refine fn_dataR hmix k_math_bits_Len (by show 1≤8;decide) ?_
 (repeat' ((conv=>whnf);first|refine vX ?_|refine yD (fn_Len64 _) ⟨⟨rfl,rfl⟩,rfl⟩ rfl ?_));all_goals try conv=>whnf
end Go.Ab
namespace Go.Ab
open Go Go.Proofs
set_option linter.unusedSimpArgs false
set_option linter.unusedVariables false
set_option maxRecDepth 10000
set_option maxHeartbeats 4000000
variable {T:Nat→Obj→Prop}
def xnB (r:BitVec 64):BitVec 64 :=
 let r:=r ^^^ (r <<< (13#64).toNat)
 let r:=r ^^^ (r >>> (7#64).toNat)
 r ^^^ (r <<< (17#64).toNat)
theorem xn_eq (r:UInt64):(Sort.xorNext r).toBitVec=xnB r.toBitVec:=by
 simp [Sort.xorNext,xnB]
theorem fn_Next (r:BitVec 64):Fn Tryz.prog T f___slices_xorshift__Next [.ptr 0 0] [.box [.d (.u64 r)]] (.d (.u64 (xnB r))) [some (.box [.d (.u64 (xnB r))])]:=by
 refine fn_introR hmix k___slices_xorshift__Next (by show 1≤33;decide) _ (fun e env mem n h=>h) ?_
 (repeat' ((conv=>whnf);first|refine vA ?_|(refine vU ?_ ?_;·kernel_rfl)|fail));all_goals try conv=>whnf
 refine ⟨trivial,_,[(0,0)],[],rfl,.inl (by (repeat' exact rfl)),⟨by rfl,by rfl,by rfl,trivial,by (repeat' first|exact trivial|exact rfl|refine And.intro ?_ ?_|refine ⟨_,rfl,?_⟩|exact of_decide_eq_true rfl)⟩,by (repeat' first|exact trivial|exact rfl|refine And.intro ?_ ?_|refine ⟨_,rfl,?_⟩)⟩
theorem fn_npow {n:Int} (l:Nat) (e:n=l) (h:l < 1073741824):Fn Tryz.prog T f_slices_nextPowerOfTwo [.d (.int .i64 n)] [] (.d (.u64 (1#64 <<< Sort.bitsLen l))) []:=by
 subst e
 refine fn_dataR hmix k_slices_nextPowerOfTwo (by show 1≤7;decide) ?_
 (repeat' ((conv=>whnf);first|(refine vP ?_ ?_;·omega)|refine vY ?_|refine yD (fn_Len _) ⟨⟨rfl,rfl⟩,rfl⟩ rfl ?_));all_goals try conv=>whnf
 have:(BitVec.ofInt 64 (l:Int)).toNat=l:=ofInt_nat (by omega)
 rw [this];rfl
def otherOf (l:Nat) (r:UInt64):Nat :=
 let o:=r.toNat&&&((1 <<< Sort.bitsLen l) - 1)
 if o ≥ l then o - l else o
theorem other_lt {l:Nat} (h:0 < l) (r:UInt64):r.toNat&&&((1 <<< Sort.bitsLen l) - 1) < 2 * l∧otherOf l r < l:=by
 have h1:=Sort.two_pow_bitsLen_le h
 have h0:=Nat.two_pow_pos (Sort.bitsLen l)
 have h2:r.toNat&&&((1 <<< Sort.bitsLen l) - 1)≤(1 <<< Sort.bitsLen l) - 1:=Nat.and_le_right
 rw [Nat.shiftLeft_eq,Nat.one_mul] at h2 ⊢
 unfold otherOf
 rw [Nat.shiftLeft_eq,Nat.one_mul]
 refine ⟨by omega,?_⟩
 simp only
 split<;>omega
theorem and_mask (l:Nat) (hl:l < 1073741824) (r:UInt64):(r.toBitVec&&&((1#64 <<< Sort.bitsLen l) - 1#64)).toNat=r.toNat&&&((1 <<< Sort.bitsLen l) - 1):=by
 have hb:Sort.bitsLen l≤30:=(Sort.bitsLen_le_iff l 30).2 (by omega)
 have h0:=Nat.two_pow_pos (Sort.bitsLen l)
 have h1:2 ^ Sort.bitsLen l≤2 ^ 30:=Nat.pow_le_pow_right (by omega) hb
 have e1:(1#64 <<< Sort.bitsLen l).toNat=2 ^ Sort.bitsLen l:=by
  rw [BitVec.toNat_shiftLeft,Nat.shiftLeft_eq,show (1#64).toNat=1 from rfl,Nat.one_mul,Nat.mod_eq_of_lt (by omega)]
 have e2:((1#64 <<< Sort.bitsLen l) - 1#64).toNat=2 ^ Sort.bitsLen l - 1:=by
  rw [BitVec.toNat_sub,e1,show (1#64).toNat=1 from rfl]
  omega
 rw [BitVec.toNat_and,e2,Nat.shiftLeft_eq,Nat.one_mul];rfl
theorem breakStep_eq {α:Type} [Inhabited α] (a l idx:Nat) (st:UInt64×Array α):Sort.breakStep a l (1 <<< Sort.bitsLen l) st idx=(Sort.xorNext st.1,Sort.swp st.2 idx (a+otherOf l (Sort.xorNext st.1))):=rfl
def brk {α:Type} [Inhabited α] (d:Array α) (a b:Nat):Nat→UInt64×Array α
 | 0=>(UInt64.ofNat (b - a),d)
 | k+1=>Sort.breakStep a (b - a) (1 <<< Sort.bitsLen (b - a)) (brk d a b k) (a+(b - a) / 4 * 2 - 1+k)
theorem brk_eq {α:Type} [Inhabited α] {d:Array α} {a b:Nat} (h:b - a ≥ 8):Sort.breakPatterns d a b=(brk d a b 3).2:=by
 unfold Sort.breakPatterns
 simp only [h,if_true];rfl
theorem brk_size {α:Type} [Inhabited α] (d:Array α) (a b:Nat) : ∀ k,(brk d a b k).2.size=d.size
 | 0=>rfl
 | k+1=>by rw [brk,breakStep_eq,swp_size,brk_size d a b k]
section
variable {α:Type} [Inhabited α] {lt:α→α→Bool}
theorem scanS_stop {d:Array α} {b i:Nat} (h : ¬(i < b∧lt d[i]! d[i - 1]! = false)):Sort.scanSorted lt d b i=i:=by
 rw [Sort.scanSorted,if_neg]
 simpa using h
theorem scanS_next {d:Array α} {b i:Nat} (h1:i < b) (h2:lt d[i]! d[i - 1]! = false):Sort.scanSorted lt d b (i+1)=Sort.scanSorted lt d b i:=by
 rw [Sort.scanSorted.eq_def lt d b i,if_pos]
 simp [h1,h2]
theorem shD_stop {j:Nat} {d:Array α} (h : ¬(1≤j∧lt d[j]! d[j - 1]! = true)):Sort.shiftDown lt j d=d:=by
 cases j with
 | zero=>rfl
 | succ j =>
  rw [Sort.shiftDown,if_pos]
  simpa using h
theorem shD_next {j:Nat} {d:Array α} (h1:1≤j) (h2:lt d[j]! d[j - 1]! = true):Sort.shiftDown lt (j - 1) (Sort.swp d j (j - 1))=Sort.shiftDown lt j d:=by
 cases j with
 | zero=>omega
 | succ j =>
  conv=>rhs;rw [Sort.shiftDown]
  rw [if_neg]
  ·simp
  ·simpa using h2
theorem shU_stop {b j:Nat} {d:Array α} (h : ¬(j < b∧lt d[j]! d[j - 1]! = true)):Sort.shiftUp lt b j d=d:=by
 rw [Sort.shiftUp]
 by_cases h1:j < b
 ·rw [if_pos h1,if_pos]
  simpa [h1] using h
 ·rw [if_neg h1]
theorem shU_next {b j:Nat} {d:Array α} (h1:j < b) (h2:lt d[j]! d[j - 1]! = true):Sort.shiftUp lt b (j+1) (Sort.swp d j (j - 1))=Sort.shiftUp lt b j d:=by
 rw [Sort.shiftUp.eq_def lt b j d,if_pos h1,if_neg]
 simp [h2]
end
section
variable {α:Type} [Inhabited α] {p:α→Bool}
theorem su_stop {d:Array α} {i j:Nat} (h : ¬(i≤j∧p d[i]! = true)):Sort.scanUp p d j i=i:=by
 rw [Sort.scanUp,if_neg]
 simpa using h
theorem su_next {d:Array α} {i j:Nat} (h1:i≤j) (h2:p d[i]! = true):Sort.scanUp p d j (i+1)=Sort.scanUp p d j i:=by
 rw [Sort.scanUp.eq_def p d j i,if_pos]
 simp [h1,h2]
theorem sd_stop {d:Array α} {i j:Nat} (h : ¬(i≤j∧p d[j]! = true)):Sort.scanDown p d i j=j:=by
 cases j with
 | zero=>rfl
 | succ j =>
  rw [Sort.scanDown,if_neg]
  simpa using h
theorem sd_next {d:Array α} {i j:Nat} (h0:1≤j) (h1:i≤j) (h2:p d[j]! = true):Sort.scanDown p d i (j - 1)=Sort.scanDown p d i j:=by
 cases j with
 | zero=>omega
 | succ j =>
  conv=>rhs;rw [Sort.scanDown]
  rw [if_pos]
  ·simp
  ·simp [h1,h2]
end
section
open Go.Sort
variable {α:Type} [Inhabited α] (lt:α→α→Bool)
def pdqTail (d:Array α) (a b p lim:Nat) (wb wp:Bool):Array α :=
 if a > 0∧lt d[a - 1]! d[p]! = false then pdq lt (partitionEqual lt d a b p).2 (partitionEqual lt d a b p).1 b lim wb wp
 else if (partition lt d a b p).1 - a < b - (partition lt d a b p).1 then
  pdq lt (pdq lt (partition lt d a b p).2.2 a (partition lt d a b p).1 lim true true) ((partition lt d a b p).1+1) b lim (decide ((partition lt d a b p).1 - a ≥ (b - a) / 8)) (partition lt d a b p).2.1
 else pdq lt (pdq lt (partition lt d a b p).2.2 ((partition lt d a b p).1+1) b lim true true) a (partition lt d a b p).1 lim (decide (b - (partition lt d a b p).1 ≥ (b - a) / 8)) (partition lt d a b p).2.1
def pdqD (d:Array α) (a b p lim:Nat) (wb wp:Bool) (hint:Hint):Array α :=
 if wb=true∧wp=true∧hint = .increasing then (if (partialInsertionSort lt d a b).2=true then (partialInsertionSort lt d a b).1 else pdqTail lt (partialInsertionSort lt d a b).1 a b p lim wb wp)
 else pdqTail lt d a b p lim wb wp
def pdqC (d:Array α) (a b lim:Nat) (wb wp:Bool):Array α :=
 if (choosePivot lt d a b).2 = .decreasing then pdqD lt (reverseRange d a b) a b ((b - 1) - ((choosePivot lt d a b).1 - a)) lim wb wp .increasing
 else pdqD lt d a b (choosePivot lt d a b).1 lim wb wp (choosePivot lt d a b).2
variable {lt}
theorem pareq_range {d:Array α} {a b p:Nat} (hab:a < b) (hb:b≤d.size):a < (partitionEqual lt d a b p).1∧(partitionEqual lt d a b p).1≤b∧(partitionEqual lt d a b p).2.size=d.size:=by
 obtain ⟨h1,h2,h3,_⟩:=partEqLoop_spec lt a b (b - 1+1 - (a+1)) (a+1) (b - 1) (Sort.swp d a p) (Nat.le_refl _) (by omega) (by omega) (by omega) (by rw [Ab.swp_size];exact hb) (fun t _ _=>by omega) (fun t _ _=>by omega)
 exact ⟨h1,h2,by rw [show (partitionEqual lt d a b p).2=(partEqLoop lt a (a+1) (b - 1) (Sort.swp d a p)).2 from rfl,h3.1,Ab.swp_size]⟩
theorem pdq_tail (hS:SWO lt) {d:Array α} {a b p lim:Nat} {wb wp:Bool} (ha:a≤p) (hp:p < b) (hb:b≤d.size) :
  (if a > 0 && !lt d[a - 1]! d[p]! then
   match partitionEqual lt d a b p with
   | (mid,d4)=>if _h:a < mid∧mid≤b then pdq lt d4 mid b lim wb wp else d4
  else
   match partition lt d a b p with
   | (mid,ap,d4) =>
    if _h:a≤mid∧mid < b then
     if mid - a < b - mid then pdq lt (pdq lt d4 a mid lim true true) (mid+1) b lim (decide (mid - a ≥ (b - a) / 8)) ap
     else pdq lt (pdq lt d4 (mid+1) b lim true true) a mid lim (decide (b - mid ≥ (b - a) / 8)) ap
    else d4)=pdqTail lt d a b p lim wb wp:=by
 obtain ⟨e1,e2,_⟩:=pareq_range (lt:=lt) (p:=p) (show a < b by omega) hb
 obtain ⟨q1,q2,_⟩:=partition_holds lt hS d a b p ha hp hb
 unfold pdqTail
 by_cases h:a > 0∧lt d[a - 1]! d[p]! = false
 ·rw [if_pos h,if_pos (by simpa using h)]
  exact dif_pos ⟨e1,e2⟩
 ·rw [if_neg h,if_neg (by simpa using h)]
  exact dif_pos ⟨q1,q2⟩
theorem shiftDown_size : ∀ {j:Nat} {d:Array α},(Sort.shiftDown lt j d).size=d.size
 | 0,d=>rfl
 | j+1,d=>by
  unfold Sort.shiftDown
  split
  ·rfl
  ·rw [shiftDown_size,Ab.swp_size]
theorem shiftUp_size {b:Nat} : ∀ (n j:Nat) (d:Array α),b - j≤n→(Sort.shiftUp lt b j d).size=d.size
 | 0,j,d,h=>by rw [Sort.shiftUp,if_neg (by omega)]
 | n+1,j,d,h=>by
  rw [Sort.shiftUp]
  split
  ·split
   ·rfl
   ·rw [shiftUp_size n _ _ (by omega),Ab.swp_size]
  ·rfl
theorem pins_size' {a b:Nat} : ∀ (s i:Nat) (d:Array α),(Sort.partialIns lt a b s i d).1.size=d.size
 | 0,i,d=>rfl
 | s+1,i,d=>by
  rw [Sort.partialIns_succ]
  split
  ·rfl
  ·split
   ·rfl
   ·rw [pins_size' s]
    unfold Sort.fixUp Sort.fixDown
    split<;>split<;>simp [shiftUp_size _ _ _ (Nat.le_refl _),shiftDown_size,Ab.swp_size]
theorem pins_size {a b:Nat} {d:Array α} : (Sort.partialInsertionSort lt d a b).1.size=d.size:=pins_size' _ _ _
theorem pdq_go (hS:SWO lt) {d:Array α} {a b limit:Nat} {wb wp:Bool} (h12 : ¬b - a≤12) (h0:limit≠0) (hb:b≤d.size) :
  pdq lt d a b limit wb wp=if wb=true then pdqC lt d a b limit wb wp else pdqC lt (breakPatterns d a b) a b (limit - 1) wb wp:=by
 have key : ∀ (d1:Array α) (lim:Nat),d1.size=d.size →
   (if (if (wb&&wp&&decide ((if (choosePivot lt d1 a b).2 = .decreasing then Hint.increasing else (choosePivot lt d1 a b).2) = .increasing))=true then partialInsertionSort lt (if (choosePivot lt d1 a b).2 = .decreasing then reverseRange d1 a b else d1) a b else ((if (choosePivot lt d1 a b).2 = .decreasing then reverseRange d1 a b else d1),false)).2=true then
    (if (wb&&wp&&decide ((if (choosePivot lt d1 a b).2 = .decreasing then Hint.increasing else (choosePivot lt d1 a b).2) = .increasing))=true then partialInsertionSort lt (if (choosePivot lt d1 a b).2 = .decreasing then reverseRange d1 a b else d1) a b else ((if (choosePivot lt d1 a b).2 = .decreasing then reverseRange d1 a b else d1),false)).1
   else pdqTail lt (if (wb&&wp&&decide ((if (choosePivot lt d1 a b).2 = .decreasing then Hint.increasing else (choosePivot lt d1 a b).2) = .increasing))=true then partialInsertionSort lt (if (choosePivot lt d1 a b).2 = .decreasing then reverseRange d1 a b else d1) a b else ((if (choosePivot lt d1 a b).2 = .decreasing then reverseRange d1 a b else d1),false)).1 a b
    (if (choosePivot lt d1 a b).2 = .decreasing then (b - 1) - ((choosePivot lt d1 a b).1 - a) else (choosePivot lt d1 a b).1) lim wb wp)=pdqC lt d1 a b lim wb wp:=by
  intro d1 lim _
  unfold pdqC pdqD
  by_cases hc:(choosePivot lt d1 a b).2 = .decreasing
  ·simp only [hc,if_true]
   by_cases hw:wb=true∧wp=true
   ·simp [hw.1,hw.2]
   ·have:(wb&&wp)=false:=by
     cases wb<;>cases wp<;>simp_all
    simp [this,hw]
  ·simp only [hc,if_false]
   by_cases hw:wb=true∧wp=true∧(choosePivot lt d1 a b).2 = .increasing
   ·simp [hw.1,hw.2.1,hw.2.2]
   ·have:(wb&&wp&&decide ((choosePivot lt d1 a b).2 = .increasing))=false:=by
     cases wb<;>cases wp<;>simp_all
    simp only [this,Bool.false_eq_true,if_false,if_neg hw]
 have fin : ∀ (d1:Array α) (lim:Nat),PermIn a b d d1→(let c:=choosePivot lt d1 a b
  let d2:=if c.2 = .decreasing then reverseRange d1 a b else d1
  let pivot:=if c.2 = .decreasing then (b - 1) - (c.1 - a) else c.1
  let hint:=if c.2 = .decreasing then Hint.increasing else c.2
  let pi:=if wb&&wp&&hint = .increasing then partialInsertionSort lt d2 a b else (d2,false)
  if pi.2 then pi.1 else
  let d3:=pi.1
  if a > 0 && !lt d3[a - 1]! d3[pivot]! then
   match partitionEqual lt d3 a b pivot with
   | (mid,d4)=>if _h:a < mid∧mid≤b then pdq lt d4 mid b lim wb wp else d4
  else
   match partition lt d3 a b pivot with
   | (mid,ap,d4) =>
    if _h:a≤mid∧mid < b then
     if mid - a < b - mid then pdq lt (pdq lt d4 a mid lim true true) (mid+1) b lim (decide (mid - a ≥ (b - a) / 8)) ap
     else pdq lt (pdq lt d4 (mid+1) b lim true true) a mid lim (decide (b - mid ≥ (b - a) / 8)) ap
    else d4)=pdqC lt d1 a b lim wb wp:=by
  intro d1 lim hp1
  rw [← key d1 lim hp1.1]
  have hc:=choosePivot_holds lt d1 a b (by omega)
  have hpv:=pivot_range hc.1 hc.2 ((choosePivot lt d1 a b).2 = .decreasing)
  have hr:(if (choosePivot lt d1 a b).2 = .decreasing then reverseRange d1 a b else d1).size=d.size:=by
   split
   ·rw [(reverseRange_holds d1 a b (by omega) (by rw [hp1.1];exact hb)).1,hp1.1]
   ·exact hp1.1
  refine ite_congr rfl (fun _=>rfl) fun _=>pdq_tail hS ?_ ?_ ?_
  ·exact hpv.1
  ·exact hpv.2
  ·by_cases hw:(wb&&wp&&decide ((if (choosePivot lt d1 a b).2 = .decreasing then Hint.increasing else (choosePivot lt d1 a b).2) = .increasing))=true
   ·rw [if_pos hw,pins_size,hr];exact hb
   ·rw [if_neg hw]
    show b≤(if (choosePivot lt d1 a b).2 = .decreasing then reverseRange d1 a b else d1).size
    rw [hr];exact hb
 rw [Sort.pdq,if_neg h12,if_neg h0]
 cases wb with
 | true=>exact fin d limit (permIn_refl d a b)
 | false=>exact fin (breakPatterns d a b) (limit - 1) (breakPatterns_holds d a b (by omega) hb)
theorem insO_size {a b:Nat} : ∀ (n i:Nat) (d:Array α),b - i≤n→(Sort.insOuter lt a b i d).size=d.size
 | 0,i,d,h=>by rw [Ab.insOuter_stop (by omega)]
 | n+1,i,d,h=>by
  by_cases h1:i < b
  ·rw [Ab.insOuter_step h1,insO_size n _ _ (by omega),Ab.insInner_size]
  ·rw [Ab.insOuter_stop h1]
theorem pop_size {first:Nat} : ∀ (k:Nat) (d:Array α),(Sort.heapPop lt first k d).size=d.size
 | 0,d=>rfl
 | k+1,d=>by rw [Sort.heapPop,pop_size k,Ab.siftDown_size,Ab.swp_size]
theorem pdq_size (hS:SWO lt) : ∀ (N:Nat) (d:Array α) (a b limit:Nat) (wb wp:Bool),b - a≤N→a≤b→b≤d.size→(pdq lt d a b limit wb wp).size=d.size:=by
 intro N
 induction N using Nat.strongRecOn with
 | _ N ih =>
 intro d a b limit wb wp hN hab hb
 by_cases h12:b - a≤12
 ·rw [Sort.pdq,if_pos h12];exact insO_size _ _ _ (Nat.le_refl _)
 by_cases h0:limit=0
 ·rw [Sort.pdq,if_neg h12,if_pos h0,Sort.heapSort,pop_size,Ab.build_size]
 have tail : ∀ (u:Array α) (p lim:Nat),u.size=d.size→a≤p→p < b→(pdqTail lt u a b p lim wb wp).size=d.size:=by
  intro u p lim hu h1 h2
  obtain ⟨e1,e2,e3⟩:=pareq_range (lt:=lt) (p:=p) (show a < b by omega) (show b≤u.size by omega)
  obtain ⟨q1,q2,q3,_⟩:=partition_holds lt hS u a b p h1 h2 (by omega)
  unfold pdqTail
  split
  ·rw [ih (b - (partitionEqual lt u a b p).1) (by omega) _ _ _ _ _ _ (Nat.le_refl _) e2 (by omega),e3,hu]
  ·split
   ·rw [ih (b - ((partition lt u a b p).1+1)) (by omega) _ _ _ _ _ _ (Nat.le_refl _) (by omega) (by rw [ih ((partition lt u a b p).1 - a) (by omega) _ _ _ _ _ _ (Nat.le_refl _) q1 (by rw [q3.1];omega),q3.1];omega),
     ih ((partition lt u a b p).1 - a) (by omega) _ _ _ _ _ _ (Nat.le_refl _) q1 (by rw [q3.1];omega),q3.1,hu]
   ·rw [ih ((partition lt u a b p).1 - a) (by omega) _ _ _ _ _ _ (Nat.le_refl _) (by omega) (by rw [ih (b - ((partition lt u a b p).1+1)) (by omega) _ _ _ _ _ _ (Nat.le_refl _) (by omega) (by rw [q3.1];omega),q3.1];omega),
     ih (b - ((partition lt u a b p).1+1)) (by omega) _ _ _ _ _ _ (Nat.le_refl _) (by omega) (by rw [q3.1];omega),q3.1,hu]
 have goD : ∀ (u:Array α) (p lim:Nat) (hint:Hint),u.size=d.size→a≤p→p < b→(pdqD lt u a b p lim wb wp hint).size=d.size:=by
  intro u p lim hint hu h1 h2
  unfold pdqD
  split
  ·split
   ·rw [pins_size,hu]
   ·exact tail _ _ _ (by rw [pins_size,hu]) h1 h2
  ·exact tail _ _ _ hu h1 h2
 have goC : ∀ (u:Array α) (lim:Nat),u.size=d.size→(pdqC lt u a b lim wb wp).size=d.size:=by
  intro u lim hu
  have hc:=choosePivot_holds lt u a b (by omega)
  unfold pdqC
  split
  ·refine goD _ _ _ _ (by rw [(reverseRange_holds u a b hab (by omega)).1,hu]) (by omega) (by omega)
  ·exact goD _ _ _ _ hu hc.1 hc.2
 rw [pdq_go hS h12 h0 hb]
 split
 ·exact goC _ _ rfl
 ·exact goC _ _ (breakPatterns_holds d a b hab hb).1
end
end Go.Ab
namespace Go.Ab
open Go Go.Proofs
set_option linter.unusedSimpArgs false
set_option linter.unusedVariables false
set_option maxRecDepth 10000
set_option maxHeartbeats 4000000
section
variable {α:Type} [Inhabited α] [DecidableEq α]
def ddA (d:Array α):Nat→List α
 | 0=>[]
 | n+1=>if 0 < n∧d[n]! = d[n - 1]! then ddA d n else ddA d n++[d[n]!]
def Steps (d:Array α):Prop := ∀ j,0 < j→j < d.size→d[j]! ≠ d[j - 1]!
theorem take_next {d:Array α} {n:Nat} (h:n < d.size):d.toList.take (n+1)=d.toList.take n++[d[n]!]:=by
 rw [List.take_add_one,arr_get h];rfl
theorem dd_take {d:Array α} : ∀ {n:Nat},n≤d.size→(∀ j,0 < j→j < n→d[j]! ≠ d[j - 1]!)→ddA d n=d.toList.take n
 | 0,_,_=>rfl
 | n+1,h,hs=>by
  rw [ddA,if_neg (fun hh=>hs n hh.1 (by omega) hh.2),dd_take (by omega) (fun j h0 h1=>hs j h0 (by omega)),take_next (by omega)]
theorem dd_start {d:Array α} {k:Nat} (h0:0 < k) (h1:k < d.size) (hk : ∀ j,0 < j→j < k→d[j]! ≠ d[j - 1]!) (he:d[k]! = d[k - 1]!):d.toList.take k=ddA d (k+1):=by
 rw [ddA,if_pos ⟨h0,he⟩,dd_take (by omega) hk]
theorem set_take {e:Array α} {a:Nat} {x:α} (h:a < e.size):(e.setIfInBounds a x).toList.take (a+1)=e.toList.take a++[x]:=by
 have hl:a < e.toList.length:=by simpa using h
 rw [Array.toList_setIfInBounds,List.take_add_one,List.getElem?_set_self hl,List.take_set_of_le (Nat.le_refl a)];rfl
theorem set_get {e:Array α} {a j:Nat} {x:α} (h:a≠j):(e.setIfInBounds a x)[j]! = e[j]! := by
 simp [getElem!_def,Array.getElem?_setIfInBounds_ne h]
theorem dd_keep {d:Array α} {n:Nat} (h:0 < n) (he:d[n]! = d[n - 1]!):ddA d (n+1)=ddA d n:=by rw [ddA,if_pos ⟨h,he⟩]
theorem dd_add {d:Array α} {n:Nat} (he:d[n]! ≠ d[n - 1]!):ddA d (n+1)=ddA d n++[d[n]!]:=by rw [ddA,if_neg (fun h=>he h.2)]
theorem cut_row {enc:α→D} {e:Array α} {z:D} {a n:Nat} (h:a≤e.size):((List.take a (e.toList.map enc))++(List.replicate n z++List.drop (a+n) (e.toList.map enc))).take a=(e.toList.take a).map enc:=by
 rw [List.take_append_of_le_length (by simp;omega),List.take_take,Nat.min_self,List.map_take]
end
end Go.Ab
namespace Go.Ab
open Go Go.Proofs
set_option linter.unusedSimpArgs false
set_option linter.unusedVariables false
set_option maxRecDepth 10000
set_option maxHeartbeats 4000000
variable {T : Nat → Obj → Prop}
abbrev rowint (d : Array (Int)) : Ob := .row 1 (d.toList.map (D.int .i64))
theorem fn_Less_int (x y : Int) : Fn Tryz.prog T f_cmp_Less_int_ [.d (.int .i64 x), .d (.int .i64 y)] [] (.d (.bool (Sort.ltInt x y))) [] := by
  have hn : ∀ z : Int, Fn Tryz.prog T f_cmp_isNaN_int_ [.d (.int .i64 z)] [] (.d (.bool false)) [] := fun z => by
    refine fn_dataR hmix k_cmp_isNaN_int_ (by show 1 ≤ 6; decide) ?_
    (repeat' ((conv=>whnf);refine vZ ?_));all_goals try conv=>whnf
    simp
  refine fn_dataR hmix k_cmp_Less_int_ (by show 2 ≤ 17; decide) ?_
  (repeat' ((conv=>whnf);first|refine vA ?_|refine vH ?_|refine vZ ?_|refine yD (hn _) (by (repeat refine ⟨⟨rfl,rfl⟩,?_⟩);rfl) rfl ?_));all_goals try conv=>whnf
  rfl
theorem fn_ins_int (d : Array (Int)) (a b : Nat) (hb : b ≤ d.size) (hs : d.size ≤ 1073741824) (ha : a ≤ b) :
    Fn Tryz.prog T f_slices_insertionSortOrdered_int_ [.own 0, .d (.int .i64 (a : Int)), .d (.int .i64 (b : Int))] [rowint d] (.tup []) [some (rowint (Sort.insertionSort Sort.ltInt d a b))] := by
  refine fn_introR hmix k_slices_insertionSortOrdered_int_ (by show 3 ≤ 49; decide) _ (fun e env mem n h => h) ?_
  (repeat' ((conv=>whnf);first|(refine vO ?_ ?_;·omega)|fail));all_goals try conv=>whnf
  refine loop_mem (fun ((ii, xs) : Int × List D) => [(0, .own 0), (1, .d (.int .i64 ((a : Int)))), (2, .d (.int .i64 ((b : Int)))), (6, .d (.int .i64 (ii))), (ghostAt, .own 0)]) (fun ((ii, xs) : Int × List D) => [(0, some (.row 1 xs))]) 1 (fun ((ii, xs) : Int × List D) => ∃ (i : Nat) (e : Array (Int)), ii = i ∧ xs = e.toList.map (D.int .i64) ∧ a < i ∧ i ≤ b + 1 ∧ e.size = d.size ∧ Sort.insOuter Sort.ltInt a b i e = Sort.insertionSort Sort.ltInt d a b) (fun ((ii, xs) : Int × List D) => (b - ii).toNat) (((a : Int) + 1, d.toList.map (D.int .i64))) [(0, 0)] [] (⟨a + 1, d, by omega, rfl, by omega, by omega, rfl, rfl⟩) (by (refine ⟨rfl,rfl,rfl,?_,?_⟩;repeat' first|exact trivial|exact rfl|refine And.intro ?_ ?_|refine ⟨_,rfl,?_⟩|decide)) ?_
  rintro ⟨_, _⟩ ⟨i, e, rfl, rfl, hi, hi2, he, hI⟩
  (repeat' ((conv=>whnf);first|refine vA ?_|(refine vF ?_ ?_<;>intro hc<;>try simp only [vL] at hc)));all_goals try conv=>whnf
  · refine loop_mem (fun ((jj, xs) : Int × List D) => [(0, .own 0), (1, .d (.int .i64 ((a : Int)))), (2, .d (.int .i64 ((b : Int)))), (6, .d (.int .i64 ((i : Int)))), (7, .d (.int .i64 (jj))), (ghostAt, .own 0)]) (fun ((jj, xs) : Int × List D) => [(0, some (.row 1 xs))]) 1 (fun ((jj, xs) : Int × List D) => ∃ (j : Nat) (g : Array (Int)), jj = j ∧ xs = g.toList.map (D.int .i64) ∧ j ≤ i ∧ g.size = d.size ∧ Sort.insInner Sort.ltInt a j g = Sort.insInner Sort.ltInt a i e) (fun ((jj, xs) : Int × List D) => jj.toNat) (((i : Int), e.toList.map (D.int .i64))) [(0, 0)] [] (⟨i, e, rfl, rfl, by omega, he, rfl⟩) (by (refine ⟨rfl,rfl,rfl,?_,?_⟩;repeat' first|exact trivial|exact rfl|refine And.intro ?_ ?_|refine ⟨_,rfl,?_⟩|decide)) ?_
    rintro ⟨_, _⟩ ⟨j, g, rfl, rfl, hj, hg, hJ⟩
    have hgl : g.toList.length = d.size := by rw [Array.length_toList]; exact hg
    have stop : ¬(a < j ∧ Sort.ltInt g[j]! g[j - 1]! = true) → Sort.insOuter Sort.ltInt a b (i + 1) g = Sort.insertionSort Sort.ltInt d a b := fun h => by
      rw [← hI, Sort.insOuter.eq_def Sort.ltInt a b i, if_pos (by omega), ← hJ, insInner_stop h]
    (repeat' ((conv=>whnf);first|refine vA ?_|(refine vF ?_ ?_<;>intro hc<;>try simp only [vL] at hc)|refine vN ‹_› ?_|(refine vQ ?_ fun x hx=>?_;·omega)|((first|refine vO ?_ ?_|refine vP ?_ ?_);·first|omega|(simp only [vM] at *;omega))|(refine vU ?_ ?_;·kernel_rfl)|refine yD (fn_Less_int _ _) ⟨⟨rfl,rfl⟩,⟨rfl,rfl⟩,rfl⟩ rfl ?_));all_goals try conv=>whnf
    · have e1 : ((j : Int) - 1).toNat = j - 1 := by omega
      have hx1 : g.toList[j]? = some _ := ‹g.toList[(j : Int).toNat]? = some _›
      have hx2 : g.toList[j - 1]? = some x := by rw [← e1]; exact hx
      refine ⟨(_, _), [(0, 0)], [], ?_, ?_, by (refine ⟨rfl,rfl,rfl,?_,?_⟩;repeat' first|exact trivial|exact rfl|refine And.intro ?_ ?_|refine ⟨_,rfl,?_⟩|decide)⟩
      · refine ⟨j - 1, Sort.swp g j (j - 1), by omega, ?_, by omega, by rw [swp_size, hg], ?_⟩
        · rw [e1]; exact swp_row hx1 hx2
        · exact (insInner_step (d := g) (j := j) (by omega) (by rw [(arr_eq hx1).1, (arr_eq hx2).1]; exact decide_eq_true hc)).symm.trans hJ
      · ((simp only [vM] at *;omega))
    · have e1 : ((j : Int) - 1).toNat = j - 1 := by omega
      have hx1 : g.toList[j]? = some _ := ‹g.toList[(j : Int).toNat]? = some _›
      have hx2 : g.toList[j - 1]? = some x := by rw [← e1]; exact hx
      refine ⟨(_, _), [(0, 0)], [], ?_, ?_, by (refine ⟨rfl,rfl,rfl,?_,?_⟩;repeat' first|exact trivial|exact rfl|refine And.intro ?_ ?_|refine ⟨_,rfl,?_⟩|decide)⟩
      · exact ⟨i + 1, g, by omega, rfl, by omega, by omega, hg, stop fun h => by
          rw [(arr_eq hx1).1, (arr_eq hx2).1] at h
          have := of_decide_eq_true h.2; omega⟩
      · ((simp only [vM] at *;omega))
    · refine ⟨(_, _), [(0, 0)], [], ?_, ?_, by (refine ⟨rfl,rfl,rfl,?_,?_⟩;repeat' first|exact trivial|exact rfl|refine And.intro ?_ ?_|refine ⟨_,rfl,?_⟩|decide)⟩
      · exact ⟨i + 1, g, by omega, rfl, by omega, by omega, hg, stop fun h => by omega⟩
      · ((simp only [vM] at *;omega))
  · have e0 : Sort.insertionSort Sort.ltInt d a b = e := by
      rw [← hI, Sort.insOuter, if_neg (by omega)]
    rw [e0]
    refine ⟨trivial, _, [(0, 0)], [], rfl, .inl (by (repeat' first|exact rfl|refine ⟨_,rfl,?_⟩)), ⟨by rfl, by rfl, by rfl, trivial, by (repeat' first|exact trivial|exact rfl|refine And.intro ?_ ?_|refine ⟨_,rfl,?_⟩|exact of_decide_eq_true rfl)⟩, by (repeat' first|exact trivial|exact rfl|refine And.intro ?_ ?_)⟩
theorem fn_sift_int (d : Array Int) (root hi first : Nat) (hb : first + hi ≤ d.size) (hs : d.size ≤ 1073741824) (hr : root ≤ d.size) :
    Fn Tryz.prog T f_slices_siftDownOrdered_int_ [.own 0, .d (.int .i64 (root : Int)), .d (.int .i64 (hi : Int)), .d (.int .i64 (first : Int))] [rowint d] (.tup []) [some (rowint (Sort.siftDown Sort.ltInt hi first root d))] := by
  refine fn_introR hmix k_slices_siftDownOrdered_int_ (by show 4 ≤ 76; decide) _ (fun e env mem n h => h) ?_
  (repeat' ((conv=>whnf);fail));all_goals try conv=>whnf
  refine loop_mem (fun ((ii, xs) : Int × List D) => [(0, .own 0), (2, .d (.int .i64 ((hi : Int)))), (3, .d (.int .i64 ((first : Int)))), (8, .d (.int .i64 (ii))), (ghostAt, .own 0)]) (fun ((ii, xs) : Int × List D) => [(0, some (.row 1 xs))]) 1 (fun ((ii, xs) : Int × List D) => ∃ (i : Nat) (e : Array Int), ii = i ∧ xs = e.toList.map (D.int .i64) ∧ i ≤ d.size ∧ e.size = d.size ∧ Sort.siftDown Sort.ltInt hi first i e = Sort.siftDown Sort.ltInt hi first root d) (fun ((ii, xs) : Int × List D) => (hi - ii).toNat) (((root : Int), d.toList.map (D.int .i64))) [(0, 0)] [] (⟨root, d, rfl, rfl, hr, rfl, rfl⟩) (by (refine ⟨rfl,rfl,rfl,?_,?_⟩;repeat' first|exact trivial|exact rfl|refine And.intro ?_ ?_|refine ⟨_,rfl,?_⟩|decide)) ?_
  rintro ⟨_, _⟩ ⟨i, e, rfl, rfl, hi0, he, hI⟩
  have hel : e.toList.length = d.size := by rw [Array.length_toList]; exact he
  have stop : 2 * i + 1 ≥ hi → Sort.siftDown Sort.ltInt hi first root d = e := fun h => by rw [← hI, sift_stop h]
  have stop2 : ∀ k, ¬2 * i + 1 ≥ hi → childOf Sort.ltInt hi first i e = k → Sort.ltInt e[first + i]! e[first + k]! = false → Sort.siftDown Sort.ltInt hi first root d = e := fun k h hk hf => by rw [← hI, sift_eq h, hk, hf]; rfl
  have next : ∀ k, ¬2 * i + 1 ≥ hi → childOf Sort.ltInt hi first i e = k → Sort.ltInt e[first + i]! e[first + k]! = true → Sort.siftDown Sort.ltInt hi first k (Sort.swp e (first + i) (first + k)) = Sort.siftDown Sort.ltInt hi first root d := fun k h hk hf => by rw [← hI, sift_eq h, hk, hf, if_pos rfl]
  (repeat' ((conv=>whnf);first|refine vA ?_|refine vE ?_|(refine vF ?_ ?_<;>intro hc<;>try simp only [vL] at hc)|refine vN ‹_› ?_|(refine vQ ?_ fun x hx=>?_;·omega)|((first|refine vO ?_ ?_|refine vP ?_ ?_);·first|omega|(simp only [vM] at *;omega))|(refine vU ?_ ?_;·kernel_rfl)|refine yD (fn_Less_int _ _) ⟨⟨rfl,rfl⟩,⟨rfl,rfl⟩,rfl⟩ rfl ?_));all_goals try conv=>whnf
  · rw [stop (by omega)]; refine ⟨trivial, _, [(0, 0)], [], rfl, .inl (by (repeat' first|exact rfl|refine ⟨_,rfl,?_⟩)), ⟨by rfl, by rfl, by rfl, trivial, by (repeat' first|exact trivial|exact rfl|refine And.intro ?_ ?_|refine ⟨_,rfl,?_⟩|exact of_decide_eq_true rfl)⟩, by (repeat' first|exact trivial|exact rfl|refine And.intro ?_ ?_)⟩
  iterate 4
    · have h1 := arr_at (first + (2 * i + 1)) ‹e.toList[((first : Int) + (2 * (i : Int) + 1)).toNat]? = some _› (by omega)
      have h2 := arr_at (first + (2 * i + 1) + 1) ‹e.toList[((first : Int) + (2 * (i : Int) + 1) + 1).toNat]? = some _› (by omega)
      have h2' : e.toList[first + (2 * i + 2)]? = some _ := h2
      have h3 := arr_at (first + i) ‹e.toList[((first : Int) + (i : Int)).toNat]? = some _› (by omega)
      first
      | (rw [stop2 (2 * i + 2) (by omega) (if_pos ⟨by omega, (lt_at h1 h2).trans (decide_eq_true (by omega))⟩) ((lt_at h3 h2').trans (decide_eq_false (by omega)))]; refine ⟨trivial, _, [(0, 0)], [], rfl, .inl (by (repeat' first|exact rfl|refine ⟨_,rfl,?_⟩)), ⟨by rfl, by rfl, by rfl, trivial, by (repeat' first|exact trivial|exact rfl|refine And.intro ?_ ?_|refine ⟨_,rfl,?_⟩|exact of_decide_eq_true rfl)⟩, by (repeat' first|exact trivial|exact rfl|refine And.intro ?_ ?_)⟩; done)
      | (rw [stop2 (2 * i + 1) (by omega) (if_neg fun h => absurd ((lt_at h1 h2).symm.trans h.2) (by rw [show Sort.ltInt _ _ = false from decide_eq_false (by omega)]; exact Bool.false_ne_true)) ((lt_at h3 h1).trans (decide_eq_false (by omega)))]; refine ⟨trivial, _, [(0, 0)], [], rfl, .inl (by (repeat' first|exact rfl|refine ⟨_,rfl,?_⟩)), ⟨by rfl, by rfl, by rfl, trivial, by (repeat' first|exact trivial|exact rfl|refine And.intro ?_ ?_|refine ⟨_,rfl,?_⟩|exact of_decide_eq_true rfl)⟩, by (repeat' first|exact trivial|exact rfl|refine And.intro ?_ ?_)⟩; done)
      | (refine ⟨(_, _), [(0, 0)], [], ?_, ?_, by (refine ⟨rfl,rfl,rfl,?_,?_⟩;repeat' first|exact trivial|exact rfl|refine And.intro ?_ ?_|refine ⟨_,rfl,?_⟩|decide)⟩
         · exact ⟨2 * i + 2, Sort.swp e (first + i) (first + (2 * i + 2)), by omega, swp_rowI _ _ hx ‹_› (by omega) (by omega), by omega, by rw [swp_size, he], next _ (by omega) (if_pos ⟨by omega, (lt_at h1 h2).trans (decide_eq_true (by omega))⟩) ((lt_at h3 h2').trans (decide_eq_true (by omega)))⟩
         · ((simp only [vM] at *;omega)))
      | (refine ⟨(_, _), [(0, 0)], [], ?_, ?_, by (refine ⟨rfl,rfl,rfl,?_,?_⟩;repeat' first|exact trivial|exact rfl|refine And.intro ?_ ?_|refine ⟨_,rfl,?_⟩|decide)⟩
         · exact ⟨2 * i + 1, Sort.swp e (first + i) (first + (2 * i + 1)), by omega, swp_rowI _ _ hx ‹_› (by omega) (by omega), by omega, by rw [swp_size, he], next _ (by omega) (if_neg fun h => absurd ((lt_at h1 h2).symm.trans h.2) (by rw [show Sort.ltInt _ _ = false from decide_eq_false (by omega)]; exact Bool.false_ne_true)) ((lt_at h3 h1).trans (decide_eq_true (by omega)))⟩
         · ((simp only [vM] at *;omega)))
  iterate 2
    · have h1 := arr_at (first + (2 * i + 1)) ‹e.toList[((first : Int) + (2 * (i : Int) + 1)).toNat]? = some _› (by omega)
      have h3 := arr_at (first + i) ‹e.toList[((first : Int) + (i : Int)).toNat]? = some _› (by omega)
      first
      | (rw [stop2 (2 * i + 1) (by omega) (if_neg fun h => by omega) ((lt_at h3 h1).trans (decide_eq_false (by omega)))]; refine ⟨trivial, _, [(0, 0)], [], rfl, .inl (by (repeat' first|exact rfl|refine ⟨_,rfl,?_⟩)), ⟨by rfl, by rfl, by rfl, trivial, by (repeat' first|exact trivial|exact rfl|refine And.intro ?_ ?_|refine ⟨_,rfl,?_⟩|exact of_decide_eq_true rfl)⟩, by (repeat' first|exact trivial|exact rfl|refine And.intro ?_ ?_)⟩; done)
      | (refine ⟨(_, _), [(0, 0)], [], ?_, ?_, by (refine ⟨rfl,rfl,rfl,?_,?_⟩;repeat' first|exact trivial|exact rfl|refine And.intro ?_ ?_|refine ⟨_,rfl,?_⟩|decide)⟩
         · exact ⟨2 * i + 1, Sort.swp e (first + i) (first + (2 * i + 1)), by omega, swp_rowI _ _ ‹e.toList[((first : Int) + (i : Int)).toNat]? = some _› ‹e.toList[((first : Int) + (2 * (i : Int) + 1)).toNat]? = some _› (by omega) (by omega), by omega, by rw [swp_size, he], next _ (by omega) (if_neg fun h => by omega) ((lt_at h3 h1).trans (decide_eq_true (by omega)))⟩
         · ((simp only [vM] at *;omega)))
theorem fn_sift_int' {xs : List D} (d : Array Int) (ex : xs = d.toList.map (D.int .i64)) {root hi first : Nat} {ri hii fi : Int} (er : ri = root) (eh : hii = hi) (ef : fi = first) (hb : first + hi ≤ d.size) (hs : d.size ≤ 1073741824) (hr : root ≤ d.size) :
    Fn Tryz.prog T f_slices_siftDownOrdered_int_ [.own 0, .d (.int .i64 ri), .d (.int .i64 hii), .d (.int .i64 fi)] [.row 1 xs] (.tup []) [some (rowint (Sort.siftDown Sort.ltInt hi first root d))] := by
  subst er; subst eh; subst ef; subst ex; exact fn_sift_int d root hi first hb hs hr
theorem fn_ins_int' (d : Array Int) {a b : Nat} {ai bi : Int} (ea : ai = a) (eb : bi = b) (hb : b ≤ d.size) (hs : d.size ≤ 1073741824) (ha : a ≤ b) :
    Fn Tryz.prog T f_slices_insertionSortOrdered_int_ [.own 0, .d (.int .i64 ai), .d (.int .i64 bi)] [rowint d] (.tup []) [some (rowint (Sort.insertionSort Sort.ltInt d a b))] := by
  subst ea; subst eb; exact fn_ins_int d a b hb hs ha
end Go.Ab
namespace Go.Ab
open Go Go.Proofs
set_option linter.unusedSimpArgs false
set_option linter.unusedVariables false
set_option maxRecDepth 10000
set_option maxHeartbeats 4000000
variable {T:Nat→Obj→Prop}
abbrev box1int (s:Nat):Ob := .box [.d (.int .i64 (s:Int))]
theorem fn_order2_int (d:Array Int) {a b s:Nat} {ai bi:Int} (ea:ai=a) (eb:bi=b) (ha:a < d.size) (hb:b < d.size) (hs:s≤1000) :
  Fn Tryz.prog T f_slices_order2Ordered_int_ [.own 0,.d (.int .i64 ai),.d (.int .i64 bi),.ptr 1 0] [rowint d,box1int s] (.tup [.d (.int .i64 ((Sort.order2 Sort.ltInt d a b s).1:Int)),.d (.int .i64 ((Sort.order2 Sort.ltInt d a b s).2.1:Int))])
   [some (rowint d),some (box1int (Sort.order2 Sort.ltInt d a b s).2.2)]:=by
 subst ea;subst eb
 have hl:d.toList.length=d.size:=Array.length_toList
 refine fn_introR hmix k_slices_order2Ordered_int_ (by show 4≤28;decide) _ (fun e env mem n h=>h) ?_
 (repeat' ((conv=>whnf);first|refine vA ?_|(refine vF ?_ ?_<;>intro hc<;>try simp only [vL] at hc)|(refine vQ ?_ fun x hx=>?_;·omega)|((first|refine vO ?_ ?_|refine vP ?_ ?_);·first|omega|(simp only [vM] at *;omega))|(refine vU ?_ ?_;·kernel_rfl)|refine yD (fn_Less_int _ _) ⟨⟨rfl,rfl⟩,⟨rfl,rfl⟩,rfl⟩ rfl ?_));all_goals try conv=>whnf
 ·have h1:d.toList[b]? = some _:=‹d.toList[(b:Int).toNat]? = some _›
  have h2:d.toList[a]? = some _:=‹d.toList[(a:Int).toNat]? = some _›
  rw [show Sort.order2 Sort.ltInt d a b s=(b,a,s+1) by rw [Sort.order2,if_pos ((lt_at h1 h2).trans (decide_eq_true (by omega)))]]
  refine ⟨trivial,_,[(0,0),(1,1)],[],rfl,.inl (by (repeat' first|exact rfl|refine And.intro ?_ ?_|refine ⟨_,rfl,?_⟩)),⟨by rfl,by rfl,by rfl,trivial,by (repeat' first|exact trivial|exact rfl|refine And.intro ?_ ?_|refine ⟨_,rfl,?_⟩|exact of_decide_eq_true rfl)⟩,by (repeat' first|exact trivial|exact rfl|refine And.intro ?_ ?_|refine ⟨_,rfl,?_⟩)⟩
 ·have h1:d.toList[b]? = some _:=‹d.toList[(b:Int).toNat]? = some _›
  have h2:d.toList[a]? = some _:=‹d.toList[(a:Int).toNat]? = some _›
  rw [show Sort.order2 Sort.ltInt d a b s=(a,b,s) by rw [Sort.order2,if_neg (by rw [lt_at (lt:=Sort.ltInt) h1 h2];exact Bool.eq_false_iff.1 (decide_eq_false (by omega)))]]
  refine ⟨trivial,_,[(0,0),(1,1)],[],rfl,.inl (by (repeat' first|exact rfl|refine And.intro ?_ ?_|refine ⟨_,rfl,?_⟩)),⟨by rfl,by rfl,by rfl,trivial,by (repeat' first|exact trivial|exact rfl|refine And.intro ?_ ?_|refine ⟨_,rfl,?_⟩|exact of_decide_eq_true rfl)⟩,by (repeat' first|exact trivial|exact rfl|refine And.intro ?_ ?_|refine ⟨_,rfl,?_⟩)⟩
theorem order2_lt_int (d:Array Int) {a b s m:Nat} (ha:a < m) (hb:b < m):(Sort.order2 Sort.ltInt d a b s).1 < m∧(Sort.order2 Sort.ltInt d a b s).2.1 < m∧(Sort.order2 Sort.ltInt d a b s).2.2≤s+1:=by
 unfold Sort.order2
 split
 ·exact ⟨hb,ha,Nat.le_refl _⟩
 ·exact ⟨ha,hb,Nat.le_succ _⟩
theorem fn_median_int (d:Array Int) {a b c s:Nat} {ai bi ci:Int} (ea:ai=a) (eb:bi=b) (ec:ci=c) (ha:a < d.size) (hb:b < d.size) (hc:c < d.size) (hs:s≤100) :
  Fn Tryz.prog T f_slices_medianOrdered_int_ [.own 0,.d (.int .i64 ai),.d (.int .i64 bi),.d (.int .i64 ci),.ptr 1 0] [rowint d,box1int s] (.d (.int .i64 ((Sort.median Sort.ltInt d a b c s).1:Int)))
   [some (rowint d),some (box1int (Sort.median Sort.ltInt d a b c s).2)]:=by
 refine fn_introR hmix k_slices_medianOrdered_int_ (by show 5≤36;decide) _ (fun e env mem n h=>h) ?_
 have g1:=order2_lt_int d (s:=s) ha hb
 have g2:=order2_lt_int d (s:=(Sort.order2 Sort.ltInt d a b s).2.2) g1.2.1 hc
 (repeat' ((conv=>whnf);fail));all_goals try conv=>whnf
 refine CallS.objs [0,1] (fn_order2_int d (s:=s) ea eb ha hb (by omega)) (by (repeat' first|exact rfl|refine And.intro ?_ ?_|refine ⟨_,rfl,?_⟩)) (by (repeat' first|exact rfl|refine And.intro ?_ ?_|refine ⟨_,rfl,?_⟩)) (by rfl) (by rfl) (by simp) ?_
 (repeat' ((conv=>whnf);fail));all_goals try conv=>whnf
 refine CallS.objs [0,1] (fn_order2_int d (s:=(Sort.order2 Sort.ltInt d a b s).2.2) rfl ec g1.2.1 hc (by omega)) (by (repeat' first|exact rfl|refine And.intro ?_ ?_|refine ⟨_,rfl,?_⟩)) (by (repeat' first|exact rfl|refine And.intro ?_ ?_|refine ⟨_,rfl,?_⟩)) (by rfl) (by rfl) (by simp) ?_
 (repeat' ((conv=>whnf);fail));all_goals try conv=>whnf
 refine CallS.objs [0,1] (fn_order2_int d (s:=(Sort.order2 Sort.ltInt d (Sort.order2 Sort.ltInt d a b s).2.1 c (Sort.order2 Sort.ltInt d a b s).2.2).2.2) rfl rfl g1.1 g2.1 (by omega)) (by (repeat' first|exact rfl|refine And.intro ?_ ?_|refine ⟨_,rfl,?_⟩)) (by (repeat' first|exact rfl|refine And.intro ?_ ?_|refine ⟨_,rfl,?_⟩)) (by rfl) (by rfl) (by simp) ?_
 (repeat' ((conv=>whnf);fail));all_goals try conv=>whnf
 refine ⟨trivial,_,[(0,0),(1,1)],[],rfl,.inl (by (repeat' exact rfl)),⟨by rfl,by rfl,by rfl,trivial,by (repeat' first|exact trivial|exact rfl|refine And.intro ?_ ?_|refine ⟨_,rfl,?_⟩|exact of_decide_eq_true rfl)⟩,by (repeat' first|exact trivial|exact rfl|refine And.intro ?_ ?_|refine ⟨_,rfl,?_⟩)⟩
theorem fn_medAdj_int (d:Array Int) {a s:Nat} {ai:Int} (ea:ai=a) (ha:a+1 < d.size) (h0:0 < a) (hs:s≤100) (hz:d.size≤1073741824) :
  Fn Tryz.prog T f_slices_medianAdjacentOrdered_int_ [.own 0,.d (.int .i64 ai),.ptr 1 0] [rowint d,box1int s] (.d (.int .i64 ((Sort.medianAdjacent Sort.ltInt d a s).1:Int)))
   [some (rowint d),some (box1int (Sort.medianAdjacent Sort.ltInt d a s).2)]:=by
 refine fn_introR hmix k_slices_medianAdjacentOrdered_int_ (by show 3≤15;decide) _ (fun e env mem n h=>h) ?_
 (repeat' ((conv=>whnf);first|(refine vO ?_ ?_;·omega)|fail));all_goals try conv=>whnf
 refine CallS.objs [0,1] (fn_median_int d (s:=s) (a:=a - 1) (b:=a) (c:=a+1) (ai:=ai - 1) (bi:=ai) (ci:=ai+1) (by omega) (by omega) (by omega) (by omega) (by omega) (by omega) hs) (by (repeat' first|exact rfl|refine And.intro ?_ ?_|refine ⟨_,rfl,?_⟩)) (by (repeat' first|exact rfl|refine And.intro ?_ ?_|refine ⟨_,rfl,?_⟩)) (by rfl) (by rfl) (by simp) ?_
 (repeat' ((conv=>whnf);fail));all_goals try conv=>whnf
 refine ⟨trivial,_,[(0,0),(1,1)],[],rfl,.inl (by (repeat' exact rfl)),⟨by rfl,by rfl,by rfl,trivial,by (repeat' first|exact trivial|exact rfl|refine And.intro ?_ ?_|refine ⟨_,rfl,?_⟩|exact of_decide_eq_true rfl)⟩,by (repeat' first|exact trivial|exact rfl|refine And.intro ?_ ?_|refine ⟨_,rfl,?_⟩)⟩
theorem fn_rev_int (d:Array Int) {a b:Nat} {ai bi:Int} (ea:ai=a) (eb:bi=b) (hab:a < b) (hb:b≤d.size) (hs:d.size≤1073741824) :
  Fn Tryz.prog T f_slices_reverseRangeOrdered_int_ [.own 0,.d (.int .i64 ai),.d (.int .i64 bi)] [rowint d] (.tup []) [some (rowint (Sort.reverseRange d a b))]:=by
 subst ea;subst eb
 refine fn_introR hmix k_slices_reverseRangeOrdered_int_ (by show 3≤32;decide) _ (fun e env mem n h=>h) ?_
 (repeat' ((conv=>whnf);first|(refine vO ?_ ?_;·omega)|fail));all_goals try conv=>whnf
 refine loop_mem (fun ((ii,jj,xs):Int×Int×List D)=>[(0,.own 0),(6,.d (.int .i64 (ii))),(7,.d (.int .i64 (jj))),(ghostAt,.own 0)]) (fun ((ii,jj,xs):Int×Int×List D)=>[(0,some (.row 1 xs))]) 1 (fun ((ii,jj,xs):Int×Int×List D) => ∃ (i j:Nat) (e:Array Int),ii=i∧jj=j∧xs=e.toList.map (D.int .i64)∧i≤d.size∧j < d.size∧e.size=d.size∧Sort.reverseLoop i j e=Sort.reverseRange d a b) (fun ((ii,jj,xs):Int×Int×List D)=>(jj - ii).toNat) (((a:Int),(b:Int) - 1,d.toList.map (D.int .i64))) [(0,0)] [] (⟨a,b - 1,d,rfl,by omega,rfl,by omega,by omega,rfl,rfl⟩) (by (refine ⟨rfl,rfl,rfl,?_,?_⟩;repeat' first|exact trivial|exact rfl|refine And.intro ?_ ?_|refine ⟨_,rfl,?_⟩|decide)) ?_
 rintro ⟨_,_,_⟩ ⟨i,j,e,rfl,rfl,rfl,hi,hj,he,hI⟩
 have hel:e.toList.length=d.size:=by rw [Array.length_toList];exact he
 (repeat' ((conv=>whnf);first|refine vA ?_|(refine vF ?_ ?_<;>intro hc<;>try simp only [vL] at hc)|(refine vQ ?_ fun x hx=>?_;·omega)|((first|refine vO ?_ ?_|refine vP ?_ ?_);·first|omega|(simp only [vM] at *;omega))|(refine vU ?_ ?_;·kernel_rfl)|fail));all_goals try conv=>whnf
 ·have h1:e.toList[i]? = some _:=‹e.toList[(i:Int).toNat]? = some _›
  have h2:e.toList[j]? = some _:=‹e.toList[(j:Int).toNat]? = some _›
  refine ⟨(_,_,_),[(0,0)],[],?_,?_,by (refine ⟨rfl,rfl,rfl,?_,?_⟩;repeat' first|exact trivial|exact rfl|refine And.intro ?_ ?_|refine ⟨_,rfl,?_⟩|decide)⟩
  ·exact ⟨i+1,j - 1,Sort.swp e i j,by omega,by omega,swp_row h1 h2,by omega,by omega,by rw [swp_size,he],(rev_next (i:=i) (j:=j) (d:=e) (by omega)).symm.trans hI⟩
  ·((simp only [vM] at *;omega))
 ·rw [show Sort.reverseRange d a b=e by rw [← hI,rev_stop (by omega)]]
  refine ⟨trivial,_,[(0,0)],[],rfl,.inl (by (repeat' first|exact rfl|refine ⟨_,rfl,?_⟩)),⟨by rfl,by rfl,by rfl,trivial,by (repeat' first|exact trivial|exact rfl|refine And.intro ?_ ?_|refine ⟨_,rfl,?_⟩|exact of_decide_eq_true rfl)⟩,by (repeat' first|exact trivial|exact rfl|refine And.intro ?_ ?_)⟩
theorem fn_heap_int (d:Array Int) {a b:Nat} {ai bi:Int} (ea:ai=a) (eb:bi=b) (hab:a < b) (hb:b≤d.size) (hs:d.size≤1073741824) :
  Fn Tryz.prog T f_slices_heapSortOrdered_int_ [.own 0,.d (.int .i64 ai),.d (.int .i64 bi)] [rowint d] (.tup []) [some (rowint (Sort.heapSort Sort.ltInt d a b))]:=by
 subst ea;subst eb
 have hq:((b:Int) - (a:Int) - 1).tdiv 2=((b - a - 1) / 2:Nat):=by rw [Int.tdiv_eq_ediv_of_nonneg (by omega)];omega
 refine fn_introR hmix k_slices_heapSortOrdered_int_ (by show 3≤56;decide) _ (fun e env mem n h=>h) ?_
 (repeat' ((conv=>whnf);first|refine vA ?_|((first|refine vO ?_ ?_|refine vP ?_ ?_);·omega)|fail));all_goals try conv=>whnf
 refine loop_mem (fun ((ii,xs):Int×List D)=>[(0,.own 0),(6,.d (.int .i64 ((a:Int)))),(7,.d (.int .i64 (0))),(8,.d (.int .i64 (((b:Int) - (a:Int))))),(9,.d (.int .i64 (ii))),(ghostAt,.own 0)]) (fun ((ii,xs):Int×List D)=>[(0,some (.row 1 xs))]) 1 (fun ((ii,xs):Int×List D) => ∃ (k:Nat) (e:Array Int),ii=(k:Int) - 1∧xs=e.toList.map (D.int .i64)∧k≤(b - a - 1) / 2+1∧e.size=d.size∧Sort.heapBuild Sort.ltInt (b - a) a k e=Sort.heapBuild Sort.ltInt (b - a) a ((b - a - 1) / 2+1) d) (fun ((ii,xs):Int×List D)=>(ii+1).toNat) ((((b:Int) - (a:Int) - 1).tdiv 2,d.toList.map (D.int .i64))) [(0,0)] [] (⟨(b - a - 1) / 2+1,d,by omega,rfl,by omega,rfl,rfl⟩) (by (refine ⟨rfl,rfl,rfl,?_,?_⟩;repeat' first|exact trivial|exact rfl|refine And.intro ?_ ?_|refine ⟨_,rfl,?_⟩|decide)) ?_
 rintro ⟨_,_⟩ ⟨k,e,rfl,rfl,hk,he,hI⟩
 (repeat' ((conv=>whnf);first|refine vA ?_|(refine vF ?_ ?_<;>intro hc<;>try simp only [vL] at hc)|(refine vO ?_ ?_;·omega)|fail));all_goals try conv=>whnf
 ·obtain ⟨k,rfl⟩ : ∃ m,k=m+1:=⟨k - 1,by omega⟩
  refine CallS.objs [0] (fn_sift_int' e rfl (root:=k) (hi:=b - a) (first:=a) (ri:=((k+1:Nat):Int) - 1) (hii:=(b:Int) - (a:Int)) (fi:=(a:Int)) (by omega) (by omega) rfl (by omega) (by omega) (by omega)) (by (repeat' first|exact rfl|refine And.intro ?_ ?_|refine ⟨_,rfl,?_⟩)) (by (repeat' first|exact rfl|refine And.intro ?_ ?_)) (by rfl) (by rfl) (by simp) ?_
  (repeat' ((conv=>whnf);first|(refine vO ?_ ?_;·omega)|fail));all_goals try conv=>whnf
  refine ⟨(_,_),[(0,0)],[],?_,?_,by (refine ⟨rfl,rfl,rfl,?_,?_⟩;repeat' first|exact trivial|exact rfl|refine And.intro ?_ ?_|refine ⟨_,rfl,?_⟩|decide)⟩
  ·exact ⟨k,Sort.siftDown Sort.ltInt (b - a) a k e,by omega,rfl,by omega,by rw [siftDown_size,he],by rw [← hI];rfl⟩
  ·((simp only [vM] at *;omega))
 ·have hk0:k=0:=by omega
  subst hk0
  have hI':e=Sort.heapBuild Sort.ltInt (b - a) a ((b - a - 1) / 2+1) d:=hI
  refine loop_mem (fun ((ii,xs):Int×List D)=>[(0,.own 0),(6,.d (.int .i64 ((a:Int)))),(7,.d (.int .i64 (0))),(10,.d (.int .i64 (ii))),(ghostAt,.own 0)]) (fun ((ii,xs):Int×List D)=>[(0,some (.row 1 xs))]) 1 (fun ((ii,xs):Int×List D) => ∃ (k:Nat) (g:Array Int),ii=(k:Int) - 1∧xs=g.toList.map (D.int .i64)∧k≤b - a∧g.size=d.size∧Sort.heapPop Sort.ltInt a k g=Sort.heapSort Sort.ltInt d a b) (fun ((ii,xs):Int×List D)=>(ii+1).toNat) (((b:Int) - (a:Int) - 1,e.toList.map (D.int .i64))) [(0,0)] [] (⟨b - a,e,by omega,rfl,by omega,he,by rw [Sort.heapSort,← hI']⟩) (by (refine ⟨rfl,rfl,rfl,?_,?_⟩;repeat' first|exact trivial|exact rfl|refine And.intro ?_ ?_|refine ⟨_,rfl,?_⟩|decide)) ?_
  rintro ⟨_,_⟩ ⟨k,g,rfl,rfl,hk,hg,hJ⟩
  have hgl:g.toList.length=d.size:=by rw [Array.length_toList];exact hg
  (repeat' ((conv=>whnf);first|refine vA ?_|(refine vF ?_ ?_<;>intro hc<;>try simp only [vL] at hc)|(refine vQ ?_ fun x hx=>?_;·omega)|((first|refine vO ?_ ?_|refine vP ?_ ?_);·first|omega|(simp only [vM] at *;omega))|(refine vU ?_ ?_;·kernel_rfl)|fail));all_goals try conv=>whnf
  ·obtain ⟨k,rfl⟩ : ∃ m,k=m+1:=⟨k - 1,by omega⟩
   have h1:g.toList[a]? = some _:=‹g.toList[(a:Int).toNat]? = some _›
   have h2:=arr_at (a+k) ‹g.toList[((a:Int)+(((k+1:Nat):Int) - 1)).toNat]? = some _› (by omega)
   have er:=swp_rowI (enc:=(D.int .i64)) (i:=(a:Int)) (j:=(a:Int)+(((k+1:Nat):Int) - 1)) a (a+k) h1 ‹g.toList[((a:Int)+(((k+1:Nat):Int) - 1)).toNat]? = some _› rfl (by omega)
   refine CallS.objs [0] (fn_sift_int' (Sort.swp g a (a+k)) er (root:=0) (hi:=k) (first:=a) (ri:=0) (hii:=((k+1:Nat):Int) - 1) (fi:=(a:Int)) rfl (by omega) rfl (by rw [swp_size];omega) (by rw [swp_size];omega) (by omega)) (by (repeat' first|exact rfl|refine And.intro ?_ ?_|refine ⟨_,rfl,?_⟩)) (by (repeat' first|exact rfl|refine And.intro ?_ ?_)) (by rfl) (by rfl) (by simp) ?_
   (repeat' ((conv=>whnf);first|(refine vO ?_ ?_;·omega)|fail));all_goals try conv=>whnf
   refine ⟨(_,_),[(0,0)],[],?_,?_,by (refine ⟨rfl,rfl,rfl,?_,?_⟩;repeat' first|exact trivial|exact rfl|refine And.intro ?_ ?_|refine ⟨_,rfl,?_⟩|decide)⟩
   ·exact ⟨k,Sort.siftDown Sort.ltInt k a 0 (Sort.swp g a (a+k)),by omega,rfl,by omega,by rw [siftDown_size,swp_size,hg],by rw [← hJ];rfl⟩
   ·((simp only [vM] at *;omega))
  ·have hk0:k=0:=by omega
   subst hk0
   rw [show Sort.heapSort Sort.ltInt d a b=g from hJ.symm]
   refine ⟨trivial,_,[(0,0)],[],rfl,.inl (by (repeat' first|exact rfl|refine ⟨_,rfl,?_⟩)),⟨by rfl,by rfl,by rfl,trivial,by (repeat' first|exact trivial|exact rfl|refine And.intro ?_ ?_|refine ⟨_,rfl,?_⟩|exact of_decide_eq_true rfl)⟩,by (repeat' first|exact trivial|exact rfl|refine And.intro ?_ ?_)⟩
end Go.Ab
namespace Go.Ab
open Go Go.Proofs
set_option linter.unusedSimpArgs false
set_option linter.unusedVariables false
set_option maxRecDepth 10000
set_option maxHeartbeats 4000000
variable {T:Nat→Obj→Prop}
theorem fn_brk_int (d:Array Int) {a b:Nat} {ai bi:Int} (ea:ai=a) (eb:bi=b) (hab:a+8≤b) (hb:b≤d.size) (hs:d.size≤536870912) :
  Fn Tryz.prog T f_slices_breakPatternsOrdered_int_ [.own 0,.d (.int .i64 ai),.d (.int .i64 bi)] [rowint d] (.tup []) [some (rowint (Sort.breakPatterns d a b))]:=by
 subst ea;subst eb
 have hq:((b:Int) - (a:Int)).tdiv 4=((b - a) / 4:Nat):=by rw [Int.tdiv_eq_ediv_of_nonneg (by omega)];omega
 refine fn_introR hmix k_slices_breakPatternsOrdered_int_ (by show 3≤65;decide) _ (fun e env mem n h=>h) ?_
 (repeat' ((conv=>whnf);first|(refine vF ?_ ?_<;>intro hc<;>try simp only [vL] at hc)|(refine vO ?_ ?_;·omega)|fail));all_goals try conv=>whnf
 ·refine CallS.dataN (fn_npow (n:=(b:Int) - (a:Int)) (b - a) (by omega) (by omega)) (by (repeat refine ⟨⟨rfl,rfl⟩,?_⟩);rfl) ?_
  (repeat' ((conv=>whnf);first|((first|refine vO ?_ ?_|refine vP ?_ ?_);·omega)|fail));all_goals try conv=>whnf
  refine loop_mem (fun ((ii,r,xs):Int×BitVec 64×List D)=>[(0,.own 0),(1,.d (.int .i64 ((a:Int)))),(6,.d (.int .i64 (((b:Int) - (a:Int))))),(7,.ptr 1 0),(8,.d (.u64 (1#64 <<< Sort.bitsLen (b - a)))),(9,.d (.int .i64 (ii))),(ghostAt,.own 0)]) (fun ((ii,r,xs):Int×BitVec 64×List D)=>[(0,some (.row 1 xs)),(1,some (.box [.d (.u64 r)]))]) 2 (fun ((ii,r,xs):Int×BitVec 64×List D) => ∃ k:Nat,ii=((a+(b - a) / 4 * 2 - 1+k:Nat):Int)∧r=(brk d a b k).1.toBitVec∧xs=(brk d a b k).2.toList.map (D.int .i64)∧k≤3) (fun ((ii,r,xs):Int×BitVec 64×List D)=>((a:Int)+((b - a) / 4 * 2+2:Nat) - ii).toNat) (((a:Int)+((b:Int) - (a:Int)).tdiv 4 * 2 - 1,BitVec.ofInt 64 ((b:Int) - (a:Int)),d.toList.map (D.int .i64))) [(0,0),(1,1)] [] (⟨0,by omega,by rw [show ((b:Int) - (a:Int))=((b - a:Nat):Int) by omega];rfl,rfl,by omega⟩) (by (refine ⟨rfl,rfl,rfl,?_,?_⟩;repeat' first|exact trivial|exact rfl|refine And.intro ?_ ?_|refine ⟨_,rfl,?_⟩|decide)) ?_
  rintro ⟨_,_,_⟩ ⟨k,rfl,rfl,rfl,hk⟩
  have hol:=other_lt (l:=b - a) (by omega) (Sort.xorNext (brk d a b k).1)
  have hm:=and_mask (b - a) (by omega) (Sort.xorNext (brk d a b k).1)
  have hoe:otherOf (b - a) (Sort.xorNext (brk d a b k).1)=if ((Sort.xorNext (brk d a b k).1).toNat&&&((1 <<< Sort.bitsLen (b - a)) - 1)) ≥ b - a then ((Sort.xorNext (brk d a b k).1).toNat&&&((1 <<< Sort.bitsLen (b - a)) - 1)) - (b - a) else ((Sort.xorNext (brk d a b k).1).toNat&&&((1 <<< Sort.bitsLen (b - a)) - 1)):=rfl
  have hel:(brk d a b k).2.toList.length=d.size:=by rw [Array.length_toList];exact brk_size d a b k
  (repeat' ((conv=>whnf);first|refine vA ?_|(refine vF ?_ ?_<;>intro hc<;>try simp only [vL] at hc)|((first|refine vO ?_ ?_|refine vP ?_ ?_);·omega)|fail));all_goals try conv=>whnf
  ·refine CallS.objs [1] (fn_Next _) (by (repeat' first|exact rfl|refine And.intro ?_ ?_|refine ⟨_,rfl,?_⟩)) (by (repeat' first|exact rfl|refine And.intro ?_ ?_|refine ⟨_,rfl,?_⟩)) (by rfl) (by rfl) (by simp) ?_
   have hx:xnB (brk d a b k).1.toBitVec=(Sort.xorNext (brk d a b k).1).toBitVec:=(xn_eq _).symm
   rw [hx]
   have hm':((Sort.xorNext (brk d a b k).1).toBitVec&&&(1#64 <<< Sort.bitsLen (b - a) - (1:BitVec 64))).toNat=(Sort.xorNext (brk d a b k).1).toNat&&&((1 <<< Sort.bitsLen (b - a)) - 1):=hm
   (repeat' ((conv=>whnf);first|refine vA ?_|(refine vF ?_ ?_<;>intro hc<;>try simp only [vL] at hc)|(refine vQ ?_ fun x hx=>?_;·omega)|((first|refine vO ?_ ?_|refine vP ?_ ?_);·first|omega|(simp only [vM] at *;omega))|(refine vU ?_ ?_;·kernel_rfl)|fail));all_goals try conv=>whnf
   ·have hoe':=hoe.trans (if_pos (by omega))
    refine ⟨(_,_,_),[(0,0),(1,1)],[],?_,?_,by (refine ⟨rfl,rfl,rfl,?_,?_⟩;repeat' first|exact trivial|exact rfl|refine And.intro ?_ ?_|refine ⟨_,rfl,?_⟩|decide)⟩
    ·refine ⟨k+1,by omega,rfl,?_,by omega⟩
     rw [brk,breakStep_eq,hoe']
     exact swp_rowI _ _ hx ‹_› (by omega) (by omega)
    ·((simp only [vM] at *;omega))
   ·have hoe':=hoe.trans (if_neg (by omega))
    refine ⟨(_,_,_),[(0,0),(1,1)],[],?_,?_,by (refine ⟨rfl,rfl,rfl,?_,?_⟩;repeat' first|exact trivial|exact rfl|refine And.intro ?_ ?_|refine ⟨_,rfl,?_⟩|decide)⟩
    ·refine ⟨k+1,by omega,rfl,?_,by omega⟩
     rw [brk,breakStep_eq,hoe']
     exact swp_rowI _ _ hx ‹_› (by omega) (by omega)
    ·((simp only [vM] at *;omega))
  ·have hk3:k=3:=by omega
   subst hk3
   rw [brk_eq (by omega)]
   refine ⟨trivial,_,[(0,0)],[],rfl,.inl (by (repeat' first|exact rfl|refine ⟨_,rfl,?_⟩)),⟨by rfl,by rfl,by rfl,trivial,by (repeat' first|exact trivial|exact rfl|refine And.intro ?_ ?_|refine ⟨_,rfl,?_⟩|exact of_decide_eq_true rfl)⟩,by (repeat' first|exact trivial|exact rfl|refine And.intro ?_ ?_)⟩
 ·omega
theorem fn_pivot_int (d:Array Int) {a b:Nat} {ai bi:Int} (ea:ai=a) (eb:bi=b) (hab:a+8≤b) (hb:b≤d.size) (hs:d.size≤536870912) :
  Fn Tryz.prog T f_slices_choosePivotOrdered_int_ [.own 0,.d (.int .i64 ai),.d (.int .i64 bi)] [rowint d] (.tup [.d (.int .i64 ((Sort.choosePivot Sort.ltInt d a b).1:Int)),.d (.int .i64 (Sort.hintCode (Sort.choosePivot Sort.ltInt d a b).2))]) [some (rowint d)]:=by
 subst ea;subst eb
 have hq:((b:Int) - (a:Int)).tdiv 4=((b - a) / 4:Nat):=by rw [Int.tdiv_eq_ediv_of_nonneg (by omega)];omega
 have fin : ∀ p s:Nat,Sort.rawPivot Sort.ltInt d a b=(p,s)→Sort.choosePivot Sort.ltInt d a b=(p,Sort.hintOf s):=fun p s h=>by rw [Sort.choosePivot_eq,h]
 refine fn_introR hmix k_slices_choosePivotOrdered_int_ (by show 3≤57;decide) _ (fun e env mem n h=>h) ?_
 (repeat' ((conv=>whnf);first|refine vA ?_|refine vG ?_|(refine vF ?_ ?_<;>intro hc<;>try simp only [vL] at hc)|((first|refine vO ?_ ?_|refine vP ?_ ?_);·omega)|fail));all_goals try conv=>whnf
 ·have m1:=Sort.medianAdjacent_mem Sort.ltInt d (a+(b - a) / 4 * 1) 0
  have c1:=Sort.medianAdjacent_count Sort.ltInt d (a+(b - a) / 4 * 1) 0
  have hraw:Sort.rawPivot Sort.ltInt d a b=_:=(if_pos (by omega)).trans (if_pos (by omega))
  refine CallS.objs [0,1] (fn_medAdj_int d (s:=0) (a:=a+(b - a) / 4 * 1) (ai:=(a:Int)+((b:Int) - (a:Int)).tdiv 4 * 1) (by omega) (by omega) (by omega) (by omega) (by omega)) (by (repeat' first|exact rfl|refine And.intro ?_ ?_|refine ⟨_,rfl,?_⟩)) (by (repeat' first|exact rfl|refine And.intro ?_ ?_|refine ⟨_,rfl,?_⟩)) (by rfl) (by rfl) (by simp) ?_
  generalize Sort.medianAdjacent Sort.ltInt d (a+(b - a) / 4 * 1) 0=r1 at m1 c1 hraw
  (repeat' ((conv=>whnf);fail));all_goals try conv=>whnf
  have m2:=Sort.medianAdjacent_mem Sort.ltInt d (a+(b - a) / 4 * 2) r1.2
  have c2:=Sort.medianAdjacent_count Sort.ltInt d (a+(b - a) / 4 * 2) r1.2
  refine CallS.objs [0,1] (fn_medAdj_int d (s:=r1.2) (a:=a+(b - a) / 4 * 2) (ai:=(a:Int)+((b:Int) - (a:Int)).tdiv 4 * 2) (by omega) (by omega) (by omega) (by omega) (by omega)) (by (repeat' first|exact rfl|refine And.intro ?_ ?_|refine ⟨_,rfl,?_⟩)) (by (repeat' first|exact rfl|refine And.intro ?_ ?_|refine ⟨_,rfl,?_⟩)) (by rfl) (by rfl) (by simp) ?_
  generalize Sort.medianAdjacent Sort.ltInt d (a+(b - a) / 4 * 2) r1.2=r2 at m2 c2 hraw
  (repeat' ((conv=>whnf);fail));all_goals try conv=>whnf
  have m3:=Sort.medianAdjacent_mem Sort.ltInt d (a+(b - a) / 4 * 3) r2.2
  have c3:=Sort.medianAdjacent_count Sort.ltInt d (a+(b - a) / 4 * 3) r2.2
  refine CallS.objs [0,1] (fn_medAdj_int d (s:=r2.2) (a:=a+(b - a) / 4 * 3) (ai:=(a:Int)+((b:Int) - (a:Int)).tdiv 4 * 3) (by omega) (by omega) (by omega) (by omega) (by omega)) (by (repeat' first|exact rfl|refine And.intro ?_ ?_|refine ⟨_,rfl,?_⟩)) (by (repeat' first|exact rfl|refine And.intro ?_ ?_|refine ⟨_,rfl,?_⟩)) (by rfl) (by rfl) (by simp) ?_
  generalize Sort.medianAdjacent Sort.ltInt d (a+(b - a) / 4 * 3) r2.2=r3 at m3 c3 hraw
  (repeat' ((conv=>whnf);fail));all_goals try conv=>whnf
  refine CallS.objs [0,1] (fn_median_int d (s:=r3.2) (a:=r1.1) (b:=r2.1) (c:=r3.1) rfl rfl rfl (by omega) (by omega) (by omega) (by omega)) (by (repeat' first|exact rfl|refine And.intro ?_ ?_|refine ⟨_,rfl,?_⟩)) (by (repeat' first|exact rfl|refine And.intro ?_ ?_|refine ⟨_,rfl,?_⟩)) (by rfl) (by rfl) (by simp) ?_
  generalize Sort.median Sort.ltInt d r1.1 r2.1 r3.1 r3.2=r4 at hraw
  obtain ⟨p,q⟩:=r4
  (repeat' ((conv=>whnf);(refine vF ?_ ?_<;>intro hc<;>try simp only [vL] at hc)));all_goals try conv=>whnf
  ·rw [fin _ _ hraw,show Sort.hintOf _ = .increasing from if_pos (by omega)];refine ⟨trivial,_,[(0,0)],[],rfl,.inl (by (repeat' first|exact rfl|refine And.intro ?_ ?_|refine ⟨_,rfl,?_⟩)),⟨by rfl,by rfl,by rfl,trivial,by (repeat' first|exact trivial|exact rfl|refine And.intro ?_ ?_|refine ⟨_,rfl,?_⟩|exact of_decide_eq_true rfl)⟩,by (repeat' first|exact trivial|exact rfl|refine And.intro ?_ ?_)⟩
  ·rw [fin _ _ hraw,show Sort.hintOf _ = .decreasing from (if_neg (by omega)).trans (if_pos (by omega))];refine ⟨trivial,_,[(0,0)],[],rfl,.inl (by (repeat' first|exact rfl|refine And.intro ?_ ?_|refine ⟨_,rfl,?_⟩)),⟨by rfl,by rfl,by rfl,trivial,by (repeat' first|exact trivial|exact rfl|refine And.intro ?_ ?_|refine ⟨_,rfl,?_⟩|exact of_decide_eq_true rfl)⟩,by (repeat' first|exact trivial|exact rfl|refine And.intro ?_ ?_)⟩
  ·rw [fin _ _ hraw,show Sort.hintOf _ = .unknown from (if_neg (by omega)).trans (if_neg (by omega))];refine ⟨trivial,_,[(0,0)],[],rfl,.inl (by (repeat' first|exact rfl|refine And.intro ?_ ?_|refine ⟨_,rfl,?_⟩)),⟨by rfl,by rfl,by rfl,trivial,by (repeat' first|exact trivial|exact rfl|refine And.intro ?_ ?_|refine ⟨_,rfl,?_⟩|exact of_decide_eq_true rfl)⟩,by (repeat' first|exact trivial|exact rfl|refine And.intro ?_ ?_)⟩
 ·have hraw:Sort.rawPivot Sort.ltInt d a b=_:=(if_pos (by omega)).trans (if_neg (by omega))
  refine CallS.objs [0,1] (fn_median_int d (s:=0) (a:=a+(b - a) / 4 * 1) (b:=a+(b - a) / 4 * 2) (c:=a+(b - a) / 4 * 3) (ai:=(a:Int)+((b:Int) - (a:Int)).tdiv 4 * 1) (bi:=(a:Int)+((b:Int) - (a:Int)).tdiv 4 * 2) (ci:=(a:Int)+((b:Int) - (a:Int)).tdiv 4 * 3) (by omega) (by omega) (by omega) (by omega) (by omega) (by omega) (by omega)) (by (repeat' first|exact rfl|refine And.intro ?_ ?_|refine ⟨_,rfl,?_⟩)) (by (repeat' first|exact rfl|refine And.intro ?_ ?_|refine ⟨_,rfl,?_⟩)) (by rfl) (by rfl) (by simp) ?_
  generalize Sort.median Sort.ltInt d (a+(b - a) / 4 * 1) (a+(b - a) / 4 * 2) (a+(b - a) / 4 * 3) 0=r4 at hraw
  obtain ⟨p,q⟩:=r4
  (repeat' ((conv=>whnf);(refine vF ?_ ?_<;>intro hc<;>try simp only [vL] at hc)));all_goals try conv=>whnf
  ·rw [fin _ _ hraw,show Sort.hintOf _ = .increasing from if_pos (by omega)];refine ⟨trivial,_,[(0,0)],[],rfl,.inl (by (repeat' first|exact rfl|refine And.intro ?_ ?_|refine ⟨_,rfl,?_⟩)),⟨by rfl,by rfl,by rfl,trivial,by (repeat' first|exact trivial|exact rfl|refine And.intro ?_ ?_|refine ⟨_,rfl,?_⟩|exact of_decide_eq_true rfl)⟩,by (repeat' first|exact trivial|exact rfl|refine And.intro ?_ ?_)⟩
  ·rw [fin _ _ hraw,show Sort.hintOf _ = .decreasing from (if_neg (by omega)).trans (if_pos (by omega))];refine ⟨trivial,_,[(0,0)],[],rfl,.inl (by (repeat' first|exact rfl|refine And.intro ?_ ?_|refine ⟨_,rfl,?_⟩)),⟨by rfl,by rfl,by rfl,trivial,by (repeat' first|exact trivial|exact rfl|refine And.intro ?_ ?_|refine ⟨_,rfl,?_⟩|exact of_decide_eq_true rfl)⟩,by (repeat' first|exact trivial|exact rfl|refine And.intro ?_ ?_)⟩
  ·rw [fin _ _ hraw,show Sort.hintOf _ = .unknown from (if_neg (by omega)).trans (if_neg (by omega))];refine ⟨trivial,_,[(0,0)],[],rfl,.inl (by (repeat' first|exact rfl|refine And.intro ?_ ?_|refine ⟨_,rfl,?_⟩)),⟨by rfl,by rfl,by rfl,trivial,by (repeat' first|exact trivial|exact rfl|refine And.intro ?_ ?_|refine ⟨_,rfl,?_⟩|exact of_decide_eq_true rfl)⟩,by (repeat' first|exact trivial|exact rfl|refine And.intro ?_ ?_)⟩
 all_goals omega
end Go.Ab
namespace Go.Ab
open Go Go.Proofs
set_option linter.unusedSimpArgs false
set_option linter.unusedVariables false
set_option maxRecDepth 10000
set_option maxHeartbeats 4000000
variable {T:Nat→Obj→Prop}
set_option maxHeartbeats 2000000 in
theorem fn_part_int (d:Array Int) {a b:Nat} {ai bi:Int} (ea:ai=a) (eb:bi=b) (hab:a < b) (hb:b≤d.size) (hs:d.size≤536870912) :
  Fn Tryz.prog T f_slices_partialInsertionSortOrdered_int_ [.own 0,.d (.int .i64 ai),.d (.int .i64 bi)] [rowint d] (.d (.bool (Sort.partialInsertionSort Sort.ltInt d a b).2)) [some (rowint (Sort.partialInsertionSort Sort.ltInt d a b).1)]:=by
 subst ea;subst eb
 rw [Sort.partialInsertionSort]
 generalize hR:Sort.partialIns Sort.ltInt a b 5 (a+1) d=R
 refine fn_introR hmix k_slices_partialInsertionSortOrdered_int_ (by show 3≤133;decide) _ (fun e env mem n h=>h) ?_
 (repeat' ((conv=>whnf);first|refine vA ?_|(refine vO ?_ ?_;·omega)|fail));all_goals try conv=>whnf
 refine loop_mem (fun ((jj,ii,xs):Int×Int×List D)=>[(0,.own 0),(1,.d (.int .i64 ((a:Int)))),(2,.d (.int .i64 ((b:Int)))),(7,.d (.int .i64 (ii))),(8,.d (.int .i64 (jj))),(ghostAt,.own 0)]) (fun ((jj,ii,xs):Int×Int×List D)=>[(0,some (.row 1 xs))]) 1 (fun ((jj,ii,xs):Int×Int×List D) => ∃ (s i:Nat) (e:Array Int),jj=5 - (s:Int)∧s≤5∧ii=i∧xs=e.toList.map (D.int .i64)∧a < i∧i≤b∧e.size=d.size∧Sort.partialIns Sort.ltInt a b s i e=R) (fun ((jj,ii,xs):Int×Int×List D)=>(5 - jj).toNat) ((0,(a:Int)+1,d.toList.map (D.int .i64))) [(0,0)] [] (⟨5,a+1,d,by omega,by omega,by omega,rfl,by omega,by omega,rfl,hR⟩) (by (refine ⟨rfl,rfl,rfl,?_,?_⟩;repeat' first|exact trivial|exact rfl|refine And.intro ?_ ?_|refine ⟨_,rfl,?_⟩|decide)) ?_
 rintro ⟨_,_,_⟩ ⟨s,i,e,rfl,hs5,rfl,rfl,hi,hib,he,hI⟩
 have hel:e.toList.length=d.size:=by rw [Array.length_toList];exact he
 (repeat' ((conv=>whnf);first|refine vA ?_|(refine vF ?_ ?_<;>intro hc<;>try simp only [vL] at hc)));all_goals try conv=>whnf
 ·obtain ⟨s,rfl⟩ : ∃ m,s=m+1:=⟨s - 1,by omega⟩
  rw [Sort.partialIns_succ] at hI
  refine loop_mem (fun (kk:Int)=>[(0,.own 0),(1,.d (.int .i64 ((a:Int)))),(2,.d (.int .i64 ((b:Int)))),(7,.d (.int .i64 (kk))),(8,.d (.int .i64 ((5 - ((s+1:Nat):Int))))),(ghostAt,.own 0)]) (fun (kk:Int)=>[(0,some (rowint e))]) 1 (fun (kk:Int) => ∃ k:Nat,kk=k∧i≤k∧k≤b∧Sort.scanSorted Sort.ltInt e b k=Sort.scanSorted Sort.ltInt e b i) (fun (kk:Int)=>(b - kk).toNat) ((i:Int)) [(0,0)] [] (⟨i,rfl,by omega,by omega,rfl⟩) (by (refine ⟨rfl,rfl,rfl,?_,?_⟩;repeat' first|exact trivial|exact rfl|refine And.intro ?_ ?_|refine ⟨_,rfl,?_⟩|decide)) ?_
  rintro _ ⟨k,rfl,hik,hkb,hK⟩
  have hS : ∀ (h : ¬(k < b∧Sort.ltInt e[k]! e[k - 1]! = false)),Sort.scanSorted Sort.ltInt e b i=k:=fun h=>hK.symm.trans (scanS_stop h)
  have hsw:(Sort.swp e k (k - 1)).size=d.size:=by rw [swp_size,he]
  have f1:Sort.scanSorted Sort.ltInt e b i=k→k≠b → ¬b - a < 50 → ∀ g,Sort.fixUp Sort.ltInt b k (Sort.fixDown Sort.ltInt a k (Sort.swp e k (k - 1)))=g→Sort.partialIns Sort.ltInt a b s k g=R:=fun h1 h2 h3 g hg=>by
   rw [h1,if_neg h2,if_neg h3,hg] at hI;exact hI
  (repeat' ((conv=>whnf);first|refine vA ?_|refine vE ?_|(refine vF ?_ ?_<;>intro hc<;>try simp only [vL] at hc)|refine vN ‹_› ?_|(refine vQ ?_ fun x hx=>?_;·omega)|((first|refine vO ?_ ?_|refine vP ?_ ?_);·first|omega|(simp only [vM] at *;omega))|(refine vU ?_ ?_;·kernel_rfl)|refine yD (fn_Less_int _ _) ⟨⟨rfl,rfl⟩,⟨rfl,rfl⟩,rfl⟩ rfl ?_));all_goals try conv=>whnf
  all_goals try (exfalso;omega)
  all_goals try (have h1:=arr_at k ‹e.toList[(k:Int).toNat]? = some _› rfl)
  all_goals try (have h2:=arr_at (k - 1) ‹e.toList[((k:Int) - 1).toNat]? = some _› (by omega))
  ·have hk:=hS fun h=>Bool.false_ne_true (h.2.symm.trans ((lt_at h1 h2).trans (decide_eq_true (by omega))))
   rw [hk,if_neg (by omega),if_pos (by omega)] at hI
   subst hI
   refine ⟨trivial,_,[(0,0)],[],rfl,.inl (by (repeat' exact .inr (.inr ⟨rfl,rfl⟩))),⟨by rfl,by rfl,by rfl,trivial,by (repeat' first|exact trivial|exact rfl|refine And.intro ?_ ?_|refine ⟨_,rfl,?_⟩|exact of_decide_eq_true rfl)⟩,by (repeat' first|exact trivial|exact rfl|refine And.intro ?_ ?_)⟩
  ·
   have hk:=hS fun h=>Bool.false_ne_true (h.2.symm.trans ((lt_at h1 h2).trans (decide_eq_true (by omega))))
   have f2:=f1 hk (by omega) (by omega)
   refine loop_mem (fun ((mm,xs):Int×List D)=>[(0,.own 0),(1,.d (.int .i64 ((a:Int)))),(2,.d (.int .i64 ((b:Int)))),(7,.d (.int .i64 ((k:Int)))),(8,.d (.int .i64 ((5 - ((s+1:Nat):Int))))),(9,.d (.int .i64 (mm))),(ghostAt,.own 0)]) (fun ((mm,xs):Int×List D)=>[(0,some (.row 1 xs))]) 1 (fun ((mm,xs):Int×List D) => ∃ (m:Nat) (g:Array Int),mm=m∧xs=g.toList.map (D.int .i64)∧m≤k - 1∧g.size=d.size∧Sort.shiftDown Sort.ltInt m g=Sort.shiftDown Sort.ltInt (k - 1) (Sort.swp e k (k - 1))) (fun ((mm,xs):Int×List D)=>mm.toNat) (((k:Int) - 1,_)) [(0,0)] [] (⟨k - 1,Sort.swp e k (k - 1),by omega,swp_rowI _ _ ‹e.toList[(k:Int).toNat]? = some _› ‹e.toList[((k:Int) - 1).toNat]? = some _› rfl (by omega),by omega,hsw,rfl⟩) (by (refine ⟨rfl,rfl,rfl,?_,?_⟩;repeat' first|exact trivial|exact rfl|refine And.intro ?_ ?_|refine ⟨_,rfl,?_⟩|decide)) ?_
   rintro ⟨_,_⟩ ⟨m,u,rfl,rfl,hm,hu,hU⟩
   have hul:u.toList.length=d.size:=by rw [Array.length_toList];exact hu
   have f3 : ∀ h : ¬(1≤m∧Sort.ltInt u[m]! u[m - 1]! = true),Sort.fixDown Sort.ltInt a k (Sort.swp e k (k - 1))=u:=fun h=>by
    rw [Sort.fixDown,if_pos (by omega),← hU,shD_stop h]
   (repeat' ((conv=>whnf);first|refine vA ?_|refine vE ?_|(refine vF ?_ ?_<;>intro hc<;>try simp only [vL] at hc)|refine vN ‹_› ?_|(refine vQ ?_ fun x hx=>?_;·omega)|((first|refine vO ?_ ?_|refine vP ?_ ?_);·first|omega|(simp only [vM] at *;omega))|(refine vU ?_ ?_;·kernel_rfl)|refine yD (fn_Less_int _ _) ⟨⟨rfl,rfl⟩,⟨rfl,rfl⟩,rfl⟩ rfl ?_));all_goals try conv=>whnf
   ·have g1:=arr_at m ‹u.toList[(m:Int).toNat]? = some _› rfl
    have g2:=arr_at (m - 1) ‹u.toList[((m:Int) - 1).toNat]? = some _› (by omega)
    refine ⟨(_,_),[(0,0)],[],?_,?_,by (refine ⟨rfl,rfl,rfl,?_,?_⟩;repeat' first|exact trivial|exact rfl|refine And.intro ?_ ?_|refine ⟨_,rfl,?_⟩|decide)⟩
    ·exact ⟨m - 1,Sort.swp u m (m - 1),by omega,swp_rowI _ _ ‹u.toList[(m:Int).toNat]? = some _› ‹u.toList[((m:Int) - 1).toNat]? = some _› rfl (by omega),by omega,by rw [swp_size,hu],(shD_next (by omega) ((lt_at g1 g2).trans (decide_eq_true (by omega)))).trans hU⟩
    ·((simp only [vM] at *;omega))
   ·have g1:=arr_at m ‹u.toList[(m:Int).toNat]? = some _› rfl
    have g2:=arr_at (m - 1) ‹u.toList[((m:Int) - 1).toNat]? = some _› (by omega)
    have f4:=f3 fun h=>Bool.false_ne_true ((((lt_at g1 g2).trans (decide_eq_false (by omega))).symm).trans h.2)
    rw [f4] at f2
    have f5 : ∀ g,Sort.shiftUp Sort.ltInt b (k+1) u=g→Sort.partialIns Sort.ltInt a b s k g=R:=fun g hg=>f2 g (by rw [Sort.fixUp,if_pos (by omega)];exact hg)
    refine loop_mem (fun ((mm,xs):Int×List D)=>[(0,.own 0),(1,.d (.int .i64 ((a:Int)))),(2,.d (.int .i64 ((b:Int)))),(7,.d (.int .i64 ((k:Int)))),(8,.d (.int .i64 ((5 - ((s+1:Nat):Int))))),(10,.d (.int .i64 (mm))),(ghostAt,.own 0)]) (fun ((mm,xs):Int×List D)=>[(0,some (.row 1 xs))]) 1 (fun ((mm,xs):Int×List D) => ∃ (m:Nat) (g:Array Int),mm=m∧xs=g.toList.map (D.int .i64)∧k+1≤m∧m≤b∧g.size=d.size∧Sort.shiftUp Sort.ltInt b m g=Sort.shiftUp Sort.ltInt b (k+1) u) (fun ((mm,xs):Int×List D)=>(b - mm).toNat) (((k:Int)+1,_)) [(0,0)] [] (⟨k+1,u,by omega,rfl,by omega,by omega,hu,rfl⟩) (by (refine ⟨rfl,rfl,rfl,?_,?_⟩;repeat' first|exact trivial|exact rfl|refine And.intro ?_ ?_|refine ⟨_,rfl,?_⟩|decide)) ?_
    rintro ⟨_,_⟩ ⟨m,g,rfl,rfl,hm,hmb,hg,hG⟩
    have hgl:g.toList.length=d.size:=by rw [Array.length_toList];exact hg
    (repeat' ((conv=>whnf);first|refine vA ?_|refine vE ?_|(refine vF ?_ ?_<;>intro hc<;>try simp only [vL] at hc)|refine vN ‹_› ?_|(refine vQ ?_ fun x hx=>?_;·omega)|((first|refine vO ?_ ?_|refine vP ?_ ?_);·first|omega|(simp only [vM] at *;omega))|(refine vU ?_ ?_;·kernel_rfl)|refine yD (fn_Less_int _ _) ⟨⟨rfl,rfl⟩,⟨rfl,rfl⟩,rfl⟩ rfl ?_));all_goals try conv=>whnf
    ·have h1:=arr_at m ‹g.toList[(m:Int).toNat]? = some _› rfl
     have h2:=arr_at (m - 1) ‹g.toList[((m:Int) - 1).toNat]? = some _› (by omega)
     refine ⟨(_,_),[(0,0)],[],?_,?_,by (refine ⟨rfl,rfl,rfl,?_,?_⟩;repeat' first|exact trivial|exact rfl|refine And.intro ?_ ?_|refine ⟨_,rfl,?_⟩|decide)⟩
     ·exact ⟨m+1,Sort.swp g m (m - 1),by omega,swp_rowI _ _ ‹g.toList[(m:Int).toNat]? = some _› ‹g.toList[((m:Int) - 1).toNat]? = some _› rfl (by omega),by omega,by omega,by rw [swp_size,hg],(shU_next (by omega) ((lt_at h1 h2).trans (decide_eq_true (by omega)))).trans hG⟩
     ·((simp only [vM] at *;omega))
    ·have h1:=arr_at m ‹g.toList[(m:Int).toNat]? = some _› rfl
     have h2:=arr_at (m - 1) ‹g.toList[((m:Int) - 1).toNat]? = some _› (by omega)
     refine ⟨(_,_,_),[(0,0)],[],?_,?_,by (refine ⟨rfl,rfl,rfl,?_,?_⟩;repeat' first|exact trivial|exact rfl|refine And.intro ?_ ?_|refine ⟨_,rfl,?_⟩|decide)⟩
     ·exact ⟨s,k,g,by omega,by omega,rfl,rfl,by omega,by omega,hg,f5 g (hG.symm.trans (shU_stop fun h=>Bool.false_ne_true ((((lt_at h1 h2).trans (decide_eq_false (by omega))).symm).trans h.2)))⟩
     ·((simp only [vM] at *;omega))
    ·refine ⟨(_,_,_),[(0,0)],[],?_,?_,by (refine ⟨rfl,rfl,rfl,?_,?_⟩;repeat' first|exact trivial|exact rfl|refine And.intro ?_ ?_|refine ⟨_,rfl,?_⟩|decide)⟩
     ·exact ⟨s,k,g,by omega,by omega,rfl,rfl,by omega,by omega,hg,f5 g (hG.symm.trans (shU_stop fun h=>by omega))⟩
     ·((simp only [vM] at *;omega))
   ·have g1:=arr_at m ‹u.toList[(m:Int).toNat]? = some _› rfl
    have g2:=arr_at (m - 1) ‹u.toList[((m:Int) - 1).toNat]? = some _› (by omega)
    have f4:=f3 fun h=>Bool.false_ne_true ((((lt_at g1 g2).trans (decide_eq_false (by omega))).symm).trans h.2)
    rw [f4] at f2
    refine ⟨(_,_,_),[(0,0)],[],?_,?_,by (refine ⟨rfl,rfl,rfl,?_,?_⟩;repeat' first|exact trivial|exact rfl|refine And.intro ?_ ?_|refine ⟨_,rfl,?_⟩|decide)⟩
    ·exact ⟨s,k,u,by omega,by omega,rfl,rfl,by omega,by omega,hu,f2 u (by rw [Sort.fixUp,if_neg (by omega)])⟩
    ·((simp only [vM] at *;omega))
   ·have f4:=f3 fun h=>by omega
    rw [f4] at f2
    have f5 : ∀ g,Sort.shiftUp Sort.ltInt b (k+1) u=g→Sort.partialIns Sort.ltInt a b s k g=R:=fun g hg=>f2 g (by rw [Sort.fixUp,if_pos (by omega)];exact hg)
    refine loop_mem (fun ((mm,xs):Int×List D)=>[(0,.own 0),(1,.d (.int .i64 ((a:Int)))),(2,.d (.int .i64 ((b:Int)))),(7,.d (.int .i64 ((k:Int)))),(8,.d (.int .i64 ((5 - ((s+1:Nat):Int))))),(10,.d (.int .i64 (mm))),(ghostAt,.own 0)]) (fun ((mm,xs):Int×List D)=>[(0,some (.row 1 xs))]) 1 (fun ((mm,xs):Int×List D) => ∃ (m:Nat) (g:Array Int),mm=m∧xs=g.toList.map (D.int .i64)∧k+1≤m∧m≤b∧g.size=d.size∧Sort.shiftUp Sort.ltInt b m g=Sort.shiftUp Sort.ltInt b (k+1) u) (fun ((mm,xs):Int×List D)=>(b - mm).toNat) (((k:Int)+1,_)) [(0,0)] [] (⟨k+1,u,by omega,rfl,by omega,by omega,hu,rfl⟩) (by (refine ⟨rfl,rfl,rfl,?_,?_⟩;repeat' first|exact trivial|exact rfl|refine And.intro ?_ ?_|refine ⟨_,rfl,?_⟩|decide)) ?_
    rintro ⟨_,_⟩ ⟨m,g,rfl,rfl,hm,hmb,hg,hG⟩
    have hgl:g.toList.length=d.size:=by rw [Array.length_toList];exact hg
    (repeat' ((conv=>whnf);first|refine vA ?_|refine vE ?_|(refine vF ?_ ?_<;>intro hc<;>try simp only [vL] at hc)|refine vN ‹_› ?_|(refine vQ ?_ fun x hx=>?_;·omega)|((first|refine vO ?_ ?_|refine vP ?_ ?_);·first|omega|(simp only [vM] at *;omega))|(refine vU ?_ ?_;·kernel_rfl)|refine yD (fn_Less_int _ _) ⟨⟨rfl,rfl⟩,⟨rfl,rfl⟩,rfl⟩ rfl ?_));all_goals try conv=>whnf
    ·have h1:=arr_at m ‹g.toList[(m:Int).toNat]? = some _› rfl
     have h2:=arr_at (m - 1) ‹g.toList[((m:Int) - 1).toNat]? = some _› (by omega)
     refine ⟨(_,_),[(0,0)],[],?_,?_,by (refine ⟨rfl,rfl,rfl,?_,?_⟩;repeat' first|exact trivial|exact rfl|refine And.intro ?_ ?_|refine ⟨_,rfl,?_⟩|decide)⟩
     ·exact ⟨m+1,Sort.swp g m (m - 1),by omega,swp_rowI _ _ ‹g.toList[(m:Int).toNat]? = some _› ‹g.toList[((m:Int) - 1).toNat]? = some _› rfl (by omega),by omega,by omega,by rw [swp_size,hg],(shU_next (by omega) ((lt_at h1 h2).trans (decide_eq_true (by omega)))).trans hG⟩
     ·((simp only [vM] at *;omega))
    ·have h1:=arr_at m ‹g.toList[(m:Int).toNat]? = some _› rfl
     have h2:=arr_at (m - 1) ‹g.toList[((m:Int) - 1).toNat]? = some _› (by omega)
     refine ⟨(_,_,_),[(0,0)],[],?_,?_,by (refine ⟨rfl,rfl,rfl,?_,?_⟩;repeat' first|exact trivial|exact rfl|refine And.intro ?_ ?_|refine ⟨_,rfl,?_⟩|decide)⟩
     ·exact ⟨s,k,g,by omega,by omega,rfl,rfl,by omega,by omega,hg,f5 g (hG.symm.trans (shU_stop fun h=>Bool.false_ne_true ((((lt_at h1 h2).trans (decide_eq_false (by omega))).symm).trans h.2)))⟩
     ·((simp only [vM] at *;omega))
    ·refine ⟨(_,_,_),[(0,0)],[],?_,?_,by (refine ⟨rfl,rfl,rfl,?_,?_⟩;repeat' first|exact trivial|exact rfl|refine And.intro ?_ ?_|refine ⟨_,rfl,?_⟩|decide)⟩
     ·exact ⟨s,k,g,by omega,by omega,rfl,rfl,by omega,by omega,hg,f5 g (hG.symm.trans (shU_stop fun h=>by omega))⟩
     ·((simp only [vM] at *;omega))
   ·have f4:=f3 fun h=>by omega
    rw [f4] at f2
    refine ⟨(_,_,_),[(0,0)],[],?_,?_,by (refine ⟨rfl,rfl,rfl,?_,?_⟩;repeat' first|exact trivial|exact rfl|refine And.intro ?_ ?_|refine ⟨_,rfl,?_⟩|decide)⟩
    ·exact ⟨s,k,u,by omega,by omega,rfl,rfl,by omega,by omega,hu,f2 u (by rw [Sort.fixUp,if_neg (by omega)])⟩
    ·((simp only [vM] at *;omega))
  ·have hk:=hS fun h=>Bool.false_ne_true (h.2.symm.trans ((lt_at h1 h2).trans (decide_eq_true (by omega))))
   have f2:=f1 hk (by omega) (by omega)
   rw [Sort.fixDown,if_neg (by omega)] at f2
   have f5 : ∀ g,Sort.shiftUp Sort.ltInt b (k+1) (Sort.swp e k (k - 1))=g→Sort.partialIns Sort.ltInt a b s k g=R:=fun g hg=>f2 g (by rw [Sort.fixUp,if_pos (by omega)];exact hg)
   refine loop_mem (fun ((mm,xs):Int×List D)=>[(0,.own 0),(1,.d (.int .i64 ((a:Int)))),(2,.d (.int .i64 ((b:Int)))),(7,.d (.int .i64 ((k:Int)))),(8,.d (.int .i64 ((5 - ((s+1:Nat):Int))))),(10,.d (.int .i64 (mm))),(ghostAt,.own 0)]) (fun ((mm,xs):Int×List D)=>[(0,some (.row 1 xs))]) 1 (fun ((mm,xs):Int×List D) => ∃ (m:Nat) (g:Array Int),mm=m∧xs=g.toList.map (D.int .i64)∧k+1≤m∧m≤b∧g.size=d.size∧Sort.shiftUp Sort.ltInt b m g=Sort.shiftUp Sort.ltInt b (k+1) (Sort.swp e k (k - 1))) (fun ((mm,xs):Int×List D)=>(b - mm).toNat) (((k:Int)+1,_)) [(0,0)] [] (⟨k+1,(Sort.swp e k (k - 1)),by omega,swp_rowI _ _ ‹e.toList[(k:Int).toNat]? = some _› ‹e.toList[((k:Int) - 1).toNat]? = some _› rfl (by omega),by omega,by omega,hsw,rfl⟩) (by (refine ⟨rfl,rfl,rfl,?_,?_⟩;repeat' first|exact trivial|exact rfl|refine And.intro ?_ ?_|refine ⟨_,rfl,?_⟩|decide)) ?_
   rintro ⟨_,_⟩ ⟨m,g,rfl,rfl,hm,hmb,hg,hG⟩
   have hgl:g.toList.length=d.size:=by rw [Array.length_toList];exact hg
   (repeat' ((conv=>whnf);first|refine vA ?_|refine vE ?_|(refine vF ?_ ?_<;>intro hc<;>try simp only [vL] at hc)|refine vN ‹_› ?_|(refine vQ ?_ fun x hx=>?_;·omega)|((first|refine vO ?_ ?_|refine vP ?_ ?_);·first|omega|(simp only [vM] at *;omega))|(refine vU ?_ ?_;·kernel_rfl)|refine yD (fn_Less_int _ _) ⟨⟨rfl,rfl⟩,⟨rfl,rfl⟩,rfl⟩ rfl ?_));all_goals try conv=>whnf
   ·have h1:=arr_at m ‹g.toList[(m:Int).toNat]? = some _› rfl
    have h2:=arr_at (m - 1) ‹g.toList[((m:Int) - 1).toNat]? = some _› (by omega)
    refine ⟨(_,_),[(0,0)],[],?_,?_,by (refine ⟨rfl,rfl,rfl,?_,?_⟩;repeat' first|exact trivial|exact rfl|refine And.intro ?_ ?_|refine ⟨_,rfl,?_⟩|decide)⟩
    ·exact ⟨m+1,Sort.swp g m (m - 1),by omega,swp_rowI _ _ ‹g.toList[(m:Int).toNat]? = some _› ‹g.toList[((m:Int) - 1).toNat]? = some _› rfl (by omega),by omega,by omega,by rw [swp_size,hg],(shU_next (by omega) ((lt_at h1 h2).trans (decide_eq_true (by omega)))).trans hG⟩
    ·((simp only [vM] at *;omega))
   ·have h1:=arr_at m ‹g.toList[(m:Int).toNat]? = some _› rfl
    have h2:=arr_at (m - 1) ‹g.toList[((m:Int) - 1).toNat]? = some _› (by omega)
    refine ⟨(_,_,_),[(0,0)],[],?_,?_,by (refine ⟨rfl,rfl,rfl,?_,?_⟩;repeat' first|exact trivial|exact rfl|refine And.intro ?_ ?_|refine ⟨_,rfl,?_⟩|decide)⟩
    ·exact ⟨s,k,g,by omega,by omega,rfl,rfl,by omega,by omega,hg,f5 g (hG.symm.trans (shU_stop fun h=>Bool.false_ne_true ((((lt_at h1 h2).trans (decide_eq_false (by omega))).symm).trans h.2)))⟩
    ·((simp only [vM] at *;omega))
   ·refine ⟨(_,_,_),[(0,0)],[],?_,?_,by (refine ⟨rfl,rfl,rfl,?_,?_⟩;repeat' first|exact trivial|exact rfl|refine And.intro ?_ ?_|refine ⟨_,rfl,?_⟩|decide)⟩
    ·exact ⟨s,k,g,by omega,by omega,rfl,rfl,by omega,by omega,hg,f5 g (hG.symm.trans (shU_stop fun h=>by omega))⟩
    ·((simp only [vM] at *;omega))
  ·refine ⟨_,[(0,0)],[],?_,?_,by (refine ⟨rfl,rfl,rfl,?_,?_⟩;repeat' first|exact trivial|exact rfl|refine And.intro ?_ ?_|refine ⟨_,rfl,?_⟩|decide)⟩
   ·exact ⟨k+1,by omega,by omega,by omega,(scanS_next (by omega) ((lt_at h1 h2).trans (decide_eq_false (by omega)))).trans hK⟩
   ·(omega)
  ·have hk:=hS fun h=>by omega
   rw [hk,if_pos (by omega)] at hI
   subst hI
   refine ⟨trivial,_,[(0,0)],[],rfl,.inl (by (repeat' exact .inr (.inl ⟨rfl,rfl⟩))),⟨by rfl,by rfl,by rfl,trivial,by (repeat' first|exact trivial|exact rfl|refine And.intro ?_ ?_|refine ⟨_,rfl,?_⟩|exact of_decide_eq_true rfl)⟩,by (repeat' first|exact trivial|exact rfl|refine And.intro ?_ ?_)⟩
 ·have hs0:s=0:=by omega
  subst hs0
  have hI':(e,false)=R:=hI
  subst hI'
  refine ⟨trivial,_,[(0,0)],[],rfl,.inl (by (repeat' exact .inr (.inr ⟨rfl,rfl⟩))),⟨by rfl,by rfl,by rfl,trivial,by (repeat' first|exact trivial|exact rfl|refine And.intro ?_ ?_|refine ⟨_,rfl,?_⟩|exact of_decide_eq_true rfl)⟩,by (repeat' first|exact trivial|exact rfl|refine And.intro ?_ ?_)⟩
end Go.Ab
namespace Go.Ab
open Go Go.Proofs
set_option linter.unusedSimpArgs false
set_option linter.unusedVariables false
set_option maxRecDepth 10000
set_option maxHeartbeats 4000000
variable {T : Nat → Obj → Prop}
set_option maxHeartbeats 2000000 in
theorem fn_pareq_int (d : Array Int) {a b p : Nat} {ai bi pi : Int} (ea : ai = a) (eb : bi = b) (ep : pi = p) (hap : a ≤ p) (hpb : p < b) (hb : b ≤ d.size) (hs : d.size ≤ 536870912) :
    Fn Tryz.prog T f_slices_partitionEqualOrdered_int_ [.own 0, .d (.int .i64 ai), .d (.int .i64 bi), .d (.int .i64 pi)] [rowint d] (.d (.int .i64 ((Sort.partitionEqual Sort.ltInt d a b p).1 : Int))) [some (rowint (Sort.partitionEqual Sort.ltInt d a b p).2)] := by
  subst ea; subst eb; subst ep
  rw [Sort.partitionEqual]
  generalize hR : Sort.partEqLoop Sort.ltInt a (a + 1) (b - 1) (Sort.swp d a p) = R
  refine fn_introR hmix k_slices_partitionEqualOrdered_int_ (by show 4 ≤ 84; decide) _ (fun e env mem n h => h) ?_
  have hdl : d.toList.length = d.size := by rw [Array.length_toList]
  (repeat' ((conv=>whnf);first|refine vA ?_|(refine vQ ?_ fun x hx=>?_;·omega)|((first|refine vO ?_ ?_|refine vP ?_ ?_);·first|omega|(simp only [vM] at *;omega))|(refine vU ?_ ?_;·kernel_rfl)|fail));all_goals try conv=>whnf
  refine loop_mem (fun ((ii, jj, xs) : Int × Int × List D) => [(0, .own 0), (1, .d (.int .i64 ((a : Int)))), (9, .d (.int .i64 (ii))), (10, .d (.int .i64 (jj))), (ghostAt, .own 0)]) (fun ((ii, jj, xs) : Int × Int × List D) => [(0, some (.row 1 xs))]) 1 (fun ((ii, jj, xs) : Int × Int × List D) => ∃ (i j : Nat) (e : Array Int), ii = i ∧ jj = j ∧ xs = e.toList.map (D.int .i64) ∧ a < i ∧ i ≤ j + 2 ∧ j < b ∧ e.size = d.size ∧ Sort.partEqLoop Sort.ltInt a i j e = R) (fun ((ii, jj, xs) : Int × Int × List D) => (jj + 1 - ii).toNat) (((a : Int) + 1, (b : Int) - 1, _)) [(0, 0)] [] (⟨a + 1, b - 1, Sort.swp d a p, by omega, by omega, swp_rowI _ _ ‹d.toList[(a : Int).toNat]? = some _› ‹d.toList[(p : Int).toNat]? = some _› rfl rfl, by omega, by omega, by omega, by rw [swp_size], hR⟩) (by (refine ⟨rfl,rfl,rfl,?_,?_⟩;repeat' first|exact trivial|exact rfl|refine And.intro ?_ ?_|refine ⟨_,rfl,?_⟩|decide)) ?_
  rintro ⟨_, _, _⟩ ⟨i, j, e, rfl, rfl, rfl, hi, hij, hjb, he, hI⟩
  have hel : e.toList.length = d.size := by rw [Array.length_toList]; exact he
  rw [Sort.partEqLoop_eq] at hI
  (repeat' ((conv=>whnf);refine vA ?_));all_goals try conv=>whnf
  refine loop_mem (fun (kk : Int) => [(0, .own 0), (1, .d (.int .i64 ((a : Int)))), (9, .d (.int .i64 (kk))), (10, .d (.int .i64 ((j : Int)))), (ghostAt, .own 0)]) (fun (kk : Int) => [(0, some (rowint e))]) 1 (fun (kk : Int) => ∃ k : Nat, kk = k ∧ i ≤ k ∧ k ≤ j + 2 ∧ Sort.scanUp (fun x => !Sort.ltInt e[a]! x) e j k = Sort.scanUp (fun x => !Sort.ltInt e[a]! x) e j i) (fun (kk : Int) => ((j : Int) + 1 - kk).toNat) ((i : Int)) [(0, 0)] [] (⟨i, by omega, by omega, by omega, rfl⟩) (by (refine ⟨rfl,rfl,rfl,?_,?_⟩;repeat' first|exact trivial|exact rfl|refine And.intro ?_ ?_|refine ⟨_,rfl,?_⟩|decide)) ?_
  rintro _ ⟨k, rfl, hik, hkj, hK⟩
  (repeat' ((conv=>whnf);first|refine vA ?_|refine vE ?_|(refine vF ?_ ?_<;>intro hc<;>try simp only [vL] at hc)|(refine vQ ?_ fun x hx=>?_;·omega)|((first|refine vO ?_ ?_|refine vP ?_ ?_);·first|omega|(simp only [vM] at *;omega))|(refine vU ?_ ?_;·kernel_rfl)|refine yD (fn_Less_int _ _) ⟨⟨rfl,rfl⟩,⟨rfl,rfl⟩,rfl⟩ rfl ?_));all_goals try conv=>whnf
  all_goals first
  | (have g1 := arr_at a ‹e.toList[(a : Int).toNat]? = some _› rfl
     have g2 := arr_at k ‹e.toList[(k : Int).toNat]? = some _› rfl
     refine ⟨_, [(0, 0)], [], ?_, ?_, by (refine ⟨rfl,rfl,rfl,?_,?_⟩;repeat' first|exact trivial|exact rfl|refine And.intro ?_ ?_|refine ⟨_,rfl,?_⟩|decide)⟩
     · exact ⟨k + 1, by omega, by omega, by omega, (su_next (by omega) (by show (!Sort.ltInt e[a]! e[k]!) = true; rw [lt_at (lt := Sort.ltInt) g1 g2]; simp only [Bool.not_eq_true']; exact decide_eq_false (by omega))).trans hK⟩
     · (omega))
  | skip
  all_goals
    have hk : Sort.scanUp (fun x => !Sort.ltInt e[a]! x) e j i = k := hK.symm.trans (su_stop fun h => by
      first
      | omega
      | (have g1 := arr_at a ‹e.toList[(a : Int).toNat]? = some _› rfl
         have g2 := arr_at k ‹e.toList[(k : Int).toNat]? = some _› rfl
         have h2 : (!Sort.ltInt e[a]! e[k]!) = true := h.2
         rw [lt_at (lt := Sort.ltInt) g1 g2] at h2
         simp only [Bool.not_eq_true'] at h2
         have := of_decide_eq_false h2
         omega))
    clear hK
    rw [hk] at hI
    refine loop_mem (fun (kk : Int) => [(0, .own 0), (1, .d (.int .i64 ((a : Int)))), (9, .d (.int .i64 ((k : Int)))), (10, .d (.int .i64 (kk))), (ghostAt, .own 0)]) (fun (kk : Int) => [(0, some (rowint e))]) 1 (fun (kk : Int) => ∃ m : Nat, kk = m ∧ m ≤ j ∧ k ≤ m + 2 ∧ Sort.scanDown (fun x => Sort.ltInt e[a]! x) e k m = Sort.scanDown (fun x => Sort.ltInt e[a]! x) e k j) (fun (kk : Int) => (kk + 1).toNat) ((j : Int)) [(0, 0)] [] (⟨j, by omega, by omega, by omega, rfl⟩) (by (refine ⟨rfl,rfl,rfl,?_,?_⟩;repeat' first|exact trivial|exact rfl|refine And.intro ?_ ?_|refine ⟨_,rfl,?_⟩|decide)) ?_
    rintro _ ⟨m, rfl, hmj, hkm, hM⟩
    (repeat' ((conv=>whnf);first|refine vA ?_|(refine vF ?_ ?_<;>intro hc<;>try simp only [vL] at hc)|refine vN ‹_› ?_|(refine vQ ?_ fun x hx=>?_;·omega)|((first|refine vO ?_ ?_|refine vP ?_ ?_);·first|omega|(simp only [vM] at *;omega))|(refine vU ?_ ?_;·kernel_rfl)|refine yD (fn_Less_int _ _) ⟨⟨rfl,rfl⟩,⟨rfl,rfl⟩,rfl⟩ rfl ?_));all_goals try conv=>whnf
    all_goals first
    | (have g1 := arr_at a ‹e.toList[(a : Int).toNat]? = some _› rfl
       have g2 := arr_at m ‹e.toList[(m : Int).toNat]? = some _› rfl
       refine ⟨_, [(0, 0)], [], ?_, ?_, by (refine ⟨rfl,rfl,rfl,?_,?_⟩;repeat' first|exact trivial|exact rfl|refine And.intro ?_ ?_|refine ⟨_,rfl,?_⟩|decide)⟩
       · exact ⟨m - 1, by omega, by omega, by omega, (sd_next (by omega) (by omega) (by show Sort.ltInt e[a]! e[m]! = true; rw [lt_at (lt := Sort.ltInt) g1 g2]; exact decide_eq_true (by omega))).trans hM⟩
       · (omega))
    | skip
    all_goals
      have hm : Sort.scanDown (fun x => Sort.ltInt e[a]! x) e k j = m := hM.symm.trans (sd_stop fun h => by
        first
        | omega
        | (have g1 := arr_at a ‹e.toList[(a : Int).toNat]? = some _› rfl
           have g2 := arr_at m ‹e.toList[(m : Int).toNat]? = some _› rfl
           have h2 : Sort.ltInt e[a]! e[m]! = true := h.2
           rw [lt_at (lt := Sort.ltInt) g1 g2] at h2
           skip
           have := of_decide_eq_true h2
           omega))
      clear hM
      rw [hm] at hI
      first
      | (exfalso; omega)
      | (rw [if_pos (by omega)] at hI
         subst hI
         refine ⟨trivial, _, [(0, 0)], [], rfl, .inl (by (repeat' exact rfl)), ⟨by rfl, by rfl, by rfl, trivial, by (repeat' first|exact trivial|exact rfl|refine And.intro ?_ ?_|refine ⟨_,rfl,?_⟩|exact of_decide_eq_true rfl)⟩, by (repeat' first|exact trivial|exact rfl|refine And.intro ?_ ?_)⟩
         done)
      | (rw [if_neg (by omega)] at hI
         refine ⟨(_, _, _), [(0, 0)], [], ?_, ?_, by (refine ⟨rfl,rfl,rfl,?_,?_⟩;repeat' first|exact trivial|exact rfl|refine And.intro ?_ ?_|refine ⟨_,rfl,?_⟩|decide)⟩
         · exact ⟨k + 1, m - 1, Sort.swp e k m, by omega, by omega, swp_rowI _ _ ‹e.toList[(k : Int).toNat]? = some _› ‹e.toList[(m : Int).toNat]? = some _› rfl rfl, by omega, by omega, by omega, by rw [swp_size, he], hI⟩
         · ((simp only [vM] at *;omega)))
theorem part_eq_int {d e : Array Int} {a b p : Nat} (he : Sort.swp d a p = e) : Sort.partition Sort.ltInt d a b p =
    if Sort.scanUp (fun x => Sort.ltInt x e[a]!) e (b - 1) (a + 1) > Sort.scanDown (fun x => !Sort.ltInt x e[a]!) e (Sort.scanUp (fun x => Sort.ltInt x e[a]!) e (b - 1) (a + 1)) (b - 1) then
      (Sort.scanDown (fun x => !Sort.ltInt x e[a]!) e (Sort.scanUp (fun x => Sort.ltInt x e[a]!) e (b - 1) (a + 1)) (b - 1), true, Sort.swp e (Sort.scanDown (fun x => !Sort.ltInt x e[a]!) e (Sort.scanUp (fun x => Sort.ltInt x e[a]!) e (b - 1) (a + 1)) (b - 1)) a)
    else ((Sort.partLoop Sort.ltInt a (Sort.scanUp (fun x => Sort.ltInt x e[a]!) e (b - 1) (a + 1) + 1) (Sort.scanDown (fun x => !Sort.ltInt x e[a]!) e (Sort.scanUp (fun x => Sort.ltInt x e[a]!) e (b - 1) (a + 1)) (b - 1) - 1) (Sort.swp e (Sort.scanUp (fun x => Sort.ltInt x e[a]!) e (b - 1) (a + 1)) (Sort.scanDown (fun x => !Sort.ltInt x e[a]!) e (Sort.scanUp (fun x => Sort.ltInt x e[a]!) e (b - 1) (a + 1)) (b - 1)))).1, false,
      Sort.swp (Sort.partLoop Sort.ltInt a (Sort.scanUp (fun x => Sort.ltInt x e[a]!) e (b - 1) (a + 1) + 1) (Sort.scanDown (fun x => !Sort.ltInt x e[a]!) e (Sort.scanUp (fun x => Sort.ltInt x e[a]!) e (b - 1) (a + 1)) (b - 1) - 1) (Sort.swp e (Sort.scanUp (fun x => Sort.ltInt x e[a]!) e (b - 1) (a + 1)) (Sort.scanDown (fun x => !Sort.ltInt x e[a]!) e (Sort.scanUp (fun x => Sort.ltInt x e[a]!) e (b - 1) (a + 1)) (b - 1)))).2
        (Sort.partLoop Sort.ltInt a (Sort.scanUp (fun x => Sort.ltInt x e[a]!) e (b - 1) (a + 1) + 1) (Sort.scanDown (fun x => !Sort.ltInt x e[a]!) e (Sort.scanUp (fun x => Sort.ltInt x e[a]!) e (b - 1) (a + 1)) (b - 1) - 1) (Sort.swp e (Sort.scanUp (fun x => Sort.ltInt x e[a]!) e (b - 1) (a + 1)) (Sort.scanDown (fun x => !Sort.ltInt x e[a]!) e (Sort.scanUp (fun x => Sort.ltInt x e[a]!) e (b - 1) (a + 1)) (b - 1)))).1 a) := by
  subst he; rfl
set_option maxHeartbeats 4000000 in
theorem fn_par_int (d : Array Int) {a b p : Nat} {ai bi pi : Int} (ea : ai = a) (eb : bi = b) (ep : pi = p) (hap : a ≤ p) (hpb : p < b) (hb : b ≤ d.size) (hs : d.size ≤ 536870912) :
    Fn Tryz.prog T f_slices_partitionOrdered_int_ [.own 0, .d (.int .i64 ai), .d (.int .i64 bi), .d (.int .i64 pi)] [rowint d] (.tup [.d (.int .i64 ((Sort.partition Sort.ltInt d a b p).1 : Int)), .d (.bool (Sort.partition Sort.ltInt d a b p).2.1)]) [some (rowint (Sort.partition Sort.ltInt d a b p).2.2)] := by
  subst ea; subst eb; subst ep
  generalize hI : Sort.partition Sort.ltInt d a b p = R
  refine fn_introR hmix k_slices_partitionOrdered_int_ (by show 4 ≤ 168; decide) _ (fun e env mem n h => h) ?_
  have hdl : d.toList.length = d.size := by rw [Array.length_toList]
  (repeat' ((conv=>whnf);first|refine vA ?_|(refine vQ ?_ fun x hx=>?_;·omega)|((first|refine vO ?_ ?_|refine vP ?_ ?_);·first|omega|(simp only [vM] at *;omega))|(refine vU ?_ ?_;·kernel_rfl)|fail));all_goals try conv=>whnf
  have hsw := swp_rowI (enc := (D.int .i64)) a p ‹d.toList[(a : Int).toNat]? = some _› ‹d.toList[(p : Int).toNat]? = some _› rfl rfl
  generalize he0 : Sort.swp d a p = e at hsw
  rw [part_eq_int he0] at hI
  have he : e.size = d.size := by rw [← he0, swp_size]
  have hel : e.toList.length = d.size := by rw [Array.length_toList]; exact he
  generalize hjd : b - 1 = j at hI
  obtain ⟨i, hid⟩ : ∃ i, i = a + 1 := ⟨_, rfl⟩
  rw [← hid] at hI
  refine loop_mem (fun ((kk, xs) : Int × List D) => [(0, .own 0), (1, .d (.int .i64 ((a : Int)))), (10, .d (.int .i64 (kk))), (11, .d (.int .i64 (((b : Int) - 1)))), (ghostAt, .own 0)]) (fun ((kk, xs) : Int × List D) => [(0, some (.row 1 xs))]) 1 (fun ((kk, xs) : Int × List D) => ∃ k : Nat, kk = k ∧ xs = e.toList.map (D.int .i64) ∧ i ≤ k ∧ k ≤ j + 2 ∧ Sort.scanUp (fun x => Sort.ltInt x e[a]!) e j k = Sort.scanUp (fun x => Sort.ltInt x e[a]!) e j i) (fun ((kk, xs) : Int × List D) => ((j : Int) + 1 - kk).toNat) (((a : Int) + 1, _)) [(0, 0)] [] (⟨i, by omega, hsw, by omega, by omega, rfl⟩) (by (refine ⟨rfl,rfl,rfl,?_,?_⟩;repeat' first|exact trivial|exact rfl|refine And.intro ?_ ?_|refine ⟨_,rfl,?_⟩|decide)) ?_
  rintro ⟨_, _⟩ ⟨k, rfl, rfl, hik, hkj, hK⟩
  have hja : (b : Int) - 1 = j := by omega
  (repeat' ((conv=>whnf);first|refine vA ?_|(refine vF ?_ ?_<;>intro hc<;>try simp only [vL] at hc)|(refine vQ ?_ fun x hx=>?_;·omega)|((first|refine vO ?_ ?_|refine vP ?_ ?_);·first|omega|(simp only [vM] at *;omega))|(refine vU ?_ ?_;·kernel_rfl)|refine yD (fn_Less_int _ _) ⟨⟨rfl,rfl⟩,⟨rfl,rfl⟩,rfl⟩ rfl ?_));all_goals try conv=>whnf
  all_goals first
  | (have g1 := arr_at a ‹e.toList[(a : Int).toNat]? = some _› rfl
     have g2 := arr_at k ‹e.toList[(k : Int).toNat]? = some _› rfl
     refine ⟨(_, _), [(0, 0)], [], ?_, ?_, by (refine ⟨rfl,rfl,rfl,?_,?_⟩;repeat' first|exact trivial|exact rfl|refine And.intro ?_ ?_|refine ⟨_,rfl,?_⟩|decide)⟩
     · exact ⟨k + 1, by omega, rfl, by omega, by omega, (su_next (by omega) (by show Sort.ltInt e[k]! e[a]! = true; rw [lt_at (lt := Sort.ltInt) g2 g1]; exact decide_eq_true (by omega))).trans hK⟩
     · ((simp only [vM] at *;omega)))
  | skip
  all_goals
    have hk : Sort.scanUp (fun x => Sort.ltInt x e[a]!) e j i = k := hK.symm.trans (su_stop fun h => by
      first
      | omega
      | (have g1 := arr_at a ‹e.toList[(a : Int).toNat]? = some _› rfl
         have g2 := arr_at k ‹e.toList[(k : Int).toNat]? = some _› rfl
         have h2 : Sort.ltInt e[k]! e[a]! = true := h.2
         rw [lt_at (lt := Sort.ltInt) g2 g1] at h2
         skip
         have := of_decide_eq_true h2
         omega))
    clear hK
    rw [hk] at hI
    refine loop_mem (fun (kk : Int) => [(0, .own 0), (1, .d (.int .i64 ((a : Int)))), (10, .d (.int .i64 ((k : Int)))), (11, .d (.int .i64 (kk))), (ghostAt, .own 0)]) (fun (kk : Int) => [(0, some (rowint e))]) 1 (fun (kk : Int) => ∃ m : Nat, kk = m ∧ m ≤ j ∧ k ≤ m + 2 ∧ Sort.scanDown (fun x => !Sort.ltInt x e[a]!) e k m = Sort.scanDown (fun x => !Sort.ltInt x e[a]!) e k j) (fun (kk : Int) => (kk + 1).toNat) (((b : Int) - 1)) [(0, 0)] [] (⟨j, by omega, by omega, by omega, rfl⟩) (by (refine ⟨rfl,rfl,rfl,?_,?_⟩;repeat' first|exact trivial|exact rfl|refine And.intro ?_ ?_|refine ⟨_,rfl,?_⟩|decide)) ?_
    rintro _ ⟨m, rfl, hmj, hkm, hM⟩
    (repeat' ((conv=>whnf);first|refine vA ?_|refine vE ?_|(refine vF ?_ ?_<;>intro hc<;>try simp only [vL] at hc)|refine vN ‹_› ?_|(refine vQ ?_ fun x hx=>?_;·omega)|((first|refine vO ?_ ?_|refine vP ?_ ?_);·first|omega|(simp only [vM] at *;omega))|(refine vU ?_ ?_;·kernel_rfl)|refine yD (fn_Less_int _ _) ⟨⟨rfl,rfl⟩,⟨rfl,rfl⟩,rfl⟩ rfl ?_));all_goals try conv=>whnf
    all_goals first
    | (have g1 := arr_at a ‹e.toList[(a : Int).toNat]? = some _› rfl
       have g2 := arr_at m ‹e.toList[(m : Int).toNat]? = some _› rfl
       refine ⟨_, [(0, 0)], [], ?_, ?_, by (refine ⟨rfl,rfl,rfl,?_,?_⟩;repeat' first|exact trivial|exact rfl|refine And.intro ?_ ?_|refine ⟨_,rfl,?_⟩|decide)⟩
       · exact ⟨m - 1, by omega, by omega, by omega, (sd_next (by omega) (by omega) (by show (!Sort.ltInt e[m]! e[a]!) = true; rw [lt_at (lt := Sort.ltInt) g2 g1]; simp only [Bool.not_eq_true']; exact decide_eq_false (by omega))).trans hM⟩
       · (omega))
    | skip
    all_goals
      have hm : Sort.scanDown (fun x => !Sort.ltInt x e[a]!) e k j = m := hM.symm.trans (sd_stop fun h => by
        first
        | omega
        | (have g1 := arr_at a ‹e.toList[(a : Int).toNat]? = some _› rfl
           have g2 := arr_at m ‹e.toList[(m : Int).toNat]? = some _› rfl
           have h2 : (!Sort.ltInt e[m]! e[a]!) = true := h.2
           rw [lt_at (lt := Sort.ltInt) g2 g1] at h2
           simp only [Bool.not_eq_true'] at h2
           have := of_decide_eq_false h2
           omega))
      clear hM
      rw [hm] at hI
      first
      | (exfalso; omega)
      | (rw [if_pos (by omega)] at hI
         subst hI
         rw [show rowint (Sort.swp e m a) = Ob.row 1 _ from congrArg (Ob.row 1) (swp_rowI _ _ ‹e.toList[(m : Int).toNat]? = some _› ‹e.toList[(a : Int).toNat]? = some _› rfl rfl).symm]
         refine ⟨trivial, _, [(0, 0)], [], rfl, .inl (by (repeat' first|exact rfl|exact .inr (.inl ⟨rfl,rfl⟩)|refine And.intro ?_ ?_|refine ⟨_,rfl,?_⟩)), ⟨by rfl, by rfl, by rfl, trivial, by (repeat' first|exact trivial|exact rfl|refine And.intro ?_ ?_|refine ⟨_,rfl,?_⟩|exact of_decide_eq_true rfl)⟩, by (repeat' first|exact trivial|exact rfl|refine And.intro ?_ ?_)⟩
         done)
      | (rw [if_neg (by omega)] at hI
         generalize hQ : Sort.partLoop Sort.ltInt a (k + 1) (m - 1) (Sort.swp e k m) = Q at hI
         have hsq := swp_rowI (enc := (D.int .i64)) k m ‹e.toList[(k : Int).toNat]? = some _› ‹e.toList[(m : Int).toNat]? = some _› rfl rfl
         generalize he1 : Sort.swp e k m = e1 at hsq hQ
         have hes : e1.size = d.size := by rw [← he1, swp_size, he]
         refine loop_mem (fun ((ii, jj, xs) : Int × Int × List D) => [(0, .own 0), (1, .d (.int .i64 ((a : Int)))), (10, .d (.int .i64 (ii))), (11, .d (.int .i64 (jj))), (ghostAt, .own 0)]) (fun ((ii, jj, xs) : Int × Int × List D) => [(0, some (.row 1 xs))]) 1 (fun ((ii, jj, xs) : Int × Int × List D) => ∃ (i j : Nat) (e : Array Int), ii = i ∧ jj = j ∧ xs = e.toList.map (D.int .i64) ∧ a < i ∧ i ≤ j + 2 ∧ j < b ∧ e.size = d.size ∧ Sort.partLoop Sort.ltInt a i j e = Q) (fun ((ii, jj, xs) : Int × Int × List D) => (jj + 1 - ii).toNat) (((k : Int) + 1, (m : Int) - 1, _)) [(0, 0)] [] (⟨k + 1, m - 1, e1, by omega, by omega, hsq, by omega, by omega, by omega, hes, hQ⟩) (by (refine ⟨rfl,rfl,rfl,?_,?_⟩;repeat' first|exact trivial|exact rfl|refine And.intro ?_ ?_|refine ⟨_,rfl,?_⟩|decide)) ?_
         clear hel he hk hm hik hkj hmj hkm hid hjd he0 hQ
         rintro ⟨_, _, _⟩ ⟨i, j, e, rfl, rfl, rfl, hi, hij, hjb, he, hJ⟩
         have hel : e.toList.length = d.size := by rw [Array.length_toList]; exact he
         rw [Sort.partLoop_eq] at hJ
         (repeat' ((conv=>whnf);refine vA ?_));all_goals try conv=>whnf
         refine loop_mem (fun (kk : Int) => [(0, .own 0), (1, .d (.int .i64 ((a : Int)))), (10, .d (.int .i64 (kk))), (11, .d (.int .i64 ((j : Int)))), (ghostAt, .own 0)]) (fun (kk : Int) => [(0, some (rowint e))]) 1 (fun (kk : Int) => ∃ k : Nat, kk = k ∧ i ≤ k ∧ k ≤ j + 2 ∧ Sort.scanUp (fun x => Sort.ltInt x e[a]!) e j k = Sort.scanUp (fun x => Sort.ltInt x e[a]!) e j i) (fun (kk : Int) => ((j : Int) + 1 - kk).toNat) ((i : Int)) [(0, 0)] [] (⟨i, by omega, by omega, by omega, rfl⟩) (by (refine ⟨rfl,rfl,rfl,?_,?_⟩;repeat' first|exact trivial|exact rfl|refine And.intro ?_ ?_|refine ⟨_,rfl,?_⟩|decide)) ?_
         rintro _ ⟨k, rfl, hik, hkj, hK⟩
         (repeat' ((conv=>whnf);first|refine vA ?_|(refine vF ?_ ?_<;>intro hc<;>try simp only [vL] at hc)|(refine vQ ?_ fun x hx=>?_;·omega)|((first|refine vO ?_ ?_|refine vP ?_ ?_);·first|omega|(simp only [vM] at *;omega))|(refine vU ?_ ?_;·kernel_rfl)|refine yD (fn_Less_int _ _) ⟨⟨rfl,rfl⟩,⟨rfl,rfl⟩,rfl⟩ rfl ?_));all_goals try conv=>whnf
         all_goals first
         | (have g1 := arr_at a ‹e.toList[(a : Int).toNat]? = some _› rfl
            have g2 := arr_at k ‹e.toList[(k : Int).toNat]? = some _› rfl
            refine ⟨_, [(0, 0)], [], ?_, ?_, by (refine ⟨rfl,rfl,rfl,?_,?_⟩;repeat' first|exact trivial|exact rfl|refine And.intro ?_ ?_|refine ⟨_,rfl,?_⟩|decide)⟩
            · exact ⟨k + 1, by omega, by omega, by omega, (su_next (by omega) (by show Sort.ltInt e[k]! e[a]! = true; rw [lt_at (lt := Sort.ltInt) g2 g1]; exact decide_eq_true (by omega))).trans hK⟩
            · (omega))
         | skip
         all_goals
           have hk : Sort.scanUp (fun x => Sort.ltInt x e[a]!) e j i = k := hK.symm.trans (su_stop fun h => by
             first
             | omega
             | (have g1 := arr_at a ‹e.toList[(a : Int).toNat]? = some _› rfl
                have g2 := arr_at k ‹e.toList[(k : Int).toNat]? = some _› rfl
                have h2 : Sort.ltInt e[k]! e[a]! = true := h.2
                rw [lt_at (lt := Sort.ltInt) g2 g1] at h2
                skip
                have := of_decide_eq_true h2
                omega))
           clear hK
           rw [hk] at hJ
           refine loop_mem (fun (kk : Int) => [(0, .own 0), (1, .d (.int .i64 ((a : Int)))), (10, .d (.int .i64 ((k : Int)))), (11, .d (.int .i64 (kk))), (ghostAt, .own 0)]) (fun (kk : Int) => [(0, some (rowint e))]) 1 (fun (kk : Int) => ∃ m : Nat, kk = m ∧ m ≤ j ∧ k ≤ m + 2 ∧ Sort.scanDown (fun x => !Sort.ltInt x e[a]!) e k m = Sort.scanDown (fun x => !Sort.ltInt x e[a]!) e k j) (fun (kk : Int) => (kk + 1).toNat) ((j : Int)) [(0, 0)] [] (⟨j, by omega, by omega, by omega, rfl⟩) (by (refine ⟨rfl,rfl,rfl,?_,?_⟩;repeat' first|exact trivial|exact rfl|refine And.intro ?_ ?_|refine ⟨_,rfl,?_⟩|decide)) ?_
           rintro _ ⟨m, rfl, hmj, hkm, hM⟩
           (repeat' ((conv=>whnf);first|refine vA ?_|refine vE ?_|(refine vF ?_ ?_<;>intro hc<;>try simp only [vL] at hc)|refine vN ‹_› ?_|(refine vQ ?_ fun x hx=>?_;·omega)|((first|refine vO ?_ ?_|refine vP ?_ ?_);·first|omega|(simp only [vM] at *;omega))|(refine vU ?_ ?_;·kernel_rfl)|refine yD (fn_Less_int _ _) ⟨⟨rfl,rfl⟩,⟨rfl,rfl⟩,rfl⟩ rfl ?_));all_goals try conv=>whnf
           all_goals first
           | (have g1 := arr_at a ‹e.toList[(a : Int).toNat]? = some _› rfl
              have g2 := arr_at m ‹e.toList[(m : Int).toNat]? = some _› rfl
              refine ⟨_, [(0, 0)], [], ?_, ?_, by (refine ⟨rfl,rfl,rfl,?_,?_⟩;repeat' first|exact trivial|exact rfl|refine And.intro ?_ ?_|refine ⟨_,rfl,?_⟩|decide)⟩
              · exact ⟨m - 1, by omega, by omega, by omega, (sd_next (by omega) (by omega) (by show (!Sort.ltInt e[m]! e[a]!) = true; rw [lt_at (lt := Sort.ltInt) g2 g1]; simp only [Bool.not_eq_true']; exact decide_eq_false (by omega))).trans hM⟩
              · (omega))
           | skip
           all_goals
             have hm : Sort.scanDown (fun x => !Sort.ltInt x e[a]!) e k j = m := hM.symm.trans (sd_stop fun h => by
               first
               | omega
               | (have g1 := arr_at a ‹e.toList[(a : Int).toNat]? = some _› rfl
                  have g2 := arr_at m ‹e.toList[(m : Int).toNat]? = some _› rfl
                  have h2 : (!Sort.ltInt e[m]! e[a]!) = true := h.2
                  rw [lt_at (lt := Sort.ltInt) g2 g1] at h2
                  simp only [Bool.not_eq_true'] at h2
                  have := of_decide_eq_false h2
                  omega))
             clear hM
             rw [hm] at hJ
             first
             | (exfalso; omega)
             | (rw [if_pos (by omega)] at hJ
                subst hJ
                subst hI
                rw [show rowint (Sort.swp e m a) = Ob.row 1 _ from congrArg (Ob.row 1) (swp_rowI _ _ ‹e.toList[(m : Int).toNat]? = some _› ‹e.toList[(a : Int).toNat]? = some _› rfl rfl).symm]
                refine ⟨trivial, _, [(0, 0)], [], rfl, .inl (by (repeat' first|exact rfl|exact .inr (.inr ⟨rfl,rfl⟩)|refine And.intro ?_ ?_|refine ⟨_,rfl,?_⟩)), ⟨by rfl, by rfl, by rfl, trivial, by (repeat' first|exact trivial|exact rfl|refine And.intro ?_ ?_|refine ⟨_,rfl,?_⟩|exact of_decide_eq_true rfl)⟩, by (repeat' first|exact trivial|exact rfl|refine And.intro ?_ ?_)⟩
                done)
             | (rw [if_neg (by omega)] at hJ
                refine ⟨(_, _, _), [(0, 0)], [], ?_, ?_, by (refine ⟨rfl,rfl,rfl,?_,?_⟩;repeat' first|exact trivial|exact rfl|refine And.intro ?_ ?_|refine ⟨_,rfl,?_⟩|decide)⟩
                · exact ⟨k + 1, m - 1, Sort.swp e k m, by omega, by omega, swp_rowI _ _ ‹e.toList[(k : Int).toNat]? = some _› ‹e.toList[(m : Int).toNat]? = some _› rfl rfl, by omega, by omega, by omega, by rw [swp_size, he], hJ⟩
                · ((simp only [vM] at *;omega))))
end Go.Ab
namespace Go.Ab
open Go Go.Proofs
set_option linter.unusedSimpArgs false
set_option linter.unusedVariables false
set_option maxRecDepth 10000
set_option maxHeartbeats 4000000
variable {T:Nat→Obj→Prop}
theorem swo_int:Sort.SWO Sort.ltInt:=Sort.swo_ltInt
set_option maxHeartbeats 4000000 in
theorem fn_pdq_int : ∀ (N:Nat) (d:Array Int) {a b l:Nat} {ai bi li:Int} (ea:ai=a) (eb:bi=b) (el:li=l) (hN:b - a≤N) (hab:a≤b) (hb:b≤d.size) (hs:d.size≤536870912) (hl:l≤1000),
  Fn Tryz.prog T f_slices_pdqsortOrdered_int_ [.own 0,.d (.int .i64 ai),.d (.int .i64 bi),.d (.int .i64 li)] [rowint d] (.tup []) [some (rowint (Sort.pdq Sort.ltInt d a b l true true))]:=by
 intro N
 induction N using Nat.strongRecOn with
 | _ N ih =>
 intro d a b l ai bi li ea eb el hN hab hb hs hl
 subst ea;subst eb;subst el
 generalize hR:Sort.pdq Sort.ltInt d a b l true true=R
 refine fn_introR hmix k_slices_pdqsortOrdered_int_ (by show 4≤134;decide) _ (fun e env mem n h=>h) ?_
 (repeat' ((conv=>whnf);fail));all_goals try conv=>whnf
 refine loop_mem (fun ((ai,bi,li,wb,wp,xs):Int×Int×Int×Bool×Bool×List D)=>[(0,.own 0),(1,.d (.int .i64 (ai))),(2,.d (.int .i64 (bi))),(3,.d (.int .i64 (li))),(8,.d (.bool (wb))),(9,.d (.bool (wp))),(ghostAt,.own 0)]) (fun ((ai,bi,li,wb,wp,xs):Int×Int×Int×Bool×Bool×List D)=>[(0,some (.row 1 xs))]) 1 (fun ((ai,bi,li,wb,wp,xs):Int×Int×Int×Bool×Bool×List D) => ∃ (i j l:Nat) (e:Array Int),ai=i∧bi=j∧li=l∧xs=e.toList.map (D.int .i64)∧a≤i∧i≤j∧j≤b∧l≤1000∧e.size=d.size∧Sort.pdq Sort.ltInt e i j l wb wp=R) (fun ((ai,bi,li,wb,wp,xs):Int×Int×Int×Bool×Bool×List D)=>(bi - ai).toNat) (((a:Int),(b:Int),(l:Int),true,true,d.toList.map (D.int .i64))) [(0,0)] [] (⟨a,b,l,d,rfl,rfl,rfl,rfl,Nat.le_refl _,hab,Nat.le_refl _,hl,rfl,hR⟩) (by (refine ⟨rfl,rfl,rfl,?_,?_⟩;repeat' first|exact trivial|exact rfl|exact .inr (.inl ⟨rfl,rfl⟩)|refine And.intro ?_ ?_|refine ⟨_,rfl,?_⟩|decide)) ?_
 rintro ⟨_,_,_,wb,wp,_⟩ ⟨i,j,l,e,rfl,rfl,rfl,rfl,hi,hij,hj,hl,he,hI⟩
 have hq:((j:Int) - (i:Int)).tdiv 8=((j - i) / 8:Nat):=by rw [Int.tdiv_eq_ediv_of_nonneg (by omega)];omega
 (repeat' ((conv=>whnf);first|refine SeqS.but 35 rfl ?_|(refine vF ?_ ?_<;>intro hc<;>try simp only [vL] at hc)|(refine vO ?_ ?_;·omega)|fail));all_goals try conv=>whnf
 ·have hI:Sort.insertionSort Sort.ltInt e i j=R:=by rw [Sort.pdq,if_pos (by omega)] at hI;exact hI
  subst hI
  refine CallS.objs [0] (fn_ins_int' e (a:=i) (b:=j) rfl rfl (by omega) (by omega) (by omega)) (by (repeat' first|exact rfl|refine And.intro ?_ ?_|refine ⟨_,rfl,?_⟩)) (by (repeat' first|exact rfl|refine And.intro ?_ ?_)) (by rfl) (by rfl) (by simp) ?_
  (repeat' ((conv=>whnf);fail));all_goals try conv=>whnf
  refine ⟨trivial,_,[(0,0)],[],rfl,.inl (by (repeat' first|exact rfl|refine ⟨_,rfl,?_⟩)),⟨by rfl,by rfl,by rfl,trivial,by (repeat' first|exact trivial|exact rfl|refine And.intro ?_ ?_|refine ⟨_,rfl,?_⟩|exact of_decide_eq_true rfl)⟩,by (repeat' first|exact trivial|exact rfl|refine And.intro ?_ ?_)⟩
 ·have hI:Sort.heapSort Sort.ltInt e i j=R:=by rw [Sort.pdq,if_neg (by omega),if_pos (by omega)] at hI;exact hI
  subst hI
  refine CallS.objs [0] (fn_heap_int e (a:=i) (b:=j) rfl rfl (by omega) (by omega) (by omega)) (by (repeat' first|exact rfl|refine And.intro ?_ ?_|refine ⟨_,rfl,?_⟩)) (by (repeat' first|exact rfl|refine And.intro ?_ ?_)) (by rfl) (by rfl) (by simp) ?_
  (repeat' ((conv=>whnf);fail));all_goals try conv=>whnf
  refine ⟨trivial,_,[(0,0)],[],rfl,.inl (by (repeat' first|exact rfl|refine ⟨_,rfl,?_⟩)),⟨by rfl,by rfl,by rfl,trivial,by (repeat' first|exact trivial|exact rfl|refine And.intro ?_ ?_|refine ⟨_,rfl,?_⟩|exact of_decide_eq_true rfl)⟩,by (repeat' first|exact trivial|exact rfl|refine And.intro ?_ ?_)⟩
 have h12 : ¬j - i≤12:=by omega
 rw [pdq_go swo_int h12 (by omega) (by omega)] at hI
 refine SeqS.cut (fun ((li,xs):Int×List D)=>[(0,.own 0),(1,.d (.int .i64 ((i:Int)))),(2,.d (.int .i64 ((j:Int)))),(3,.d (.int .i64 (li))),(8,.d (.bool (wb))),(9,.d (.bool (wp))),(10,.d (.int .i64 (((j:Int) - (i:Int))))),(ghostAt,.own 0)]) (fun ((li,xs):Int×List D)=>[(0,some (.row 1 xs))]) 1 (fun ((li,xs):Int×List D) => ∃ (m:Nat) (u:Array Int),li=m∧xs=u.toList.map (D.int .i64)∧m≤1000∧u.size=d.size∧pdqC Sort.ltInt u i j m wb wp=R) ?_ ?_
 ·(repeat' ((conv=>whnf);first|refine vE ?_|(refine vI ?_ ?_<;>intro hc)));all_goals try conv=>whnf
  ·refine ⟨(_,_),[(0,0)],[],?_,by (refine ⟨rfl,rfl,rfl,?_,?_⟩;repeat' first|exact trivial|exact rfl|exact .inl rfl|refine And.intro ?_ ?_|refine ⟨_,rfl,?_⟩|decide)⟩
   exact ⟨l,e,rfl,rfl,hl,he,by rw [if_pos ‹_›] at hI;exact hI⟩
  ·have hbs:=Sort.breakPatterns_holds e i j (by omega) (by omega)
   refine CallS.objs [0] (fn_brk_int e (a:=i) (b:=j) rfl rfl (by omega) (by omega) (by omega)) (by (repeat' first|exact rfl|refine And.intro ?_ ?_|refine ⟨_,rfl,?_⟩)) (by (repeat' first|exact rfl|refine And.intro ?_ ?_)) (by rfl) (by rfl) (by simp) ?_
   (repeat' ((conv=>whnf);first|(refine vO ?_ ?_;·omega)|fail));all_goals try conv=>whnf
   refine ⟨(_,_),[(0,0)],[],?_,by (refine ⟨rfl,rfl,rfl,?_,?_⟩;repeat' first|exact trivial|exact rfl|exact .inl rfl|refine And.intro ?_ ?_|refine ⟨_,rfl,?_⟩|decide)⟩
   exact ⟨l - 1,_,by omega,rfl,by omega,hbs.1.trans he,by rw [if_neg (by simp [‹wb=false›])] at hI;exact hI⟩
 clear hI hl he
 rintro ⟨_,_⟩ ⟨m,u,rfl,rfl,hm,hu,hI⟩
 have hc0:=Sort.choosePivot_holds Sort.ltInt u i j (by omega)
 (repeat' ((conv=>whnf);fail));all_goals try conv=>whnf
 refine CallS.objs [0] (fn_pivot_int u (a:=i) (b:=j) rfl rfl (by omega) (by omega) (by omega)) (by (repeat' first|exact rfl|refine And.intro ?_ ?_|refine ⟨_,rfl,?_⟩)) (by (repeat' first|exact rfl|refine And.intro ?_ ?_)) (by rfl) (by rfl) (by simp) ?_
 rw [pdqC] at hI
 generalize Sort.choosePivot Sort.ltInt u i j=c at hI hc0
 obtain ⟨p,h⟩:=c
 have hp1:i≤p:=hc0.1
 have hp2:p < j:=hc0.2
 clear hc0
 (repeat' ((conv=>whnf);fail));all_goals try conv=>whnf
 refine SeqS.cut (fun ((pe,h,xs):Int×Sort.Hint×List D)=>[(0,.own 0),(1,.d (.int .i64 ((i:Int)))),(2,.d (.int .i64 ((j:Int)))),(3,.d (.int .i64 ((m:Int)))),(8,.d (.bool (wb))),(9,.d (.bool (wp))),(10,.d (.int .i64 (((j:Int) - (i:Int))))),(11,.d (.int .i64 (pe))),(12,.d (.int .i64 ((Sort.hintCode h)))),(ghostAt,.own 0)]) (fun ((pe,h,xs):Int×Sort.Hint×List D)=>[(0,some (.row 1 xs))]) 1 (fun ((pe,h,xs):Int×Sort.Hint×List D) => ∃ (p:Nat) (w:Array Int),pe=p∧xs=w.toList.map (D.int .i64)∧i≤p∧p < j∧w.size=d.size∧pdqD Sort.ltInt w i j p m wb wp h=R) ?_ ?_
 ·have hcode:(Sort.hintCode h=2)↔h = .decreasing:=by cases h<;>simp [Sort.hintCode]
  (repeat' ((conv=>whnf);(refine vF ?_ ?_<;>intro hc<;>try simp only [vL] at hc)));all_goals try conv=>whnf
  ·have hd:=hcode.1 hc
   rw [if_pos hd] at hI
   have hrs:=(Sort.reverseRange_holds u i j (by omega) (by omega)).1.trans hu
   refine CallS.objs [0] (fn_rev_int u (a:=i) (b:=j) rfl rfl (by omega) (by omega) (by omega)) (by (repeat' first|exact rfl|refine And.intro ?_ ?_|refine ⟨_,rfl,?_⟩)) (by (repeat' first|exact rfl|refine And.intro ?_ ?_)) (by rfl) (by rfl) (by simp) ?_
   (repeat' ((conv=>whnf);first|(refine vO ?_ ?_;·omega)|fail));all_goals try conv=>whnf
   refine ⟨(_,Sort.Hint.increasing,_),[(0,0)],[],?_,by (refine ⟨rfl,rfl,rfl,?_,?_⟩;repeat' first|exact trivial|exact rfl|exact .inl rfl|refine And.intro ?_ ?_|refine ⟨_,rfl,?_⟩|decide)⟩
   exact ⟨j - 1 - (p - i),_,by omega,rfl,by omega,by omega,hrs,hI⟩
  ·have hd:=mt hcode.2 hc
   rw [if_neg hd] at hI
   refine ⟨(_,h,_),[(0,0)],[],?_,by (refine ⟨rfl,rfl,rfl,?_,?_⟩;repeat' first|exact trivial|exact rfl|exact .inl rfl|refine And.intro ?_ ?_|refine ⟨_,rfl,?_⟩|decide)⟩
   exact ⟨p,u,rfl,rfl,hp1,hp2,hu,hI⟩
 clear hp1 hp2
 clear hI hu
 rintro ⟨_,h,_⟩ ⟨p,w,rfl,rfl,hp1,hp2,hw,hI⟩
 have hcode:(Sort.hintCode h=1)↔h = .increasing:=by cases h<;>simp [Sort.hintCode]
 rw [pdqD] at hI
 (repeat' ((conv=>whnf);fail));all_goals try conv=>whnf
 refine SeqS.cut (fun (xs:List D)=>[(0,.own 0),(1,.d (.int .i64 ((i:Int)))),(2,.d (.int .i64 ((j:Int)))),(3,.d (.int .i64 ((m:Int)))),(8,.d (.bool (wb))),(9,.d (.bool (wp))),(10,.d (.int .i64 (((j:Int) - (i:Int))))),(11,.d (.int .i64 ((p:Int)))),(ghostAt,.own 0)]) (fun (xs:List D)=>[(0,some (.row 1 xs))]) 1 (fun (xs:List D) => ∃ v:Array Int,xs=v.toList.map (D.int .i64)∧v.size=d.size∧pdqTail Sort.ltInt v i j p m wb wp=R) ?_ ?_
 ·(repeat' ((conv=>whnf);fail));all_goals try conv=>whnf
  refine SeqS.cut (fun (t:Bool)=>[(0,.own 0),(1,.d (.int .i64 ((i:Int)))),(2,.d (.int .i64 ((j:Int)))),(3,.d (.int .i64 ((m:Int)))),(8,.d (.bool (wb))),(9,.d (.bool (wp))),(10,.d (.int .i64 (((j:Int) - (i:Int))))),(11,.d (.int .i64 ((p:Int)))),(68,.d (.bool (t))),(ghostAt,.own 0)]) (fun (t:Bool)=>[(0,some (rowint w))]) 1 (fun (t:Bool)=>t=true↔(wb=true∧wp=true∧h = .increasing)) ?_ ?_
  ·(repeat' ((conv=>whnf);(refine vI ?_ ?_<;>intro hc)));all_goals try conv=>whnf
   ·refine ⟨decide (Sort.hintCode h=1),[(0,0)],[],?_,by (refine ⟨rfl,rfl,rfl,?_,?_⟩;repeat' first|exact trivial|exact rfl|exact .inl rfl|refine And.intro ?_ ?_|refine ⟨_,rfl,?_⟩|decide)⟩
    rw [decide_eq_true_iff,hcode];simp [*]
   ·refine ⟨false,[(0,0)],[],?_,by (refine ⟨rfl,rfl,rfl,?_,?_⟩;repeat' first|exact trivial|exact rfl|exact .inl rfl|exact .inr (.inr ⟨rfl,rfl⟩)|refine And.intro ?_ ?_|refine ⟨_,rfl,?_⟩|decide)⟩
    simp [*]
   ·refine ⟨false,[(0,0)],[],?_,by (refine ⟨rfl,rfl,rfl,?_,?_⟩;repeat' first|exact trivial|exact rfl|exact .inl rfl|exact .inr (.inr ⟨rfl,rfl⟩)|refine And.intro ?_ ?_|refine ⟨_,rfl,?_⟩|decide)⟩
    simp [*]
  rintro t ht
  (repeat' ((conv=>whnf);(refine vI ?_ ?_<;>intro hc)));all_goals try conv=>whnf
  ·rw [if_pos (ht.1 ‹_›)] at hI
   have hps:=pins_size (lt:=Sort.ltInt) (d:=w) (a:=i) (b:=j)
   refine CallS.objs [0] (fn_part_int w (a:=i) (b:=j) rfl rfl (by omega) (by omega) (by omega)) (by (repeat' first|exact rfl|refine And.intro ?_ ?_|refine ⟨_,rfl,?_⟩)) (by (repeat' first|exact rfl|refine And.intro ?_ ?_)) (by rfl) (by rfl) (by simp) ?_
   generalize Sort.partialInsertionSort Sort.ltInt w i j=r at hI hps
   obtain ⟨v,fin⟩:=r
   have hv:v.size=d.size:=hps.trans hw
   (repeat' ((conv=>whnf);(refine vI ?_ ?_<;>intro hc<;>try simp only [vL] at hc)));all_goals try conv=>whnf
   ·rw [if_pos ‹_›] at hI
    have hI:v=R:=hI
    subst hI
    refine ⟨trivial,_,[(0,0)],[],rfl,.inl (by (repeat' first|exact rfl|refine ⟨_,rfl,?_⟩)),⟨by rfl,by rfl,by rfl,trivial,by (repeat' first|exact trivial|exact rfl|refine And.intro ?_ ?_|refine ⟨_,rfl,?_⟩|exact of_decide_eq_true rfl)⟩,by (repeat' first|exact trivial|exact rfl|refine And.intro ?_ ?_)⟩
   ·rw [if_neg (by simp [‹fin=false›])] at hI
    refine ⟨_,[(0,0)],[],?_,by (refine ⟨rfl,rfl,rfl,?_,?_⟩;repeat' first|exact trivial|exact rfl|exact .inl rfl|refine And.intro ?_ ?_|refine ⟨_,rfl,?_⟩|decide)⟩
    exact ⟨v,rfl,hv,hI⟩
  ·rw [if_neg (fun h=>by have:=ht.2 h;simp_all)] at hI
   refine ⟨_,[(0,0)],[],?_,by (refine ⟨rfl,rfl,rfl,?_,?_⟩;repeat' first|exact trivial|exact rfl|exact .inl rfl|refine And.intro ?_ ?_|refine ⟨_,rfl,?_⟩|decide)⟩
   exact ⟨w,rfl,hw,hI⟩
 clear hI hw
 rintro _ ⟨v,rfl,hv,hI⟩
 have hvl:v.toList.length=d.size:=by rw [Array.length_toList];exact hv
 rw [pdqTail] at hI
 (repeat' ((conv=>whnf);refine SeqS.but 100087 rfl ?_));all_goals try conv=>whnf
 refine SeqS.cut (fun (t:Bool)=>[(0,.own 0),(1,.d (.int .i64 ((i:Int)))),(2,.d (.int .i64 ((j:Int)))),(3,.d (.int .i64 ((m:Int)))),(8,.d (.bool (wb))),(9,.d (.bool (wp))),(10,.d (.int .i64 (((j:Int) - (i:Int))))),(11,.d (.int .i64 ((p:Int)))),(87,.d (.bool (t))),(ghostAt,.own 0)]) (fun (t:Bool)=>[(0,some (rowint v))]) 1 (fun (t:Bool)=>t=true↔(i > 0∧Sort.ltInt v[i - 1]! v[p]! = false)) ?_ ?_
 ·(repeat' ((conv=>whnf);first|(refine vF ?_ ?_<;>intro hc<;>try simp only [vL] at hc)|(refine vQ ?_ fun x hx=>?_;·omega)|((first|refine vO ?_ ?_|refine vP ?_ ?_);·first|omega|(simp only [vM] at *;omega))|(refine vU ?_ ?_;·kernel_rfl)|refine yD (fn_Less_int _ _) ⟨⟨rfl,rfl⟩,⟨rfl,rfl⟩,rfl⟩ rfl ?_));all_goals try conv=>whnf
  ·have g1:=arr_at (i - 1) ‹v.toList[((i:Int) - 1).toNat]? = some _› (by omega)
   have g2:=arr_at p ‹v.toList[(p:Int).toNat]? = some _› (by omega)
   refine ⟨_,[(0,0)],[],?_,by (refine ⟨rfl,rfl,rfl,?_,?_⟩;repeat' first|exact trivial|exact rfl|exact .inl rfl|refine And.intro ?_ ?_|refine ⟨_,rfl,?_⟩|decide)⟩
   rw [lt_at (lt:=Sort.ltInt) g1 g2]
   have:i > 0:=by omega
   simp [this]
  ·refine ⟨false,[(0,0)],[],?_,by (refine ⟨rfl,rfl,rfl,?_,?_⟩;repeat' first|exact trivial|exact rfl|exact .inl rfl|exact .inr (.inr ⟨rfl,rfl⟩)|refine And.intro ?_ ?_|refine ⟨_,rfl,?_⟩|decide)⟩
   simp;omega
 rintro t ht
 (repeat' ((conv=>whnf);(refine vI ?_ ?_<;>intro hc)));all_goals try conv=>whnf
 ·rw [if_pos (ht.1 ‹_›)] at hI
  have hq1:=pareq_range (lt:=Sort.ltInt) (d:=v) (a:=i) (b:=j) (p:=p) (by omega) (by omega)
  refine CallS.objs [0] (fn_pareq_int v (a:=i) (b:=j) (p:=p) rfl rfl rfl (by omega) (by omega) (by omega) (by omega)) (by (repeat' first|exact rfl|refine And.intro ?_ ?_|refine ⟨_,rfl,?_⟩)) (by (repeat' first|exact rfl|refine And.intro ?_ ?_)) (by rfl) (by rfl) (by simp) ?_
  (repeat' ((conv=>whnf);fail));all_goals try conv=>whnf
  refine ⟨(_,_,_,_,_,_),[(0,0)],[],?_,?_,by (refine ⟨rfl,rfl,rfl,?_,?_⟩;repeat' first|exact trivial|exact rfl|exact .inl rfl|refine And.intro ?_ ?_|refine ⟨_,rfl,?_⟩|decide)⟩
  ·exact ⟨(Sort.partitionEqual Sort.ltInt v i j p).1,j,m,(Sort.partitionEqual Sort.ltInt v i j p).2,rfl,rfl,rfl,rfl,by omega,by omega,by omega,by omega,by omega,hI⟩
  ·((simp only [vM] at *;omega))
 ·rw [if_neg (fun h=>by have:=ht.2 h;simp_all)] at hI
  have hq1:=Sort.partition_holds Sort.ltInt swo_int v i j p (by omega) (by omega) (by omega)
  refine CallS.objs [0] (fn_par_int v (a:=i) (b:=j) (p:=p) rfl rfl rfl (by omega) (by omega) (by omega) (by omega)) (by (repeat' first|exact rfl|refine And.intro ?_ ?_|refine ⟨_,rfl,?_⟩)) (by (repeat' first|exact rfl|refine And.intro ?_ ?_)) (by rfl) (by rfl) (by simp) ?_
  generalize Sort.partition Sort.ltInt v i j p=r at hq1 hI
  obtain ⟨mid,ap,d4⟩:=r
  obtain ⟨q1,q2,q3,-⟩:=hq1
  have q1:i≤mid:=q1
  have q2:mid < j:=q2
  have q3:d4.size=d.size:=q3.1.trans hv
  (repeat' ((conv=>whnf);first|(refine vF ?_ ?_<;>intro hc<;>try simp only [vL] at hc)|((first|refine vO ?_ ?_|refine vP ?_ ?_);·omega)|fail));all_goals try conv=>whnf
  ·rw [if_pos (by omega)] at hI
   have hsz:=pdq_size swo_int (mid - i) d4 i mid m true true (Nat.le_refl _) q1 (by omega)
   refine CallS.objs [0] (ih (mid - i) (by omega) d4 (a:=i) (b:=mid) (l:=m) (ai:=(i:Int)) (bi:=(mid:Int)) (li:=(m:Int)) rfl rfl rfl (Nat.le_refl _) (by omega) (by omega) (by omega) (by omega)) (by (repeat' first|exact rfl|refine And.intro ?_ ?_|refine ⟨_,rfl,?_⟩)) (by (repeat' first|exact rfl|refine And.intro ?_ ?_)) (by rfl) (by rfl) (by simp) ?_
   (repeat' ((conv=>whnf);first|(refine vO ?_ ?_;·omega)|fail));all_goals try conv=>whnf
   refine ⟨(_,_,_,_,_,_),[(0,0)],[],?_,?_,by (refine ⟨rfl,rfl,rfl,?_,?_⟩;repeat' first|exact trivial|exact rfl|exact .inl rfl|refine And.intro ?_ ?_|refine ⟨_,rfl,?_⟩|decide)⟩
   ·exact ⟨mid+1,j,m,_,by omega,rfl,rfl,rfl,by omega,by omega,by omega,by omega,by omega,(congrArg (fun z=>Sort.pdq Sort.ltInt (Sort.pdq Sort.ltInt d4 i mid m true true) (mid+1) j m z ap) (decide_eq_decide.2 (by omega))).trans hI⟩
   ·((simp only [vM] at *;omega))
  ·rw [if_neg (by omega)] at hI
   have hsz:=pdq_size swo_int (j - (mid+1)) d4 (mid+1) j m true true (Nat.le_refl _) (by omega) (by omega)
   refine CallS.objs [0] (ih (j - (mid+1)) (by omega) d4 (a:=mid+1) (b:=j) (l:=m) (ai:=(mid:Int)+1) (bi:=(j:Int)) (li:=(m:Int)) (by omega) rfl rfl (Nat.le_refl _) (by omega) (by omega) (by omega) (by omega)) (by (repeat' first|exact rfl|refine And.intro ?_ ?_|refine ⟨_,rfl,?_⟩)) (by (repeat' first|exact rfl|refine And.intro ?_ ?_)) (by rfl) (by rfl) (by simp) ?_
   (repeat' ((conv=>whnf);fail));all_goals try conv=>whnf
   refine ⟨(_,_,_,_,_,_),[(0,0)],[],?_,?_,by (refine ⟨rfl,rfl,rfl,?_,?_⟩;repeat' first|exact trivial|exact rfl|exact .inl rfl|refine And.intro ?_ ?_|refine ⟨_,rfl,?_⟩|decide)⟩
   ·exact ⟨i,mid,m,_,rfl,rfl,rfl,rfl,by omega,by omega,by omega,by omega,by omega,(congrArg (fun z=>Sort.pdq Sort.ltInt (Sort.pdq Sort.ltInt d4 (mid+1) j m true true) i mid m z ap) (decide_eq_decide.2 (by omega))).trans hI⟩
   ·((simp only [vM] at *;omega))
end Go.Ab
namespace Go.Ab
open Go Go.Proofs
set_option linter.unusedSimpArgs false
set_option linter.unusedVariables false
set_option maxRecDepth 10000
set_option maxHeartbeats 4000000
variable {T:Nat→Obj→Prop}
set_option maxHeartbeats 1000000 in
theorem fn_Sort_int (d:Array Int) (hs:d.size≤536870912):Fn Tryz.prog T f_slices_Sort_Lint_int_ [.own 0] [rowint d] (.tup []) [some (rowint (Sort.sort Sort.ltInt d))]:=by
 have hn:((BitVec.ofInt 64 (d.size:Int)).toNat)=d.size:=by simp;omega
 have hl:Sort.bitsLen d.size≤30:=(Sort.bitsLen_le_iff d.size 30).2 (Nat.lt_of_le_of_lt hs (by decide))
 refine fn_introR hmix k_slices_Sort_Lint_int_ (by show 1≤11;decide) _ (fun e env mem n h=>h) ?_
 (repeat' ((conv=>whnf);first|refine vJ fun hg=>?_|refine yD (fn_Len _) ⟨⟨rfl,rfl⟩,rfl⟩ rfl ?_));all_goals try conv=>whnf
 refine CallS.objs [0] (fn_pdq_int d.size d (a:=0) (b:=d.size) (l:=Sort.bitsLen d.size) (ai:=0) (bi:=((d.toList.map (D.int .i64)).length:Int)) (li:=((Sort.bitsLen (BitVec.ofInt 64 ((d.toList.map (D.int .i64)).length:Int)).toNat:Nat):Int)) rfl (by simp) (by rw [List.length_map,Array.length_toList,hn]) (by omega) (by omega) (by omega) hs (by omega)) (by (repeat' first|exact rfl|refine And.intro ?_ ?_|refine ⟨_,rfl,?_⟩)) (by (repeat' first|exact rfl|refine And.intro ?_ ?_)) (by rfl) (by rfl) (by simp) ?_
 (repeat' ((conv=>whnf);fail));all_goals try conv=>whnf
 refine ⟨trivial,_,[(0,0)],[],rfl,.inl (by (repeat' first|exact rfl|refine ⟨_,rfl,?_⟩)),⟨by rfl,by rfl,by rfl,trivial,by (repeat' first|exact trivial|exact rfl|refine And.intro ?_ ?_|refine ⟨_,rfl,?_⟩|exact of_decide_eq_true rfl)⟩,by (repeat' first|exact trivial|exact rfl|refine And.intro ?_ ?_)⟩
set_option maxHeartbeats 1000000 in
theorem fn_Compact_id_int (d:Array Int) (hs:d.size≤536870912) (hd:Steps d):Fn Tryz.prog T f_slices_Compact_Lint_int_ [.own 0] [rowint d] (.own 0) [some (rowint d)]:=by
 have hln:d.toList.length=d.size:=Array.length_toList
 refine fn_introR hmix k_slices_Compact_Lint_int_ (by show 1≤61;decide) _ (fun e env mem n h=>h) ?_
 (repeat' ((conv=>whnf);first|refine vA ?_|(refine vF ?_ ?_<;>intro hc<;>try simp only [vL] at hc)|refine vJ fun hg=>?_));all_goals try conv=>whnf
 ·refine ⟨trivial,_,[(0,0)],[],rfl,.inl (by (repeat' exact rfl)),⟨by rfl,by rfl,by rfl,trivial,by (repeat' first|exact trivial|exact rfl|refine And.intro ?_ ?_|refine ⟨_,rfl,?_⟩|exact of_decide_eq_true rfl)⟩,by (repeat' first|exact trivial|exact rfl|refine And.intro ?_ ?_)⟩
 refine loop_mem (fun (i:Int)=>[(0,.own 0),(3,.d (.int .i64 (i))),(ghostAt,.own 0)]) (fun (i:Int)=>[(0,some (rowint d))]) 1 (fun (i:Int) => ∃ k:Nat,i=k∧0 < k∧k≤d.size) (fun (i:Int)=>(d.size - i).toNat) (1) [(0,0)] [] (⟨1,rfl,by omega,by omega⟩) (by (refine ⟨rfl,rfl,rfl,?_,?_⟩;repeat' first|exact trivial|exact rfl|refine And.intro ?_ ?_|refine ⟨_,rfl,?_⟩|decide)) ?_
 rintro _ ⟨k,rfl,hk0,hk1⟩
 (repeat' ((conv=>whnf);first|refine vA ?_|(refine vF ?_ ?_<;>intro hc<;>try simp only [vL] at hc)|refine vJ fun hg=>?_|(refine vQ ?_ fun x hx=>?_;·omega)|((first|refine vO ?_ ?_|refine vP ?_ ?_);·first|omega|(simp only [vM] at *;omega))|(refine vU ?_ ?_;·kernel_rfl)|fail));all_goals try conv=>whnf
 ·have g1:=arr_eq (arr_at k ‹d.toList[(k:Int).toNat]? = some _› rfl)
  have g2:=arr_eq (arr_at (k - 1) ‹d.toList[((k:Int) - 1).toNat]? = some _› (by omega))
  exact absurd (g1.1.trans (‹_=_›.trans g2.1.symm)) (hd k hk0 g1.2)
 ·refine ⟨_,[(0,0)],[],?_,?_,by (refine ⟨rfl,rfl,rfl,?_,?_⟩;repeat' first|exact trivial|exact rfl|refine And.intro ?_ ?_|refine ⟨_,rfl,?_⟩|decide)⟩
  ·exact ⟨k+1,by omega,by omega,by omega⟩
  ·(omega)
 ·refine ⟨trivial,_,[(0,0)],[],rfl,.inl (by (repeat' exact rfl)),⟨by rfl,by rfl,by rfl,trivial,by (repeat' first|exact trivial|exact rfl|refine And.intro ?_ ?_|refine ⟨_,rfl,?_⟩|exact of_decide_eq_true rfl)⟩,by (repeat' first|exact trivial|exact rfl|refine And.intro ?_ ?_)⟩
set_option maxHeartbeats 1000000 in
theorem fn_Compact_cut_int (d:Array Int) (hs:d.size≤536870912) (hd : ¬Steps d):Fn Tryz.prog T f_slices_Compact_Lint_int_ [.own 0] [rowint d] (.own 1) [none,some (.row 1 ((ddA d d.size).map (D.int .i64)))]:=by
 generalize hR:(ddA d d.size).map (D.int .i64)=R
 have hln:d.toList.length=d.size:=Array.length_toList
 refine fn_introR hmix k_slices_Compact_Lint_int_ (by show 1≤61;decide) _ (fun e env mem n h=>h) ?_
 (repeat' ((conv=>whnf);first|refine vA ?_|(refine vF ?_ ?_<;>intro hc<;>try simp only [vL] at hc)|refine vJ fun hg=>?_));all_goals try conv=>whnf
 ·exact absurd (fun j hj0 hj1=>by omega) hd
 refine loop_mem (fun (i:Int)=>[(0,.own 0),(3,.d (.int .i64 (i))),(ghostAt,.own 0)]) (fun (i:Int)=>[(0,some (rowint d))]) 1 (fun (i:Int) => ∃ k:Nat,i=k∧0 < k∧k≤d.size ∧ ∀ j,0 < j→j < k→d[j]! ≠ d[j - 1]!) (fun (i:Int)=>(d.size - i).toNat) (1) [(0,0)] [] (⟨1,rfl,by omega,by omega,fun j _ _=>by omega⟩) (by (refine ⟨rfl,rfl,rfl,?_,?_⟩;repeat' first|exact trivial|exact rfl|refine And.intro ?_ ?_|refine ⟨_,rfl,?_⟩|decide)) ?_
 rintro _ ⟨k,rfl,hk0,hk1,hk⟩
 (repeat' ((conv=>whnf);first|refine vA ?_|(refine vF ?_ ?_<;>intro hc<;>try simp only [vL] at hc)|refine vJ fun hg=>?_|(refine vQ ?_ fun x hx=>?_;·omega)|((first|refine vO ?_ ?_|refine vP ?_ ?_);·first|omega|(simp only [vM] at *;omega))|(refine vU ?_ ?_;·kernel_rfl)|fail));all_goals try conv=>whnf
 ·have g1:=arr_eq (arr_at k ‹d.toList[(k:Int).toNat]? = some _› rfl)
  have g2:=arr_eq (arr_at (k - 1) ‹d.toList[((k:Int) - 1).toNat]? = some _› (by omega))
  have hkk:d[k]! = d[k - 1]! := g1.1.trans (‹_=_›.trans g2.1.symm)
  refine loop_mem (fun ((w,q,xs):Int×Int×List D)=>[(0,.own 0),(3,.d (.int .i64 (w))),(4,.view 0 k ((d.toList.map (D.int .i64)).length - k)),(5,.d (.int .i64 (q))),(ghostAt,.own 0)]) (fun ((w,q,xs):Int×Int×List D)=>[(0,some (.row 1 xs))]) 1 (fun ((w,q,xs):Int×Int×List D) => ∃ (a b:Nat) (e:Array Int),w=a∧q=b∧xs=e.toList.map (D.int .i64)∧0 < b∧k+b≤d.size∧a < k+b∧e.size=d.size∧e.toList.take a=ddA d (k+b) ∧ ∀ j,k+b - 1≤j→j < d.size→e[j]! = d[j]!) (fun ((w,q,xs):Int×Int×List D)=>(d.size - k - q).toNat) (((k:Int),(1:Int),d.toList.map (D.int .i64))) [(0,0)] [] (⟨k,1,d,rfl,rfl,rfl,by omega,by omega,by omega,rfl,dd_start hk0 g1.2 hk hkk,fun _ _ _=>rfl⟩) (by (refine ⟨rfl,rfl,rfl,?_,?_⟩;repeat' first|exact trivial|exact rfl|refine And.intro ?_ ?_|refine ⟨_,rfl,?_⟩|decide)) ?_
  rintro ⟨_,_,_⟩ ⟨a,b,e,rfl,rfl,rfl,hb0,hb1,hab,he,ha,hj⟩
  have hle:e.toList.length=e.size:=Array.length_toList
  (repeat' ((conv=>whnf);first|refine vA ?_|((first|refine vD ?_ ?_|refine vF ?_ ?_)<;>intro hc<;>try simp only [vL] at hc)|refine vN ‹_› ?_|(refine vQ ?_ fun x hx=>?_;·omega)|((first|refine vO ?_ ?_|refine vP ?_ ?_);·first|omega|(simp only [vM] at *;omega))|(refine vU ?_ ?_;·kernel_rfl)|fail));all_goals try conv=>whnf
  ·have h1:=arr_eq ‹e.toList[k+((b:Nat):Int).toNat]? = some _›
   have h2:=arr_eq (arr_at (i:=((k+b - 1:Nat):Int)) (k+b - 1) (by rw [← ‹e.toList[k+(((b:Nat):Int) - 1).toNat]? = some _›];congr 1;omega) rfl)
   simp only [Int.toNat_natCast] at h1
   have e1:=hj (k+b) (by omega) (by omega)
   have e2:=hj (k+b - 1) (by omega) (by omega)
   refine ⟨(_,_,_),[(0,0)],[],?_,?_,by (refine ⟨rfl,rfl,rfl,?_,?_⟩;repeat' first|exact trivial|exact rfl|refine And.intro ?_ ?_|refine ⟨_,rfl,?_⟩|decide)⟩
   ·exact ⟨a+1,b+1,e.setIfInBounds a e[k+b]!,by omega,by omega,by rw [h1.1];simp [List.map_set],by omega,by omega,by omega,by simp [he],
     by rw [set_take (by omega),ha,← Nat.add_assoc,dd_add (by rw [← e1,← e2,h1.1,h2.1];assumption),e1],
     fun j h0 h1=>by rw [set_get (by omega)];exact hj j (by omega) h1⟩
   ·((simp only [vM] at *;omega))
  ·have h1:=arr_eq ‹e.toList[k+((b:Nat):Int).toNat]? = some _›
   have h2:=arr_eq (arr_at (i:=((k+b - 1:Nat):Int)) (k+b - 1) (by rw [← ‹e.toList[k+(((b:Nat):Int) - 1).toNat]? = some _›];congr 1;omega) rfl)
   simp only [Int.toNat_natCast] at h1
   have e1:=hj (k+b) (by omega) (by omega)
   have e2:=hj (k+b - 1) (by omega) (by omega)
   refine ⟨(_,_,_),[(0,0)],[],?_,?_,by (refine ⟨rfl,rfl,rfl,?_,?_⟩;repeat' first|exact trivial|exact rfl|refine And.intro ?_ ?_|refine ⟨_,rfl,?_⟩|decide)⟩
   ·exact ⟨a,b+1,e,rfl,by omega,rfl,by omega,by omega,by omega,he,
     by rw [ha,← Nat.add_assoc,dd_keep (by omega) (by rw [← e1,← e2,h1.1,h2.1];assumption)],
     fun j h0 h1=>hj j (by omega) h1⟩
   ·((simp only [vM] at *;omega))
  ·have hE:=cut_row (enc:=(D.int .i64)) (e:=e) (z:=(D.int .i64) 0) (a:=a) (n:=(e.toList.map (D.int .i64)).length - a) (by omega)
   rw [ha,show k+b=d.size by omega,hR] at hE
   subst hE
   refine NeedS.mk (by simp only [List.length_append,List.length_take,List.length_replicate,List.length_drop,List.length_map,hle];omega) ?_
   (repeat' ((conv=>whnf);fail));all_goals try conv=>whnf
   refine ⟨trivial,_,[(1,1)],[],rfl,.inl (by (repeat' exact rfl)),⟨by rfl,by rfl,by rfl,trivial,by (repeat' first|exact trivial|exact rfl|refine And.intro ?_ ?_|refine ⟨_,rfl,?_⟩|exact of_decide_eq_true rfl)⟩,by (repeat' first|exact trivial|refine And.intro ?_ ?_)⟩
 ·refine ⟨_,[(0,0)],[],?_,?_,by (refine ⟨rfl,rfl,rfl,?_,?_⟩;repeat' first|exact trivial|exact rfl|refine And.intro ?_ ?_|refine ⟨_,rfl,?_⟩|decide)⟩
  ·exact ⟨k+1,by omega,by omega,by omega,fun j h0 h1=>by
    by_cases hjk:j=k
    ·subst hjk
     have g1:=arr_eq (arr_at j ‹d.toList[(j:Int).toNat]? = some _› rfl)
     have g2:=arr_eq (arr_at (j - 1) ‹d.toList[((j:Int) - 1).toNat]? = some _› (by omega))
     rw [g1.1,g2.1];assumption
    ·exact hk j h0 (by omega)⟩
  ·(omega)
 ·exact absurd (fun j h0 h1=>hk j h0 (by omega)) hd
end Go.Ab
