/- A part of the proofs of this seat: functions and their contracts. -/
import Derived.Test.YtffknaghkomefaaGreatMG
set_option linter.unusedVariables false
set_option linter.unusedSimpArgs false
set_option linter.unusedSectionVars false
namespace Go.Ab
open Go Go.Proofs
set_option linter.unusedSimpArgs false
set_option linter.unusedVariables false
set_option maxRecDepth 10000
set_option maxHeartbeats 4000000
variable {T:Nat→Obj→Prop}
abbrev bI (x:Int):D := .box [.int .i64 x]
abbrev bU (x:BitVec 64):D := .box [.u64 x]
abbrev bP (p:PM):D := .box [.int .i64 p.W,dU p.val,dII p.cell,dII p.rank]
theorem fn_where2 (p:PM) (hW:p.W≤64) (g:Nat) (x0 x1:D) (c:Nat→Bool) (hcl : ∀ w:Nat,w < p.W.toNat→Fn Tryz.prog T g [.d (.int .i64 (w:Int)),.d x0,.d x1] [] (.d (.bool (c w))) []) :
  Fn Tryz.prog T f_doxastic_where [.d (dPM p),.d (.fn g [x0,x1])] [] (.d (.u64 (setTo c p.W.toNat))) []:=by
 refine fn_dataR hmix k_doxastic_where (by show 2≤21;decide) ?_
 (repeat' ((conv=>whnf);refine vA ?_));all_goals try conv=>whnf
 refine loop_intro (fun ((k,s):Nat×BitVec 64)=>[(1,.d (.fn g [x0,x1])),(8,.d (.int .i64 (p.W))),(5,.d (.u64 (s))),(9,.d (.int .i64 ((k:Int))))]) (fun ((k,s):Nat×BitVec 64)=>k≤p.W.toNat∧s=setTo c k) (fun ((k,s):Nat×BitVec 64)=>p.W.toNat - k) ((0,0#64)) (⟨by simp,rfl⟩) (by (repeat' first|exact trivial|exact rfl|refine And.intro ?_ ?_)) ?_
 rintro ⟨k,s⟩ ⟨hk,hI⟩
 (repeat' ((conv=>whnf);first|refine vA ?_|(refine vF ?_ ?_<;>intro hc<;>try simp only [vL] at hc)|refine vY ?_));all_goals try conv=>whnf
 ·have h1:=hcl k (by omega)
  cases hck:c k with
  | true =>
   rw [hck] at h1
   (repeat' ((conv=>whnf);first|refine vG ?_|((first|refine vO ?_ ?_|refine vP ?_ ?_);·omega)|refine yD h1 (by (repeat refine ⟨⟨rfl,rfl⟩,?_⟩);rfl) rfl ?_));all_goals try conv=>whnf
   refine ⟨(k+1,_),[],[],?_,?_,by (refine ⟨rfl,rfl,rfl,?_,?_⟩;repeat' first|exact trivial|exact rfl|refine And.intro ?_ ?_)⟩
   ·exact ⟨by (omega),by rw [setTo,if_pos hck,hI];rfl⟩
   ·((simp only [vM] at *;omega))
  | false =>
   rw [hck] at h1
   (repeat' ((conv=>whnf);first|refine vH ?_|(refine vO ?_ ?_;·omega)|refine yD h1 (by (repeat refine ⟨⟨rfl,rfl⟩,?_⟩);rfl) rfl ?_));all_goals try conv=>whnf
   exact ⟨(k+1,s),[],[],⟨by (omega),by rw [setTo,if_neg (by simp [hck]),hI]⟩,by ((simp only [vM] at *;omega)),by (refine ⟨rfl,rfl,rfl,?_,?_⟩;repeat' first|exact trivial|exact rfl|refine And.intro ?_ ?_)⟩
 ·rw [hI,show k=p.W.toNat by omega]
theorem fn_where3 (p:PM) (hW:p.W≤64) (g:Nat) (x0 x1 x2:D) (c:Nat→Bool) (hcl : ∀ w:Nat,w < p.W.toNat→Fn Tryz.prog T g [.d (.int .i64 (w:Int)),.d x0,.d x1,.d x2] [] (.d (.bool (c w))) []) :
  Fn Tryz.prog T f_doxastic_where [.d (dPM p),.d (.fn g [x0,x1,x2])] [] (.d (.u64 (setTo c p.W.toNat))) []:=by
 refine fn_dataR hmix k_doxastic_where (by show 2≤21;decide) ?_
 (repeat' ((conv=>whnf);refine vA ?_));all_goals try conv=>whnf
 refine loop_intro (fun ((k,s):Nat×BitVec 64)=>[(1,.d (.fn g [x0,x1,x2])),(8,.d (.int .i64 (p.W))),(5,.d (.u64 (s))),(9,.d (.int .i64 ((k:Int))))]) (fun ((k,s):Nat×BitVec 64)=>k≤p.W.toNat∧s=setTo c k) (fun ((k,s):Nat×BitVec 64)=>p.W.toNat - k) ((0,0#64)) (⟨by simp,rfl⟩) (by (repeat' first|exact trivial|exact rfl|refine And.intro ?_ ?_)) ?_
 rintro ⟨k,s⟩ ⟨hk,hI⟩
 (repeat' ((conv=>whnf);first|refine vA ?_|(refine vF ?_ ?_<;>intro hc<;>try simp only [vL] at hc)|refine vY ?_));all_goals try conv=>whnf
 ·have h1:=hcl k (by omega)
  cases hck:c k with
  | true =>
   rw [hck] at h1
   (repeat' ((conv=>whnf);first|refine vG ?_|((first|refine vO ?_ ?_|refine vP ?_ ?_);·omega)|refine yD h1 (by (repeat refine ⟨⟨rfl,rfl⟩,?_⟩);rfl) rfl ?_));all_goals try conv=>whnf
   refine ⟨(k+1,_),[],[],?_,?_,by (refine ⟨rfl,rfl,rfl,?_,?_⟩;repeat' first|exact trivial|exact rfl|refine And.intro ?_ ?_)⟩
   ·exact ⟨by (omega),by rw [setTo,if_pos hck,hI];rfl⟩
   ·((simp only [vM] at *;omega))
  | false =>
   rw [hck] at h1
   (repeat' ((conv=>whnf);first|refine vH ?_|(refine vO ?_ ?_;·omega)|refine yD h1 (by (repeat refine ⟨⟨rfl,rfl⟩,?_⟩);rfl) rfl ?_));all_goals try conv=>whnf
   exact ⟨(k+1,s),[],[],⟨by (omega),by rw [setTo,if_neg (by simp [hck]),hI]⟩,by ((simp only [vM] at *;omega)),by (refine ⟨rfl,rfl,rfl,?_,?_⟩;repeat' first|exact trivial|exact rfl|refine And.intro ?_ ?_)⟩
 ·rw [hI,show k=p.W.toNat by omega]
theorem fn_where4 (p:PM) (hW:p.W≤64) (g:Nat) (x0 x1 x2 x3:D) (c:Nat→Bool) (hcl : ∀ w:Nat,w < p.W.toNat→Fn Tryz.prog T g [.d (.int .i64 (w:Int)),.d x0,.d x1,.d x2,.d x3] [] (.d (.bool (c w))) []) :
  Fn Tryz.prog T f_doxastic_where [.d (dPM p),.d (.fn g [x0,x1,x2,x3])] [] (.d (.u64 (setTo c p.W.toNat))) []:=by
 refine fn_dataR hmix k_doxastic_where (by show 2≤21;decide) ?_
 (repeat' ((conv=>whnf);refine vA ?_));all_goals try conv=>whnf
 refine loop_intro (fun ((k,s):Nat×BitVec 64)=>[(1,.d (.fn g [x0,x1,x2,x3])),(8,.d (.int .i64 (p.W))),(5,.d (.u64 (s))),(9,.d (.int .i64 ((k:Int))))]) (fun ((k,s):Nat×BitVec 64)=>k≤p.W.toNat∧s=setTo c k) (fun ((k,s):Nat×BitVec 64)=>p.W.toNat - k) ((0,0#64)) (⟨by simp,rfl⟩) (by (repeat' first|exact trivial|exact rfl|refine And.intro ?_ ?_)) ?_
 rintro ⟨k,s⟩ ⟨hk,hI⟩
 (repeat' ((conv=>whnf);first|refine vA ?_|(refine vF ?_ ?_<;>intro hc<;>try simp only [vL] at hc)|refine vY ?_));all_goals try conv=>whnf
 ·have h1:=hcl k (by omega)
  cases hck:c k with
  | true =>
   rw [hck] at h1
   (repeat' ((conv=>whnf);first|refine vG ?_|((first|refine vO ?_ ?_|refine vP ?_ ?_);·omega)|refine yD h1 (by (repeat refine ⟨⟨rfl,rfl⟩,?_⟩);rfl) rfl ?_));all_goals try conv=>whnf
   refine ⟨(k+1,_),[],[],?_,?_,by (refine ⟨rfl,rfl,rfl,?_,?_⟩;repeat' first|exact trivial|exact rfl|refine And.intro ?_ ?_)⟩
   ·exact ⟨by (omega),by rw [setTo,if_pos hck,hI];rfl⟩
   ·((simp only [vM] at *;omega))
  | false =>
   rw [hck] at h1
   (repeat' ((conv=>whnf);first|refine vH ?_|(refine vO ?_ ?_;·omega)|refine yD h1 (by (repeat refine ⟨⟨rfl,rfl⟩,?_⟩);rfl) rfl ?_));all_goals try conv=>whnf
   exact ⟨(k+1,s),[],[],⟨by (omega),by rw [setTo,if_neg (by simp [hck]),hI]⟩,by ((simp only [vM] at *;omega)),by (refine ⟨rfl,rfl,rfl,?_,?_⟩;repeat' first|exact trivial|exact rfl|refine And.intro ?_ ?_)⟩
 ·rw [hI,show k=p.W.toNat by omega]
def knowsL (p:PM) (a:Int) (s:BitVec 64):BitVec 64:=setTo (fun w=>decide (cellL p a w &&& ~~~s=0#64)) p.W.toNat
def believesL (p:PM) (a:Int) (c s:BitVec 64):BitVec 64:=setTo (fun w=>decide (bestL p a w c &&& ~~~s=0#64)) p.W.toNat
def safelyL (p:PM) (a:Int) (s:BitVec 64):BitVec 64:=setTo (fun w=>decide ((weakerL p a).1.getD w 0#64 &&& ~~~s=0#64)) p.W.toNat
theorem fn_dox_all (p:PM) (h:1≤p.W) (h':p.W≤64):Fn Tryz.prog T f_doxastic_all [.d (dPM p)] [] (.d (.u64 (allL p.W))) []:=by
 refine fn_dataR hmix k_doxastic_all (by show 1≤7;decide) ?_
 (repeat' ((conv=>whnf);first|((first|refine vO ?_ ?_|refine vP ?_ ?_);·omega)|refine vY ?_));all_goals try conv=>whnf
 apply BitVec.eq_of_getLsbD_eq
 intro i hi
 rw [allL_bit (by omega) hi]
 show ((18446744073709551615#64) >>> (64 - p.W).toNat).getLsbD i=_
 rw [BitVec.getLsbD_ushiftRight,show (18446744073709551615#64)=BitVec.allOnes 64 from rfl,BitVec.getLsbD_allOnes,Bool.eq_iff_iff]
 simp only [Bool.and_eq_true,decide_eq_true_eq]
 omega
theorem fn_knows (hR:RanksOk T) (p:PM) (hp:IntsOk p.rank) (hW:p.W≤64) (a:Int) (s:BitVec 64):Fn Tryz.prog T f_doxastic_knows [.d (dPM p),.d (.int .i64 a),.d (.u64 s)] [] (.d (.u64 (knowsL p a s))) []:=by
 have h1 : ∀ w:Nat,w < p.W.toNat→Fn Tryz.prog T f_doxastic_knows_1 [.d (.int .i64 (w:Int)),.d (bP p),.d (bI a),.d (bU s)] [] (.d (.bool (decide (cellL p a w &&& ~~~s=0#64)))) []:=fun w hw=>by
  refine fn_dataR hmix k_doxastic_knows_1 (by show 4≤13;decide) ?_
  (repeat' ((conv=>whnf);first|refine vA ?_|(refine vU ?_ ?_;·kernel_rfl)|refine vZ ?_|refine yD (fn_Cell hR _ hp _ _) ⟨⟨rfl,rfl⟩,⟨rfl,rfl⟩,⟨rfl,rfl⟩,rfl⟩ rfl ?_));all_goals try conv=>whnf
  all_goals rfl
 have h2:=fn_where3 p hW f_doxastic_knows_1 (bP p) (bI a) (bU s) _ h1
 refine fn_dataR hmix k_doxastic_knows (by show 3≤10;decide) ?_
 (repeat' ((conv=>whnf);first|refine vY ?_|refine yD h2 ⟨⟨rfl,rfl⟩,⟨rfl,rfl⟩,rfl⟩ rfl ?_));all_goals try conv=>whnf
 all_goals rfl
theorem fn_believes (hR:RanksOk T) (p:PM) (hp:IntsOk p.rank) (hW:p.W≤64) (a:Int) (c s:BitVec 64):Fn Tryz.prog T f_doxastic_believes [.d (dPM p),.d (.int .i64 a),.d (.u64 c),.d (.u64 s)] [] (.d (.u64 (believesL p a c s))) []:=by
 have h1 : ∀ w:Nat,w < p.W.toNat→Fn Tryz.prog T f_doxastic_believes_1 [.d (.int .i64 (w:Int)),.d (bP p),.d (bI a),.d (bU c),.d (bU s)] [] (.d (.bool (decide (bestL p a w c &&& ~~~s=0#64)))) []:=fun w hw=>by
  refine fn_dataR hmix k_doxastic_believes_1 (by show 5≤15;decide) ?_
  (repeat' ((conv=>whnf);first|refine vA ?_|(refine vU ?_ ?_;·kernel_rfl)|refine vZ ?_|refine yD (fn_Best hR _ hp _ _ _) (by (repeat refine ⟨⟨rfl,rfl⟩,?_⟩);rfl) rfl ?_));all_goals try conv=>whnf
  all_goals rfl
 have h2:=fn_where4 p hW f_doxastic_believes_1 (bP p) (bI a) (bU c) (bU s) _ h1
 refine fn_dataR hmix k_doxastic_believes (by show 4≤12;decide) ?_
 (repeat' ((conv=>whnf);first|refine vY ?_|refine yD h2 ⟨⟨rfl,rfl⟩,⟨rfl,rfl⟩,rfl⟩ rfl ?_));all_goals try conv=>whnf
 all_goals rfl
theorem fn_safely (hR:RanksOk T) (p:PM) (hp:IntsOk p.rank) (hc0:checkL p=0) (a:Int) (ha:0≤a) (ha':a < p.cell.length) (s:BitVec 64):Fn Tryz.prog T f_doxastic_safely [.d (dPM p),.d (.int .i64 a),.d (.u64 s)] [] (.d (.u64 (safelyL p a s))) []:=by
 have hg:=checkL_good hc0
 have e:weakerL p a=(weakL p a.toNat,0):=by rw [weakerL,if_neg (by omega),if_neg (by omega)]
 have hl:(weakL p a.toNat).length=p.W.toNat:=by simp [weakL]
 have h1 : ∀ w:Nat,w < p.W.toNat→Fn Tryz.prog T f_doxastic_safely_1 [.d (.int .i64 (w:Int)),.d (.box [dU (weakL p a.toNat)]),.d (bU s)] [] (.d (.bool (decide ((weakL p a.toNat).getD w 0#64 &&& ~~~s=0#64)))) []:=fun w hw=>by
  refine fn_dataR hmix k_doxastic_safely_1 (by show 3≤12;decide) ?_
  have hx:(weakL p a.toNat)[w]? = some ((weakL p a.toNat).getD w 0#64):=by simp [List.getD,hl,hw]
  (repeat' ((conv=>whnf);first|refine vA ?_|refine vN ‹_› ?_|(refine vU ?_ ?_;·kernel_rfl)|refine vZ ?_));all_goals try conv=>whnf
  all_goals rfl
 have h2:=fn_where2 p hg.w2 f_doxastic_safely_1 (.box [dU (weakL p a.toNat)]) (bU s) _ h1
 have h3:=fn_Weaker (T:=T) hR p hp a
 rw [e] at h3
 rw [safelyL,e]
 refine fn_dataR hmix k_doxastic_safely (by show 3≤18;decide) ?_
 (repeat' ((conv=>whnf);first|refine vY ?_|refine yN h3 ⟨⟨rfl,rfl⟩,⟨rfl,rfl⟩,rfl⟩ ?_|refine yD h2 ⟨⟨rfl,rfl⟩,⟨rfl,rfl⟩,rfl⟩ rfl ?_));all_goals try conv=>whnf
 all_goals rfl
end Go.Ab
namespace Go.Ab
open Go Go.Proofs
set_option linter.unusedSimpArgs false
set_option linter.unusedVariables false
set_option maxRecDepth 10000
set_option maxHeartbeats 4000000
variable {T:Nat→Obj→Prop}
theorem gbit {g k:Nat} (hg:g < 2 ^ 63) (hk:k≤64):bitsI .i64 (fun p q=>p&&&q) ((g:Int).fdiv (2 ^ (min ((k:Nat):Int).toNat IntKind.i64.bits))) 1=1↔g.testBit k=true:=by
 have e1:min ((k:Nat):Int).toNat IntKind.i64.bits=k:=Nat.min_eq_left (show k≤64 from hk)
 have h1:g >>> k < 2 ^ 63:=Nat.lt_of_le_of_lt (by rw [Nat.shiftRight_eq_div_pow];exact Nat.div_le_self _ _) hg
 rw [e1,shr_nat,show (1:Int)=((1:Nat):Int) from rfl,bits_and h1 (by decide)]
 rw [Nat.testBit,Nat.and_one_is_mod,Nat.one_and_eq_mod_two,bne_iff_ne]
 omega
def everyK (p:PM) (g:Nat) (s:BitVec 64) (k:Nat):BitVec 64:=(List.range k).foldl (fun o (a:Nat)=>if g.testBit a=true then o&&&knowsL p (a:Int) s else o) (allL p.W)
def everyL (p:PM) (g:Nat) (s:BitVec 64):BitVec 64:=everyK p g s p.cell.length
theorem everyK_succ (p:PM) (g:Nat) (s:BitVec 64) (k:Nat):everyK p g s (k+1)=if g.testBit k=true then everyK p g s k&&&knowsL p (k:Int) s else everyK p g s k:=by
 rw [everyK,List.range_succ,List.foldl_append];rfl
theorem fn_every (hR:RanksOk T) (p:PM) (hp:IntsOk p.rank) (hc0:checkL p=0) (g:Nat) (hgl:g < 2 ^ 63) (s:BitVec 64):Fn Tryz.prog T f_doxastic_every [.d (dPM p),.d (.int .i64 (g:Int)),.d (.u64 s)] [] (.d (.u64 (everyL p g s))) []:=by
 have hgd:=checkL_good hc0
 have h1:=hgd.w1
 have h2:=hgd.w2
 have h3:=hgd.n4
 refine fn_dataR hmix k_doxastic_every (by show 3≤30;decide) ?_
 (repeat' ((conv=>whnf);first|refine vA ?_|refine vJ fun hg=>?_|refine yD (fn_dox_all p h1 h2) ⟨⟨rfl,rfl⟩,rfl⟩ rfl ?_));all_goals try conv=>whnf
 refine loop_mem (fun ((k,o):Nat×BitVec 64)=>[(1,.d (.int .i64 ((g:Int)))),(2,.d (.u64 (s))),(3,.ptr 0 0),(13,.d (.int .i64 ((p.cell.map dI).length:Int))),(7,.d (.u64 (o))),(14,.d (.int .i64 ((k:Int))))]) (fun ((k,o):Nat×BitVec 64)=>[(0,some (boxPM p))]) 1 (fun ((k,o):Nat×BitVec 64)=>k≤p.cell.length∧o=everyK p g s k) (fun ((k,o):Nat×BitVec 64)=>p.cell.length - k) ((0,allL p.W)) [(0,0)] [] (⟨by simp,rfl⟩) (by (refine ⟨rfl,rfl,rfl,?_,?_⟩;repeat' first|exact trivial|exact rfl|refine And.intro ?_ ?_|refine ⟨_,rfl,?_⟩|decide)) ?_
 rintro ⟨k,o⟩ ⟨hk,hI⟩
 (repeat' ((conv=>whnf);first|refine vA ?_|(refine vF ?_ ?_<;>intro hc<;>try simp only [vL] at hc)|((first|refine vO ?_ ?_|refine vP ?_ ?_);·omega)|refine vY ?_|refine yD (fn_knows hR p hp h2 _ _) ⟨⟨rfl,rfl⟩,⟨rfl,rfl⟩,⟨rfl,rfl⟩,rfl⟩ rfl ?_));all_goals try conv=>whnf
 ·have hb:=(gbit (k:=k) hgl (by omega)).1 hc
  refine ⟨(k+1,_),[(0,0)],[],?_,?_,by (refine ⟨rfl,rfl,rfl,?_,?_⟩;repeat' first|exact trivial|exact rfl|refine And.intro ?_ ?_|refine ⟨_,rfl,?_⟩|decide)⟩
  ·exact ⟨by (omega),by rw [everyK_succ,if_pos hb,hI]⟩
  ·((simp only [vM] at *;omega))
 ·have hb : ¬ g.testBit k=true:=fun h=>hc ((gbit (k:=k) hgl (by omega)).2 h)
  exact ⟨(k+1,o),[(0,0)],[],⟨by (omega),by rw [everyK_succ,if_neg hb,hI]⟩,by ((simp only [vM] at *;omega)),by (refine ⟨rfl,rfl,rfl,?_,?_⟩;repeat' first|exact trivial|exact rfl|refine And.intro ?_ ?_|refine ⟨_,rfl,?_⟩|decide)⟩
 ·rw [hI,show k=p.cell.length by omega];rfl
end Go.Ab
namespace Go.Ab
open Go Go.Proofs
set_option linter.unusedSimpArgs false
set_option linter.unusedVariables false
set_option maxRecDepth 10000
set_option maxHeartbeats 4000000
variable {T:Nat→Obj→Prop}
theorem sub_iff {x s:BitVec 64} : x &&& ~~~s=0#64 ↔ ∀ i,x.getLsbD i=true→s.getLsbD i=true:=by
 rw [zero_iff]
 constructor
 ·intro h i hi
  have h1:=h i
  rw [BitVec.getLsbD_and,BitVec.getLsbD_not,hi,Bool.true_and] at h1
  have:i < 64:=BitVec.lt_of_getLsbD hi
  simpa [this] using h1
 ·intro h i
  rw [BitVec.getLsbD_and,BitVec.getLsbD_not]
  cases hx:x.getLsbD i with
  | false=>simp
  | true=>simp [h i hx]
theorem u_ext {x y:BitVec 64} (h : ∀ i,x.getLsbD i=true↔y.getLsbD i=true):x=y :=
 BitVec.eq_of_getLsbD_eq fun i _=>Bool.eq_iff_iff.2 (h i)
theorem sub_lt {x y:BitVec 64} (h : ∀ i,x.getLsbD i=true→y.getLsbD i=true) (hne:x≠y):x.toNat < y.toNat:=by
 have e:y&&&x=x:=u_ext fun i=>by
  rw [BitVec.getLsbD_and,Bool.and_eq_true]
  exact ⟨fun h=>h.2,fun hx=>⟨h i hx,hx⟩⟩
 have h1:x.toNat≤y.toNat:=by rw [← e,BitVec.toNat_and];exact Nat.and_le_left
 have h2:x.toNat≠y.toNat:=fun e=>hne (BitVec.eq_of_toNat_eq e)
 omega
theorem set_bit {n:Nat} (hn:n≤64) {f:Nat→Bool} {w:Nat} : (setTo f n).getLsbD w=true↔w < n∧f w=true:=by
 rw [setTo_bit]
 simp only [Bool.and_eq_true,decide_eq_true_eq]
 exact ⟨fun h=>⟨h.1.2,h.2⟩,fun h=>⟨⟨by omega,h.1⟩,h.2⟩⟩
theorem set_is {n:Nat} (hn:n≤64) {P:Nat→Prop} [DecidablePred P] {w:Nat} : (setTo (fun w=>decide (P w)) n).getLsbD w=true↔w < n∧P w:=by
 rw [set_bit hn,decide_eq_true_eq]
def InC (p:PM) (a w v:Nat):Prop:=v < p.W.toNat∧at0 (rowAt p.cell a) v=at0 (rowAt p.cell a) w
def rkA (p:PM) (a w:Nat):Int:=at0 (rowAt p.rank a) w
section
variable {p:PM} (hg:Good p) (hc0:checkL p=0)
include hc0
theorem at_of {a w:Nat} (ha:a < p.cell.length) (hw:w < p.W.toNat):At p a w:=⟨hc0,by omega,by omega,by omega,by omega⟩
theorem W64:p.W.toNat≤64:=by have:=(checkL_good hc0).w2;omega
theorem all_bit {i:Nat} : (allL p.W).getLsbD i=true↔i < p.W.toNat:=by
 have h1:=(checkL_good hc0).w1
 have h2:=W64 hc0
 by_cases h:i < 64
 ·rw [allL_bit (by omega) h,decide_eq_true_eq];omega
 ·exact ⟨fun h'=>absurd (BitVec.lt_of_getLsbD h') h,fun h'=>by omega⟩
theorem cell_bit {a w i:Nat} (ha:a < p.cell.length) (hw:w < p.W.toNat):(cellL p a w).getLsbD i=true↔InC p a w i:=cellL_bit (at_of hc0 ha hw)
theorem knows_bit {a:Nat} (ha:a < p.cell.length) {s:BitVec 64} {w:Nat} : (knowsL p a s).getLsbD w=true↔w < p.W.toNat ∧ ∀ v,InC p a w v→s.getLsbD v=true:=by
 unfold knowsL
 rw [set_is (W64 hc0)]
 refine and_congr_right fun hw=>?_
 rw [sub_iff]
 exact ⟨fun h v hv=>h v ((cell_bit hc0 ha hw).2 hv),fun h v hv=>h v ((cell_bit hc0 ha hw).1 hv)⟩
theorem best_iff {a w:Nat} (ha:a < p.cell.length) (hw:w < p.W.toNat) {c:BitVec 64} {i:Nat} : (bestL p a w c).getLsbD i=true↔InC p a w i∧c.getLsbD i=true ∧ ∀ u,InC p a w u→c.getLsbD u=true→rkA p a i≤rkA p a u:=by
 have hat:=at_of hc0 ha hw
 rw [bestL_bit hat]
 constructor
 ·rintro ⟨⟨h1,h2⟩,h3⟩
  exact ⟨(cell_bit hc0 ha hw).1 h2,h1,fun u hu hu'=>h3 u hu' ((cell_bit hc0 ha hw).2 hu)⟩
 ·rintro ⟨h2,h1,h3⟩
  exact ⟨⟨h1,(cell_bit hc0 ha hw).2 h2⟩,fun u hu hu'=>h3 u ((cell_bit hc0 ha hw).1 hu') hu⟩
theorem believes_bit {a:Nat} (ha:a < p.cell.length) {c s:BitVec 64} {w:Nat} : (believesL p a c s).getLsbD w=true↔w < p.W.toNat ∧ ∀ v,InC p a w v→c.getLsbD v=true→(∀ u,InC p a w u→c.getLsbD u=true→rkA p a v≤rkA p a u)→s.getLsbD v=true:=by
 unfold believesL
 rw [set_is (W64 hc0)]
 refine and_congr_right fun hw=>?_
 rw [sub_iff]
 exact ⟨fun h v h1 h2 h3=>h v ((best_iff hc0 ha hw).2 ⟨h1,h2,h3⟩),fun h v hv=>by
  obtain ⟨h1,h2,h3⟩:=(best_iff hc0 ha hw).1 hv
  exact h v h1 h2 h3⟩
theorem safely_bit {a:Nat} (ha:a < p.cell.length) {s:BitVec 64} {w:Nat} : (safelyL p a s).getLsbD w=true↔w < p.W.toNat ∧ ∀ v,InC p a w v→rkA p a v≤rkA p a w→s.getLsbD v=true:=by
 have e:weakerL p a=(weakL p a,0):=by rw [weakerL,if_neg (by omega),if_neg (by omega)];rfl
 unfold safelyL
 rw [e,set_is (W64 hc0)]
 refine and_congr_right fun hw=>?_
 have hx:(weakL p a).getD w 0#64=weakRow (rowAt p.cell a) (rowAt p.rank a) w p.W.toNat:=by simp [weakL,List.getD,hw]
 rw [sub_iff,hx]
 have hb : ∀ i,(weakRow (rowAt p.cell a) (rowAt p.rank a) w p.W.toNat).getLsbD i=true↔InC p a w i∧rkA p a i≤rkA p a w:=fun i=>by
  unfold weakRow
  rw [set_bit (W64 hc0)]
  simp only [Bool.and_eq_true,beq_iff_eq,decide_eq_true_eq]
  exact ⟨fun h=>⟨⟨h.1,h.2.1⟩,h.2.2⟩,fun h=>⟨h.1.1,h.1.2,h.2⟩⟩
 exact ⟨fun h v h1 h2=>h v ((hb v).2 ⟨h1,h2⟩),fun h v hv=>by
  obtain ⟨h1,h2⟩:=(hb v).1 hv
  exact h v h1 h2⟩
def Suc (p:PM) (g w v:Nat):Prop:=w < p.W.toNat ∧ ∃ a,a < p.cell.length∧g.testBit a=true∧InC p a w v
omit hc0 in
theorem Suc.lt {g w v:Nat} (h:Suc p g w v):v < p.W.toNat:=by obtain ⟨_,a,_,_,h⟩:=h;exact h.1
theorem everyK_bit {g:Nat} {s:BitVec 64} {w:Nat} : ∀ k,k≤p.cell.length→((everyK p g s k).getLsbD w=true↔w < p.W.toNat ∧ ∀ a,a < k→g.testBit a=true → ∀ v,InC p a w v→s.getLsbD v=true)
 | 0,_=>by
  show (allL p.W).getLsbD w=true↔_
  rw [all_bit hc0]
  exact ⟨fun h=>⟨h,fun a h=>by omega⟩,fun h=>h.1⟩
 | k+1,hk=>by
  have ih:=everyK_bit (g:=g) (s:=s) (w:=w) k (by omega)
  rw [everyK_succ]
  split
  ·rename_i hb
   rw [BitVec.getLsbD_and,Bool.and_eq_true,ih,knows_bit hc0 (by omega)]
   constructor
   ·rintro ⟨⟨h1,h2⟩,-,h3⟩
    refine ⟨h1,fun a ha hga v hv=>?_⟩
    by_cases e:a=k
    ·subst e;exact h3 v hv
    ·exact h2 a (by omega) hga v hv
   ·rintro ⟨h1,h2⟩
    exact ⟨⟨h1,fun a ha=>h2 a (by omega)⟩,h1,h2 k (by omega) hb⟩
  ·rename_i hb
   rw [ih]
   constructor
   ·rintro ⟨h1,h2⟩
    refine ⟨h1,fun a ha hga v hv=>?_⟩
    by_cases e:a=k
    ·subst e;exact absurd hga hb
    ·exact h2 a (by omega) hga v hv
   ·rintro ⟨h1,h2⟩
    exact ⟨h1,fun a ha=>h2 a (by omega)⟩
theorem every_bit {g:Nat} {s:BitVec 64} {w:Nat} : (everyL p g s).getLsbD w=true↔w < p.W.toNat ∧ ∀ v,Suc p g w v→s.getLsbD v=true:=by
 rw [everyL,everyK_bit hc0 _ (Nat.le_refl _)]
 refine and_congr_right fun hw=>?_
 exact ⟨fun h v ⟨_,a,h1,h2,h3⟩=>h a h1 h2 v h3,fun h a h1 h2 v h3=>h v ⟨hw,a,h1,h2,h3⟩⟩
end
inductive CP (p:PM) (g:Nat) (c:BitVec 64):Nat→Nat→Prop where
 | base {w v:Nat} : Suc p g w v→c.getLsbD v=true→CP p g c w v
 | step {w u v:Nat} : CP p g c w u→Suc p g u v→c.getLsbD v=true→CP p g c w v
theorem CP.pre {p:PM} {g:Nat} {c:BitVec 64} {w u v:Nat} (h:Suc p g w u) (hu:c.getLsbD u=true) (hp:CP p g c u v):CP p g c w v:=by
 induction hp with
 | base h1 h2=>exact .step (.base h hu) h1 h2
 | step _ h1 h2 ih=>exact .step ih h1 h2
noncomputable def commonL (p:PM) (g:Nat) (c s:BitVec 64):BitVec 64:=setTo (fun w => @decide (∀ v,CP p g c w v→s.getLsbD v=true) (Classical.propDecidable _)) p.W.toNat
theorem common_bit {p:PM} (hc0:checkL p=0) {g:Nat} {c s:BitVec 64} {w:Nat} : (commonL p g c s).getLsbD w=true↔w < p.W.toNat ∧ ∀ v,CP p g c w v→s.getLsbD v=true:=by
 unfold commonL
 rw [set_bit (W64 hc0),@decide_eq_true_eq _ (Classical.propDecidable _)]
def stepL (p:PM) (g:Nat) (c s out:BitVec 64):BitVec 64:=everyL p g (allL p.W &&& ~~~c|||s&&&out)
theorem step_bit {p:PM} (hc0:checkL p=0) {g:Nat} {c s out:BitVec 64} {w:Nat} : (stepL p g c s out).getLsbD w=true↔w < p.W.toNat ∧ ∀ v,Suc p g w v→c.getLsbD v=true→s.getLsbD v=true∧out.getLsbD v=true:=by
 unfold stepL
 rw [every_bit hc0]
 refine and_congr_right fun hw=>forall_congr' fun v=>?_
 constructor
 ·intro h h1 h2
  have h3:=h h1
  rw [BitVec.getLsbD_or,BitVec.getLsbD_and,BitVec.getLsbD_and,BitVec.getLsbD_not,h2] at h3
  simpa using h3
 ·intro h h1
  have hv:=h1.lt
  have h64:=W64 hc0
  rw [BitVec.getLsbD_or,BitVec.getLsbD_and,BitVec.getLsbD_and,BitVec.getLsbD_not,(all_bit hc0).2 hv]
  cases hcv:c.getLsbD v with
  | false=>simp;omega
  | true=>simp [h h1 hcv]
structure Com (p:PM) (g:Nat) (c s out:BitVec 64):Prop where
 lo : ∀ w,(commonL p g c s).getLsbD w=true→out.getLsbD w=true
 dec : ∀ w,(stepL p g c s out).getLsbD w=true→out.getLsbD w=true
 all : ∀ w,out.getLsbD w=true→w < p.W.toNat
theorem Com.start {p:PM} (hc0:checkL p=0) (g:Nat) (c s:BitVec 64):Com p g c s (allL p.W) :=
 ⟨fun w h=>(all_bit hc0).2 ((common_bit hc0).1 h).1,fun w h=>(all_bit hc0).2 ((step_bit hc0).1 h).1,fun w h=>(all_bit hc0).1 h⟩
theorem Com.next {p:PM} (hc0:checkL p=0) {g:Nat} {c s out:BitVec 64} (h:Com p g c s out):Com p g c s (stepL p g c s out) where
 lo w hw:=by
  obtain ⟨h1,h2⟩:=(common_bit hc0).1 hw
  refine (step_bit hc0).2 ⟨h1,fun v hv hcv=>⟨h2 v (.base hv hcv),h.lo v ((common_bit hc0).2 ⟨hv.lt,fun u hu=>h2 u (hu.pre hv hcv)⟩)⟩⟩
 dec w hw:=by
  obtain ⟨h1,h2⟩:=(step_bit hc0).1 hw
  exact (step_bit hc0).2 ⟨h1,fun v hv hcv=>⟨(h2 v hv hcv).1,h.dec v (h2 v hv hcv).2⟩⟩
 all w hw:=((step_bit hc0).1 hw).1
theorem Com.done {p:PM} (hc0:checkL p=0) {g:Nat} {c s out:BitVec 64} (h:Com p g c s out) (e:stepL p g c s out=out):out=commonL p g c s:=by
 refine u_ext fun w=>⟨fun hw=>(common_bit hc0).2 ⟨h.all w hw,fun v hv=>?_⟩,h.lo w⟩
 have key : ∀ v,CP p g c w v→s.getLsbD v=true∧out.getLsbD v=true:=fun v hv=>by
  induction hv with
  | base h1 h2=>rw [← e] at hw;exact ((step_bit hc0).1 hw).2 _ h1 h2
  | step _ h1 h2 ih =>
   have ih:=ih.2
   rw [← e] at ih
   exact ((step_bit hc0).1 ih).2 _ h1 h2
 exact (key v hv).1
theorem fn_dcommon (hR:RanksOk T) (p:PM) (hp:IntsOk p.rank) (hc0:checkL p=0) (g:Nat) (hgl:g < 2 ^ 63) (c s:BitVec 64):Fn Tryz.prog T f_doxastic_common [.d (dPM p),.d (.int .i64 (g:Int)),.d (.u64 c),.d (.u64 s)] [] (.d (.u64 (commonL p g c s))) []:=by
 have hgd:=checkL_good hc0
 have h1:=hgd.w1
 have h2:=hgd.w2
 refine fn_dataR hmix k_doxastic_common (by show 4≤29;decide) ?_
 (repeat' ((conv=>whnf);refine yD (fn_dox_all p h1 h2) ⟨⟨rfl,rfl⟩,rfl⟩ rfl ?_));all_goals try conv=>whnf
 refine loop_mem (fun (o:BitVec 64)=>[(1,.d (.int .i64 ((g:Int)))),(2,.d (.u64 (c))),(3,.d (.u64 (s))),(4,.ptr 0 0),(9,.d (.u64 (o)))]) (fun (o:BitVec 64)=>[(0,some (boxPM p))]) 1 (fun (o:BitVec 64)=>Com p g c s o) (fun (o:BitVec 64)=>o.toNat) (allL p.W) [(0,0)] [] (Com.start hc0 g c s) (by (refine ⟨rfl,rfl,rfl,?_,?_⟩;repeat' first|exact trivial|exact rfl|refine And.intro ?_ ?_|refine ⟨_,rfl,?_⟩|decide)) ?_
 rintro o hI
 (repeat' ((conv=>whnf);first|refine vA ?_|(refine vF ?_ ?_<;>intro hc)|(refine vU ?_ ?_;·kernel_rfl)|refine vY ?_|refine yD (fn_dox_all p h1 h2) ⟨⟨rfl,rfl⟩,rfl⟩ rfl ?_|refine yD (fn_every hR p hp hc0 g hgl _) ⟨⟨rfl,rfl⟩,⟨rfl,rfl⟩,⟨rfl,rfl⟩,rfl⟩ rfl ?_));all_goals try conv=>whnf
 ·exact Com.done hc0 hI hc
 ·refine ⟨_,[(0,0)],[],?_,?_,by (refine ⟨rfl,rfl,rfl,?_,?_⟩;repeat' first|exact trivial|exact rfl|refine And.intro ?_ ?_|refine ⟨_,rfl,?_⟩|decide)⟩
  ·exact hI.next hc0
  ·exact sub_lt hI.dec hc
end Go.Ab
namespace Go.Ab
open Go Go.Proofs
set_option linter.unusedSimpArgs false
set_option linter.unusedVariables false
set_option maxRecDepth 10000
set_option maxHeartbeats 4000000
variable {T:Nat→Obj→Prop}
noncomputable def valL (p:PM) (h:Hd) (x y:BitVec 64):BitVec 64 :=
 if h.op=1 then allL p.W else if h.op=3 then p.val.getD h.i.toNat 0#64 else if h.op=4 then allL p.W &&& ~~~x else if h.op=5 then x&&&y else if h.op=6 then x|||y else if h.op=7 then allL p.W &&& ~~~x|||y else
 if h.op=8 then allL p.W &&& ~~~(x ^^^ y) else if h.op=9 then knowsL p h.i x else if h.op=10 then allL p.W &&& ~~~knowsL p h.i (allL p.W &&& ~~~x) else if h.op=11 then everyL p h.g.toNat x else
 if h.op=13 then commonL p h.g.toNat x y else if h.op=14 then believesL p h.i x y else if h.op=15 then safelyL p h.i x else 0#64
theorem fn_value (hR:RanksOk T) (p:PM) (hp:IntsOk p.rank) (hc0:checkL p=0) (op i e:Int) (g:Nat) (hgl:g < 2 ^ 63) (nx ny:Int) (x y:BitVec 64) (h3:op=3→0≤i∧i < p.val.length) (h15:op=15→0≤i∧i < p.cell.length) :
  Fn Tryz.prog T f_doxastic_value [.d (dPM p),.d (.agg [.int .i64 op,.int .i64 i,.int .i64 e,.int .i64 g,.int .i64 nx,.int .i64 ny]),.d (.u64 x),.d (.u64 y)] [] (.d (.u64 (valL p ⟨op,i,e,g⟩ x y))) []:=by
 have hgd:=checkL_good hc0
 have h1:=hgd.w1
 have h2:=hgd.w2
 refine fn_dataR hmix k_doxastic_value (by show 4≤105;decide) ?_
 (repeat' ((conv=>whnf);first|refine vA ?_|(refine vF ?_ ?_<;>intro hc)|(refine vS ?_ fun x hx=>?_;·omega)|(refine vU ?_ ?_;·kernel_rfl)|refine vY ?_|refine yD (fn_dox_all p h1 h2) ⟨⟨rfl,rfl⟩,rfl⟩ rfl ?_|refine yD (fn_knows hR p hp h2 _ _) ⟨⟨rfl,rfl⟩,⟨rfl,rfl⟩,⟨rfl,rfl⟩,rfl⟩ rfl ?_|refine yD (fn_every hR p hp hc0 g hgl _) ⟨⟨rfl,rfl⟩,⟨rfl,rfl⟩,⟨rfl,rfl⟩,rfl⟩ rfl ?_|refine yD (fn_dcommon hR p hp hc0 g hgl _ _) (by (repeat refine ⟨⟨rfl,rfl⟩,?_⟩);rfl) rfl ?_|refine yD (fn_believes hR p hp h2 _ _ _) (by (repeat refine ⟨⟨rfl,rfl⟩,?_⟩);rfl) rfl ?_|(refine yD (fn_safely hR p hp hc0 _ ?_ ?_ _) ⟨⟨rfl,rfl⟩,⟨rfl,rfl⟩,⟨rfl,rfl⟩,rfl⟩ rfl ?_;(·omega);(·omega))|fail));all_goals try conv=>whnf
 all_goals (simp only [valL, *,if_true,if_false];first|rfl|(simp [List.getD, *];done)|skip)
end Go.Ab
namespace Go.Ab
open Go Go.Proofs
set_option linter.unusedSimpArgs false
set_option linter.unusedVariables false
set_option maxRecDepth 10000
set_option maxHeartbeats 4000000
variable {T:Nat→Obj→Prop}
theorem fn_valueN (hR:RanksOk T) (p:PM) (hp:IntsOk p.rank) (hc0:checkL p=0) (n:Nd) (hn:0≤n.g∧n.g < 9223372036854775808) (x y:BitVec 64) (h3:n.op=3→0≤n.i∧n.i < p.val.length) (h15:n.op=15→0≤n.i∧n.i < p.cell.length) :
  Fn Tryz.prog T f_doxastic_value [.d (dPM p),.d (dNd n),.d (.u64 x),.d (.u64 y)] [] (.d (.u64 (valL p n.hd x y))) []:=by
 obtain ⟨op,i,e,g,nx,ny⟩:=n
 obtain ⟨G,rfl⟩ : ∃ G:Nat,g=(G:Int):=⟨g.toNat,by have:=hn.1;simp only at this;omega⟩
 exact fn_value hR p hp hc0 op i e G (by have:=hn.2;simp only at this;omega) nx ny x y h3 h15
theorem sets_snoc {β:Type} (v:Hd→β→β→β) (d:β) (n:Nd) : ∀ (l:List Nd) (acc:List β),sets v d (l++[n]) acc=sets v d l acc++[v n.hd ((sets v d l acc).getD n.x.toNat d) ((sets v d l acc).getD n.y.toNat d)]
 | [],acc=>rfl
 | m::r,acc=>by rw [List.cons_append,sets,sets,sets_snoc v d n r]
theorem uses_valL (p:PM):Uses (valL p) where
 x h a b c hx:=by
  have : ¬(4≤h.op∧h.op≤21):=by simpa [useX] using hx
  unfold valL
  repeat (rw [if_neg (show ¬h.op=4 by omega)])
  by_cases h1:h.op=1
  ·simp [h1]
  ·by_cases h3:h.op=3
   ·simp [h3]
   ·simp only [h1,h3,if_false,show ¬h.op=5 by omega,show ¬h.op=6 by omega,show ¬h.op=7 by omega,show ¬h.op=8 by omega,show ¬h.op=9 by omega,show ¬h.op=10 by omega,show ¬h.op=11 by omega,show ¬h.op=13 by omega,show ¬h.op=14 by omega,show ¬h.op=15 by omega]
 y h a b c hy:=by
  have : ¬(5≤h.op∧h.op≤8∨h.op=13∨h.op=14∨h.op=16∨h.op=19∨h.op=21):=by simpa [useY] using hy
  unfold valL
  simp only [show ¬h.op=5 by omega,show ¬h.op=6 by omega,show ¬h.op=7 by omega,show ¬h.op=8 by omega,show ¬h.op=13 by omega,show ¬h.op=14 by omega,if_false]
noncomputable def holdsL (p:PM) (f:List Nd):BitVec 64×Int :=
 if checkL p≠0 then (0#64,checkL p) else if fErr f≠0 then (0#64,fErr f) else if bitsI .i64 (fun p q=>p &&& ~~~q) (uni fragN (cL f):Int) 59≠0 then (0#64,10) else
 if fitsL f p.cell.length p.val.length=false then (0#64,2) else ((sets (valL p) 0#64 (cL f) []).getD ((cL f).length - 1) 0#64,0)
abbrev dUE (x:BitVec 64×Int):D := .tup [.u64 x.1,.int .i64 x.2]
theorem fits_n {f:List Nd} {a b:Nat} (ha:a≤4) (hb:b≤8) (h:fitsL f a b=true) {n:Nd} (hn:n∈cL f):(n.op=3→0≤n.i∧n.i < b)∧(useAgent n.op=true→0≤n.i∧n.i < a)∧(useGroup n.op=true→n.g.toNat < 2 ^ a):=by
 have hh:=cL_hd hn
 simp only [fitsL,belowL,Bool.and_eq_true,decide_eq_true_eq,Int.toNat_natCast] at h
 obtain ⟨⟨-,h1⟩,h2⟩:=h
 have h1:=(uni_lt agentN).1 (h1.resolve_left (by omega)) n hn
 have h2:=(uni_lt factN).1 (h2.resolve_left (by omega)) n hn
 refine ⟨fun e=>?_,fun e=>?_,fun e=>?_⟩
 ·have e':useFact n.hd.op=true:=decide_eq_true e
  have h3:0≤n.i∧n.i≤7:=hh.fact e'
  rw [factN,if_pos e'] at h2
  have h2:2 ^ n.i.toNat < 2 ^ b:=h2
  have:=(Nat.pow_lt_pow_iff_right (by decide:1 < 2)).1 h2
  omega
 ·have h3:0≤n.i∧n.i≤3:=hh.agent e
  rw [agentN,if_pos (show useAgent n.hd.op=true from e)] at h1
  have h1:2 ^ n.i.toNat < 2 ^ a:=h1
  have:=(Nat.pow_lt_pow_iff_right (by decide:1 < 2)).1 h1
  omega
 ·have h3 : ¬ useAgent n.hd.op=true:=by
   have:11≤n.op∧n.op≤13:=by simpa [useGroup] using e
   simp only [useAgent,decide_eq_true_eq];show ¬(n.op=9∨n.op=10∨n.op=14∨n.op=15);omega
  rw [agentN,if_neg h3] at h1
  exact h1
theorem g_nonneg {n:Nd} (hh:HdOk n.hd):0≤n.g∧n.g≤15:=by
 cases hg:useGroup n.op with
 | true=>have:1≤n.g∧n.g≤15:=hh.group hg;omega
 | false=>have:n.g=0:=hh.g0 hg;omega
theorem xy_in {c:List Nd} (hc:Okay c) {k:Nat} {n:Nd} (h:c[k]? = some n) (hk:0 < k):(0≤n.x∧n.x < k)∧0≤n.y∧n.y < k:=by
 have h1:=nErr_iff.1 (hc k n h)
 constructor
 ·cases hx:useX n.op with
  | true=>exact h1.2.1 hx
  | false=>have:=h1.2.2.1 hx;omega
 ·cases hy:useY n.op with
  | true=>exact h1.2.2.2.1 hy
  | false=>have:=h1.2.2.2.2 hy;omega
theorem fn_Holds (hR:RanksOk T) (p:PM) (hp:IntsOk p.rank) (f:List Nd):Fn Tryz.prog T f_doxastic_Holds [.d (dPM p),.d (dF f)] [] (.d (dUE (holdsL p f))) []:=by
 have hlen:=cL_len f
 have hok:=cL_okay f
 refine fn_dataR hmix k_doxastic_Holds (by show 2≤71;decide) ?_
 (repeat' ((conv=>whnf);first|refine vA ?_|refine vE ?_|((first|refine vD ?_ ?_|refine vI ?_ ?_)<;>intro hc<;>try simp only [vL] at hc)|refine vJ fun hg=>?_|refine yD (fn_plaus_Check hR _ hp) ⟨⟨rfl,rfl⟩,rfl⟩ rfl ?_|refine yD (fn_fCheck _) ⟨⟨rfl,rfl⟩,rfl⟩ rfl ?_|refine yD (fn_Frags _) ⟨⟨rfl,rfl⟩,rfl⟩ rfl ?_|refine yD (fn_Fits _ _ _) ⟨⟨rfl,rfl⟩,⟨rfl,rfl⟩,⟨rfl,rfl⟩,rfl⟩ rfl ?_|refine yN (fn_fCompact _) ⟨⟨rfl,rfl⟩,rfl⟩ ?_));all_goals try conv=>whnf
 ·have e:holdsL p f=(0#64,checkL p):=if_pos ‹_›
  rw [e];rfl
 ·have e:holdsL p f=(0#64,fErr f):=by rw [holdsL,if_neg (by omega),if_pos ‹_›]
  rw [e];rfl
 ·have e:holdsL p f=(0#64,10):=by rw [holdsL,if_neg (by omega),if_neg (by omega),if_pos ‹_›]
  rw [e];rfl
 ·have hc0:=‹checkL p=0›
  have hf0:=‹fErr f=0›
  have hgd:=checkL_good hc0
  have hfit:=‹fitsL f _ _=true›
  have e:holdsL p f=((sets (valL p) 0#64 (cL f) []).getD ((cL f).length - 1) 0#64,0):=by rw [holdsL,if_neg (by omega),if_neg (by omega),if_neg (by omega),if_neg (by simp [hfit])]
  have hpos:=(cL_canon hf0).1.pos
  rw [e]
  refine loop_mem (fun ((k,zs):Nat×List D)=>[(2,.ptr 0 0),(8,.own 1),(37,.d (dF (cL f))),(38,.d (.int .i64 (((cL f).map dNd).length:Int))),(39,.d (.int .i64 ((k:Int))))]) (fun ((k,zs):Nat×List D)=>[(0,some (boxPM p)),(1,some (.row 1 zs))]) 2 (fun ((k,zs):Nat×List D)=>k≤(cL f).length∧zs=(sets (valL p) 0#64 ((cL f).take k) []).map D.u64) (fun ((k,zs):Nat×List D)=>(cL f).length - k) ((0,[])) [(0,0)]   [1] (⟨by simp,rfl⟩) (by (refine ⟨rfl,rfl,rfl,?_,?_⟩;repeat' first|exact trivial|exact rfl|exact ⟨_,rfl⟩|refine And.intro ?_ ?_|refine ⟨_,rfl,?_⟩|decide)) ?_
  rintro ⟨k,zs⟩ ⟨hk,hI⟩
  subst hI
  have hl:(sets (valL p) 0#64 ((cL f).take k) []).length=k:=by rw [sets_len];simp;omega
  by_cases hkl:k < (cL f).length
  ·obtain ⟨n,hn⟩ : ∃ n,(cL f)[k]? = some n:=⟨(cL f)[k],by simp [hkl]⟩
   have hnm:=List.mem_of_getElem? hn
   obtain ⟨f1,f2,-⟩:=fits_n hgd.n4 hgd.v8 hfit hnm
   have hgn:=g_nonneg (cL_hd hnm)
   have hst:sets (valL p) 0#64 ((cL f).take (k+1)) []=sets (valL p) 0#64 ((cL f).take k) []++[valL p n.hd ((sets (valL p) 0#64 ((cL f).take k) []).getD n.x.toNat 0#64) ((sets (valL p) 0#64 ((cL f).take k) []).getD n.y.toNat 0#64)]:=by
    rw [List.take_add_one,hn];exact sets_snoc _ _ _ _ _
   have h15:n.op=15→0≤n.i∧n.i < p.cell.length:=fun e=>f2 (decide_eq_true (by omega))
   have hgn2:0≤n.g∧n.g < 9223372036854775808:=⟨hgn.1,by omega⟩
   have hxy:0 < k→(0≤n.x∧n.x < k)∧0≤n.y∧n.y < k:=fun h=>xy_in hok hn h
   (repeat' ((conv=>whnf);first|refine vA ?_|(refine vF ?_ ?_<;>intro hc<;>try simp only [vL] at hc)|refine vJ fun hg=>?_|refine vN ‹_› ?_|(refine vQ ?_ fun x hx=>?_;·omega)|((first|refine vO ?_ ?_|refine vP ?_ ?_);·first|omega|(simp only [vM] at *;omega))|(refine vU ?_ ?_;·kernel_rfl)|refine yD (fn_valueN hR p hp hc0 n hgn2 _ _ f1 h15) (by (repeat refine ⟨⟨rfl,rfl⟩,?_⟩);rfl) rfl ?_));all_goals try conv=>whnf
   ·rename_i a ha
    have ea:(sets (valL p) 0#64 ((cL f).take k) []).getD n.x.toNat 0#64=a:=by rw [List.getD,ha];rfl
    have eb:(sets (valL p) 0#64 ((cL f).take k) []).getD n.y.toNat 0#64=x:=by rw [List.getD,hx];rfl
    rw [ea,eb] at hst
    refine ⟨(k+1,_),[(0,0),(1,4)],[],?_,?_,by (refine ⟨rfl,rfl,rfl,?_,?_⟩;repeat' first|exact trivial|exact rfl|refine And.intro ?_ ?_|refine ⟨_,rfl,?_⟩|decide)⟩
    ·exact ⟨hkl,by rw [hst,List.map_append];rfl⟩
    ·((simp only [vM] at *;omega))
   ·have h0:sets (valL p) 0#64 ((cL f).take k) []=[]:=List.length_eq_zero_iff.1 (by omega)
    rw [h0] at hst
    rw [h0]
    refine ⟨(k+1,_),[(0,0),(1,4)],[],?_,?_,by (refine ⟨rfl,rfl,rfl,?_,?_⟩;repeat' first|exact trivial|exact rfl|refine And.intro ?_ ?_|refine ⟨_,rfl,?_⟩|decide)⟩
    ·exact ⟨hkl,by rw [hst];rfl⟩
    ·((simp only [vM] at *;omega))
   ·omega
  ·(repeat' ((conv=>whnf);first|refine vA ?_|(refine vF ?_ ?_<;>intro hc<;>try simp only [vL] at hc)|refine vJ fun hg=>?_|(refine vQ ?_ fun x hx=>?_;·first|omega|(simp only [vM] at *;omega))|((first|refine vO ?_ ?_|refine vP ?_ ?_);·first|omega|(simp only [vM] at *;omega))|(refine vU ?_ ?_;·kernel_rfl)|fail));all_goals try conv=>whnf
   ·omega
   ·omega
   ·have ek:k=(cL f).length:=by omega
    rw [ek,List.take_length] at hx hl
    rw [show ((((sets (valL p) 0#64 (cL f) []).map D.u64).length:Int) - 1).toNat=(cL f).length - 1 by rw [List.length_map];omega] at hx
    rw [List.getD,hx];rfl
 ·have e:holdsL p f=(0#64,2):=by rw [holdsL,if_neg (by omega),if_neg (by omega),if_neg (by omega),if_pos ‹_›]
  rw [e];rfl
end Go.Ab
namespace Go.Ab
open Go Go.Proofs
set_option linter.unusedSimpArgs false
set_option linter.unusedVariables false
set_option maxRecDepth 10000
set_option maxHeartbeats 4000000
variable {T:Nat→Obj→Prop}
def reqL (p:PM) (a:Int) (s:BitVec 64):Int:=if checkL p≠0 then checkL p else if a < 0∨p.cell.length≤a∨s &&& ~~~allL p.W≠0#64 then 2 else 0
theorem fn_request (hR:RanksOk T) (p:PM) (hp:IntsOk p.rank) (a:Int) (s:BitVec 64):Fn Tryz.prog T f_doxastic_request [.d (dPM p),.d (.int .i64 a),.d (.u64 s)] [] (.d (.int .i64 (reqL p a s))) []:=by
 refine fn_dataR hmix k_doxastic_request (by show 3≤29;decide) ?_
 (repeat' ((conv=>whnf);first|refine vA ?_|((first|refine vD ?_ ?_|refine vF ?_ ?_)<;>intro hc<;>try simp only [vL] at hc)|refine vJ fun hg=>?_|refine vX ?_|refine yD (fn_plaus_Check hR _ hp) ⟨⟨rfl,rfl⟩,rfl⟩ rfl ?_));all_goals try conv=>whnf
 ·rw [reqL,if_pos ‹_›]
 ·rw [reqL,if_neg (by omega),if_pos (.inl ‹_›)]
 ·rw [reqL,if_neg (by omega),if_pos (.inr (.inl (by omega)))]
 ·have hgd:=checkL_good ‹checkL p=0›
  have h1:=hgd.w1
  have h2:=hgd.w2
  (repeat' ((conv=>whnf);first|(refine vD ?_ ?_<;>intro hc)|refine vX ?_|refine yD (fn_dox_all p h1 h2) ⟨⟨rfl,rfl⟩,rfl⟩ rfl ?_));all_goals try conv=>whnf
  ·rw [reqL,if_neg (by omega),if_pos (.inr (.inr ‹_›))]
  ·have hs:=‹s &&& ~~~allL p.W=0#64›
   rw [reqL,if_neg (by omega),if_neg fun h=>h.elim (fun h=>by omega) fun h=>h.elim (fun h=>by omega) fun h=>h hs]
def BelievesL (p:PM) (a:Int) (c s:BitVec 64):BitVec 64×Int:=if reqL p a (c|||s)≠0 then (0#64,reqL p a (c|||s)) else (believesL p a c s,0)
theorem req_ok {p:PM} {a:Int} {s:BitVec 64} (h:reqL p a s=0):checkL p=0∧0≤a∧a < p.cell.length∧s &&& ~~~allL p.W=0#64:=by
 unfold reqL at h
 split at h
 ·contradiction
 ·rename_i h1
  split at h
  ·cases h
  ·rename_i h2
   refine ⟨by omega,by omega,by omega,?_⟩
   exact Classical.byContradiction fun h3=>h2 (.inr (.inr h3))
theorem fn_Believes (hR:RanksOk T) (p:PM) (hp:IntsOk p.rank) (a:Int) (c s:BitVec 64):Fn Tryz.prog T f_doxastic_Believes [.d (dPM p),.d (.int .i64 a),.d (.u64 c),.d (.u64 s)] [] (.d (dUE (BelievesL p a c s))) []:=by
 refine fn_dataR hmix k_doxastic_Believes (by show 4≤25;decide) ?_
 (repeat' ((conv=>whnf);first|refine vA ?_|(refine vD ?_ ?_<;>intro hc)|refine yD (fn_request hR p hp _ _) ⟨⟨rfl,rfl⟩,⟨rfl,rfl⟩,⟨rfl,rfl⟩,rfl⟩ rfl ?_));all_goals try conv=>whnf
 ·have e:BelievesL p a c s=(0#64,reqL p a (c|||s)):=if_pos ‹_›
  rw [e];rfl
 ·have h0:=‹reqL p a (c|||s)=0›
  have e:BelievesL p a c s=(believesL p a c s,0):=if_neg (by omega)
  have hgd:=checkL_good (req_ok h0).1
  have h2:=hgd.w2
  (repeat' ((conv=>whnf);refine yD (fn_believes hR p hp h2 _ _ _) (by (repeat refine ⟨⟨rfl,rfl⟩,?_⟩);rfl) rfl ?_));all_goals try conv=>whnf
  rw [e];rfl
def StrongP (p:PM) (a:Int) (s:BitVec 64) (w:Nat):Prop:=(∀ u,u < p.W.toNat → ∀ v,v < p.W.toNat→(cellL p a w&&&s).getLsbD u=true→(cellL p a w &&& ~~~s).getLsbD v=true→at0 (rowAt p.rank a.toNat) u < at0 (rowAt p.rank a.toNat) v)∧cellL p a w&&&s≠0#64
instance (p:PM) (a:Int) (s:BitVec 64) (w:Nat):Decidable (StrongP p a s w):=by unfold StrongP;exact inferInstance
theorem fn_Strong_1 (hR:RanksOk T) (p:PM) (hp:IntsOk p.rank) (a:Int) (s:BitVec 64) (w:Nat) (hat:At p a w):Fn Tryz.prog T f_doxastic_Strong_1 [.d (.int .i64 (w:Int)),.d (bP p),.d (bI a),.d (bU s)] [] (.d (.bool (decide (StrongP p a s w)))) []:=by
 obtain ⟨-,hrank,-,hlen,h64,-,-⟩:=hat.rows
 have ha0:=hat.a0
 refine fn_dataR hmix k_doxastic_Strong_1 (by show 4≤62;decide) ?_
 (repeat' ((conv=>whnf);first|refine vA ?_|(refine vR ?_ ‹_› ?_;·omega)|refine yD (fn_Cell hR p hp _ _) ⟨⟨rfl,rfl⟩,⟨rfl,rfl⟩,⟨rfl,rfl⟩,rfl⟩ rfl ?_));all_goals try conv=>whnf
 refine loop_intro (fun (k:Nat)=>[(1,.d (bP p)),(3,.d (bU s)),(6,.d (.u64 (cellL p a w))),(7,.d (dI (rowAt p.rank a.toNat))),(20,.d (.int .i64 (p.W))),(21,.d (.int .i64 ((k:Int))))]) (fun (k:Nat)=>k≤p.W.toNat ∧ ∀ u,u < k → ∀ v,v < p.W.toNat→(cellL p a w&&&s).getLsbD u=true→(cellL p a w &&& ~~~s).getLsbD v=true→at0 (rowAt p.rank a.toNat) u < at0 (rowAt p.rank a.toNat) v) (fun (k:Nat)=>p.W.toNat - k) (0) (⟨by simp,fun u hu=>by omega⟩) (by (repeat' first|exact trivial|exact rfl|refine And.intro ?_ ?_)) ?_
 rintro k ⟨hk,hI⟩
 (repeat' ((conv=>whnf);first|refine vA ?_|(refine vF ?_ ?_<;>intro hc<;>try simp only [vL] at hc)|refine vZ ?_));all_goals try conv=>whnf
 ·have hkW:k < p.W.toNat:=by omega
  refine loop_intro (fun (j:Nat)=>[(1,.d (bP p)),(3,.d (bU s)),(6,.d (.u64 (cellL p a w))),(7,.d (dI (rowAt p.rank a.toNat))),(20,.d (.int .i64 (p.W))),(21,.d (.int .i64 ((k:Int)))),(8,.d (.int .i64 ((k:Int)))),(25,.d (.int .i64 (p.W))),(26,.d (.int .i64 ((j:Int))))]) (fun (j:Nat)=>j≤p.W.toNat ∧ ∀ v,v < j→(cellL p a w&&&s).getLsbD k=true→(cellL p a w &&& ~~~s).getLsbD v=true→at0 (rowAt p.rank a.toNat) k < at0 (rowAt p.rank a.toNat) v) (fun (j:Nat)=>p.W.toNat - j) (0) (⟨by simp,fun u hu=>by omega⟩) (by (repeat' first|exact trivial|exact rfl|refine And.intro ?_ ?_)) ?_
  rintro j ⟨hj,hJ⟩
  have step:(cellL p a w&&&s).getLsbD k=true∧(cellL p a w &&& ~~~s).getLsbD j=true ∧ ¬at0 (rowAt p.rank a.toNat) k < at0 (rowAt p.rank a.toNat) j ∨ ∀ v,v < j+1→(cellL p a w&&&s).getLsbD k=true→(cellL p a w &&& ~~~s).getLsbD v=true→at0 (rowAt p.rank a.toNat) k < at0 (rowAt p.rank a.toNat) v:=by
   by_cases h:(cellL p a w&&&s).getLsbD k=true∧(cellL p a w &&& ~~~s).getLsbD j=true ∧ ¬at0 (rowAt p.rank a.toNat) k < at0 (rowAt p.rank a.toNat) j
   ·exact .inl h
   ·refine .inr fun v hv h1 h2=>?_
    by_cases e:v=j
    ·subst e;exact Classical.byContradiction fun h3=>h ⟨h1,h2,h3⟩
    ·exact hJ v (by omega) h1 h2
  (repeat' ((conv=>whnf);first|refine vA ?_|(refine vF ?_ ?_<;>intro hc<;>try simp only [vL] at hc)|(refine vQ ?_ fun x hx=>?_;·omega)|((first|refine vO ?_ ?_|refine vP ?_ ?_);·omega)|(refine vU ?_ ?_;·kernel_rfl)|refine vZ ?_));all_goals try conv=>whnf
  ·have e1:=at0_of ‹(rowAt p.rank a.toNat)[k]? = some _›
   have e2:=at0_of hx
   symm
   rw [decide_eq_false_iff_not]
   intro h
   have:=h.1 k hkW j (by omega) ((bit_one _ k).1 ‹_›) ((bit_one _ j).1 ‹_›)
   omega
  ·have e1:=at0_of ‹(rowAt p.rank a.toNat)[k]? = some _›
   have e2:=at0_of hx
   exact ⟨j+1,[],[],⟨by (omega),step.resolve_left fun h=>by omega⟩,by (omega),by (refine ⟨rfl,rfl,rfl,?_,?_⟩;repeat' first|exact trivial|exact rfl|refine And.intro ?_ ?_)⟩
  ·exact ⟨j+1,[],[],⟨by (omega),step.resolve_left fun h=>by have:=(bit_one _ j).2 h.2.1;contradiction⟩,by (omega),by (refine ⟨rfl,rfl,rfl,?_,?_⟩;repeat' first|exact trivial|exact rfl|refine And.intro ?_ ?_)⟩
  ·exact ⟨j+1,[],[],⟨by (omega),step.resolve_left fun h=>by have:=(bit_one _ k).2 h.1;contradiction⟩,by (omega),by (refine ⟨rfl,rfl,rfl,?_,?_⟩;repeat' first|exact trivial|exact rfl|refine And.intro ?_ ?_)⟩
  ·exact ⟨k+1,[],[],⟨by (omega),fun u hu v hv=>by
    by_cases e:u=k
    ·subst e;exact hJ v (by omega)
    ·exact hI u (by omega) v hv⟩,by (omega),by (refine ⟨rfl,rfl,rfl,?_,?_⟩;repeat' first|exact trivial|exact rfl|refine And.intro ?_ ?_)⟩
 ·show decide _=_
  refine decide_eq_decide.2 ⟨fun h=>⟨fun u hu=>hI u (by omega),h⟩,fun h=>h.2⟩
def StrongL (p:PM) (a:Int) (s:BitVec 64):BitVec 64×Int:=if reqL p a s≠0 then (0#64,reqL p a s) else (setTo (fun w=>decide (StrongP p a s w)) p.W.toNat,0)
theorem fn_Strong (hR:RanksOk T) (p:PM) (hp:IntsOk p.rank) (a:Int) (s:BitVec 64):Fn Tryz.prog T f_doxastic_Strong [.d (dPM p),.d (.int .i64 a),.d (.u64 s)] [] (.d (dUE (StrongL p a s))) []:=by
 refine fn_dataR hmix k_doxastic_Strong (by show 3≤19;decide) ?_
 (repeat' ((conv=>whnf);first|refine vA ?_|(refine vD ?_ ?_<;>intro hc)|refine yD (fn_request hR p hp _ _) ⟨⟨rfl,rfl⟩,⟨rfl,rfl⟩,⟨rfl,rfl⟩,rfl⟩ rfl ?_));all_goals try conv=>whnf
 ·have e:StrongL p a s=(0#64,reqL p a s):=if_pos ‹_›
  rw [e];rfl
 ·have h0:=‹reqL p a s=0›
  have e:StrongL p a s=(setTo (fun w=>decide (StrongP p a s w)) p.W.toNat,0):=if_neg (by omega)
  obtain ⟨h1,h2,h3,-⟩:=req_ok h0
  have hgd:=checkL_good h1
  have hw:=fn_where3 (T:=T) p hgd.w2 f_doxastic_Strong_1 (bP p) (bI a) (bU s) _ (fun w hw=>fn_Strong_1 hR p hp a s w ⟨h1,h2,h3,by omega,by omega⟩)
  (repeat' ((conv=>whnf);refine yD hw ⟨⟨rfl,rfl⟩,⟨rfl,rfl⟩,rfl⟩ rfl ?_));all_goals try conv=>whnf
  rw [e];rfl
noncomputable def atL (p:PM) (w:Int) (f:List Nd):Bool×Int:=if (holdsL p f).2≠0 then (false,(holdsL p f).2) else if w < 0∨p.W≤w then (false,2) else ((holdsL p f).1.getLsbD w.toNat,0)
abbrev dBE (x:Bool×Int):D := .tup [.bool x.1,.int .i64 x.2]
theorem fn_At (hR:RanksOk T) (p:PM) (hp:IntsOk p.rank) (w:Int) (f:List Nd):Fn Tryz.prog T f_doxastic_At [.d (dPM p),.d (.int .i64 w),.d (dF f)] [] (.d (dBE (atL p w f))) []:=by
 refine fn_dataR hmix k_doxastic_At (by show 3≤32;decide) ?_
 (repeat' ((conv=>whnf);first|refine vA ?_|((first|refine vD ?_ ?_|refine vF ?_ ?_)<;>intro hc<;>try simp only [vL] at hc)|(refine vP ?_ ?_;·omega)|refine yN (fn_Holds hR p hp _) ⟨⟨rfl,rfl⟩,⟨rfl,rfl⟩,rfl⟩ ?_));all_goals try conv=>whnf
 ·have e:atL p w f=(false,(holdsL p f).2):=if_pos ‹_›
  rw [e];rfl
 ·have e:atL p w f=(false,2):=by rw [atL,if_neg (by omega),if_pos (.inl ‹_›)]
  rw [e];rfl
 ·have e:atL p w f=(false,2):=by rw [atL,if_neg (by omega),if_pos (.inr (by omega))]
  rw [e];rfl
 ·have e:atL p w f=((holdsL p f).1.getLsbD w.toNat,0):=by rw [atL,if_neg (by omega),if_neg (by omega)]
  rw [e]
  have hb:decide ((holdsL p f).1 >>> w.toNat&&&1#64=1#64)=(holdsL p f).1.getLsbD w.toNat:=by
   rw [Bool.eq_iff_iff,decide_eq_true_eq];exact bit_one _ _
  rw [← hb]
  rfl
end Go.Ab
namespace Go.Ab
open Go
set_option linter.unusedVariables false
set_option linter.unusedSimpArgs false
def Allow (h:Hd):Prop := ∀ i,(fragN h).testBit i=true→(59:Nat).testBit i=true
def FitH (p:PM) (h:Hd):Prop:=agentN h < 2 ^ p.cell.length∧factN h < 2 ^ p.val.length
theorem lang_iff {c:List Nd} {t:Tm} (hc:Canon t c):bitsI .i64 (fun p q=>p &&& ~~~q) (uni fragN c:Int) 59=0↔t.all Allow:=by
 have hu:uni fragN c < 2 ^ 63:=Nat.lt_trans ((uni_lt fragN).2 fun n _=>fragN_lt n.hd) (by decide)
 have:=bits_andNot (b:=59) hu (by decide)
 rw [show ((59:Nat):Int)=59 from rfl] at this
 rw [this,← hc.all]
 constructor
 ·intro h n hn i hi
  exact h i (by rw [uni_bit];exact List.any_eq_true.2 ⟨n,hn,hi⟩)
 ·intro h i hi
  rw [uni_bit,List.any_eq_true] at hi
  obtain ⟨n,hn,hi⟩:=hi
  exact h n hn i hi
theorem all_and {p q:Hd→Prop} : ∀ {t:Tm},t.all (fun h=>p h∧q h)↔t.all p∧t.all q
 | .z h=>Iff.rfl
 | .u h x=>by
  simp only [Tm.all,all_and (t:=x)]
  exact ⟨fun ⟨⟨a,b⟩,c,d⟩=>⟨⟨a,c⟩,b,d⟩,fun ⟨⟨a,c⟩,b,d⟩=>⟨⟨a,b⟩,c,d⟩⟩
 | .b h x y=>by
  simp only [Tm.all,all_and (t:=x),all_and (t:=y)]
  exact ⟨fun ⟨⟨a,b⟩,⟨c,d⟩,e,f⟩=>⟨⟨a,c,e⟩,b,d,f⟩,fun ⟨⟨a,c,e⟩,b,d,f⟩=>⟨⟨a,b⟩,⟨c,d⟩,e,f⟩⟩
theorem fits_iff {p:PM} (hg:Good p) {f:List Nd} {t:Tm} (hf:IsF f t):fitsL f p.cell.length p.val.length=true↔t.all (FitH p):=by
 have h4:=hg.n4
 have h8:=hg.v8
 have hc:=hf.canon.1
 unfold FitH
 rw [all_and,← hc.all,← hc.all,← uni_lt agentN,← uni_lt factN]
 simp only [fitsL,belowL,Bool.and_eq_true,decide_eq_true_eq,Int.toNat_natCast]
 constructor
 ·rintro ⟨⟨-,h1⟩,h2⟩
  exact ⟨h1.resolve_left (by omega),h2.resolve_left (by omega)⟩
 ·rintro ⟨h1,h2⟩
  exact ⟨⟨hf.ok,.inr h1⟩,.inr h2⟩
theorem holds_ok {p:PM} {f:List Nd} {t:Tm} (hf:IsF f t) (hc0:checkL p=0) (h1:t.all Allow) (h2:t.all (FitH p)):holdsL p f=(ev (valL p) 0#64 t,0):=by
 have hc:=hf.canon.1
 have hg:=checkL_good hc0
 rw [holdsL,if_neg (not_not_intro hc0),if_neg (not_not_intro hf.ok),if_neg (not_not_intro ((lang_iff hc).2 h1)),if_neg (by rw [(fits_iff hg hf).2 h2];decide),sets_last (uses_valL p) hc]
theorem holds_inv {p:PM} {f:List Nd} (h:(holdsL p f).2=0):checkL p=0 ∧ ∃ t,IsF f t∧t.all Allow∧t.all (FitH p)∧(holdsL p f).1=ev (valL p) 0#64 t:=by
 by_cases hc0:checkL p=0
 ·by_cases hf0:fErr f=0
  ·have hf:=isF_of hf0
   have hg:=checkL_good hc0
   have hc:=hf.canon.1
   by_cases h1:bitsI .i64 (fun p q=>p &&& ~~~q) (uni fragN (cL f):Int) 59=0
   ·cases h2:fitsL f p.cell.length p.val.length with
    | true =>
     have a1:=(lang_iff hc).1 h1
     have a2:=(fits_iff hg hf).1 h2
     exact ⟨hc0,_,hf,a1,a2,by rw [holds_ok hf hc0 a1 a2]⟩
    | false=>rw [holdsL,if_neg (not_not_intro hc0),if_neg (not_not_intro hf0),if_neg (not_not_intro h1),if_pos h2] at h;cases h
   ·rw [holdsL,if_neg (not_not_intro hc0),if_neg (not_not_intro hf0),if_pos h1] at h;cases h
  ·rw [holdsL,if_neg (not_not_intro hc0),if_pos hf0] at h;exact absurd h hf0
 ·rw [holdsL,if_pos hc0] at h;exact absurd h hc0
structure OkT (p:PM) (f:List Nd) (t:Tm):Prop where
 isF:IsF f t
 lang:t.all Allow
 fit:t.all (FitH p)
theorem OkT.holds {p:PM} {f:List Nd} {t:Tm} (h:OkT p f t) (hc0:checkL p=0):holdsL p f=(ev (valL p) 0#64 t,0):=holds_ok h.isF hc0 h.lang h.fit
theorem okT_of {p:PM} {f:List Nd} (h:(holdsL p f).2=0) : ∃ t,OkT p f t∧(holdsL p f).1=ev (valL p) 0#64 t:=by
 obtain ⟨-,t,h1,h2,h3,h4⟩:=holds_inv h
 exact ⟨t,⟨h1,h2,h3⟩,h4⟩
theorem OkT.unary {p:PM} {f:List Nd} {t:Tm} (hf:OkT p f t) {h:Hd} (hh:HdOk h) (hx:useX h.op=true) (hy:useY h.op=false) (ha:Allow h) (hp:FitH p h) (hl:f.length≤199) :
  OkT p (buildL ⟨h.op,h.i,h.e,h.g,0,0⟩ [f]) (.u h t):=⟨(build_one hh hx hy hf.isF hl).1,⟨ha,hf.lang⟩,⟨hp,hf.fit⟩⟩
theorem OkT.binary {p:PM} {f g:List Nd} {t u:Tm} (hf:OkT p f t) (hg:OkT p g u) {h:Hd} (hh:HdOk h) (hy:useY h.op=true) (ha:Allow h) (hp:FitH p h) (hl:f.length+g.length≤199) :
  OkT p (buildL ⟨h.op,h.i,h.e,h.g,0,0⟩ [f,g]) (.b h t u):=⟨(build_two hh hy hf.isF hg.isF hl).1,⟨ha,hf.lang,hg.lang⟩,⟨hp,hf.fit,hg.fit⟩⟩
theorem allow_of {h:Hd} (hf:fragN h=0∨fragN h=1∨fragN h=2∨fragN h=8∨fragN h=16∨fragN h=32):Allow h:=by
 intro i hi
 have key : ∀ k,(2 ^ k).testBit i=true→i=k:=fun k hk=>by
  rw [Nat.testBit_two_pow] at hk;exact (of_decide_eq_true hk).symm
 rcases hf with e|e|e|e|e|e<;>rw [e] at hi
 ·simp at hi
 ·have:=key 0 hi;subst this;decide
 ·have:=key 1 hi;subst this;decide
 ·have:=key 3 hi;subst this;decide
 ·have:=key 4 hi;subst this;decide
 ·have:=key 5 hi;subst this;decide
theorem agent_hd {op:Int} (ho:op=9∨op=10∨op=14∨op=15) {p:PM} (hg:Good p) {a:Nat} (ha:a < p.cell.length):HdOk ⟨op,a,0,0⟩∧Allow ⟨op,a,0,0⟩∧FitH p ⟨op,a,0,0⟩:=by
 have h4:=hg.n4
 have hag:useAgent op=true:=decide_eq_true (by omega)
 have hfa:useFact op=false:=decide_eq_false (by omega)
 have hev:useEvent op=false:=decide_eq_false (by omega)
 have hgr:useGroup op=false:=decide_eq_false (by omega)
 refine ⟨⟨decide_eq_true (by simp only;omega),fun e=>?_,fun _=>⟨by simp only;omega,by simp only;omega⟩,fun e=>?_,fun e=>?_,fun _ e=>?_,fun _=>rfl,fun _=>rfl⟩,allow_of ?_,?_,?_⟩
 ·simp [hfa] at e
 ·simp [hev] at e
 ·simp [hgr] at e
 ·simp [hag] at e
 ·show fragN ⟨op,0,0,0⟩=0∨fragN ⟨op,0,0,0⟩=1∨fragN ⟨op,0,0,0⟩=2∨fragN ⟨op,0,0,0⟩=8∨fragN ⟨op,0,0,0⟩=16∨fragN ⟨op,0,0,0⟩=32
  rcases ho with rfl|rfl|rfl|rfl<;>decide
 ·rw [agentN,if_pos (show useAgent (Hd.mk op a 0 0).op=true from hag)]
  exact Nat.pow_lt_pow_right (by omega) (by simp only;omega)
 ·rw [factN,if_neg (show ¬useFact (Hd.mk op a 0 0).op=true by simp [hfa])]
  exact Nat.two_pow_pos _
theorem conn_hd {op:Int} (ho:op=1∨op=2∨op=4∨op=5∨op=6∨op=7∨op=8) {p:PM} : HdOk ⟨op,0,0,0⟩∧Allow ⟨op,0,0,0⟩∧FitH p ⟨op,0,0,0⟩:=by
 have hag:useAgent op=false:=decide_eq_false (by omega)
 have hfa:useFact op=false:=decide_eq_false (by omega)
 have hev:useEvent op=false:=decide_eq_false (by omega)
 have hgr:useGroup op=false:=decide_eq_false (by omega)
 refine ⟨⟨decide_eq_true (by simp only;omega),fun e=>?_,fun e=>?_,fun e=>?_,fun e=>?_,fun _ _ _=>rfl,fun _=>rfl,fun _=>rfl⟩,allow_of ?_,?_,?_⟩
 ·simp [hfa] at e
 ·simp [hag] at e
 ·simp [hev] at e
 ·simp [hgr] at e
 ·rcases ho with rfl|rfl|rfl|rfl|rfl|rfl|rfl<;>decide
 ·rw [agentN,if_neg (show ¬useAgent (Hd.mk op 0 0 0).op=true by simp [hag])]
  exact Nat.two_pow_pos _
 ·rw [factN,if_neg (show ¬useFact (Hd.mk op 0 0 0).op=true by simp [hfa])]
  exact Nat.two_pow_pos _
theorem okT_true {p:PM} : OkT p (buildL ⟨1,0,0,0,0,0⟩ []) (.z ⟨1,0,0,0⟩)∧(buildL ⟨1,0,0,0,0,0⟩ []).length≤1:=by
 obtain ⟨h1,h2,h3⟩:=conn_hd (op:=1) (p:=p) (by decide)
 obtain ⟨a,b⟩:=build_zero h1 (by decide) (by decide)
 exact ⟨⟨a,h2,h3⟩,b⟩
end Go.Ab
namespace Go.Ab
open Go Go.Proofs
set_option linter.unusedSimpArgs false
set_option linter.unusedVariables false
set_option maxRecDepth 10000
set_option maxHeartbeats 4000000
variable {T:Nat→Obj→Prop}
abbrev cNd (x:Nd):List V:=[.d (.int .i64 x.op),.d (.int .i64 x.i),.d (.int .i64 x.e),.d (.int .i64 x.g),.d (.int .i64 x.x),.d (.int .i64 x.y)]
theorem take_snoc {α:Type} {l:List α} {j:Nat} {n:α} (h:l[j]? = some n):l.take (j+1)=l.take j++[n]:=by rw [List.take_add_one,h];rfl
theorem sh_step {f c:List Nd} {j:Nat} {n:Nd} (h:c[j]? = some n):(f++(c.take (j+1)).map (shiftN f.length)).map dNd=(f++(c.take j).map (shiftN f.length)).map dNd++[dNd (shiftN f.length n)]:=by
 rw [take_snoc h];simp
set_option maxHeartbeats 40000000 in
theorem fn_build (x0:Nd) (os:List (List Nd)) (hos:os.length≤2):Fn Tryz.prog T f_formula_build [.d (dNd x0),.d (.arr 1 (os.map dF))] [] (.d (dF (buildL x0 os))) []:=by
 refine fn_dataR hmix k_formula_build (by show 2≤85;decide) ?_
 (repeat' ((conv=>whnf);first|refine vA ?_|refine vJ fun hg=>?_));all_goals try conv=>whnf
 refine loop_mem (fun ((k,x',f):Nat×Nd×List Nd)=>[(2,.ptr 0 0),(5,.own 1),(14,.d (.arr 1 (os.map dF))),(15,.d (.int .i64 ((os.map dF).length:Int))),(16,.d (.int .i64 ((k:Int))))]) (fun ((k,x',f):Nat×Nd×List Nd)=>[(0,some (.box (cNd x'))),(1,some (.row 6 (f.map dNd)))]) 2 (fun ((k,x',f):Nat×Nd×List Nd)=>k≤os.length∧buildGo k f x' (os.drop k)=buildGo 0 [] x0 os∧Okay f∧f.length≤200 * k) (fun ((k,x',f):Nat×Nd×List Nd)=>os.length - k) ((0,x0,[])) [(0,0)]   [1] (⟨by simp,rfl,okay_nil,by simp⟩) (by (refine ⟨rfl,rfl,rfl,?_,?_⟩;repeat' first|exact trivial|exact rfl|exact ⟨_,rfl⟩|refine And.intro ?_ ?_|refine ⟨_,rfl,?_⟩|decide)) ?_
 rintro ⟨k,x',f⟩ ⟨hk,hI,hf,hfl⟩
 (repeat' ((conv=>whnf);first|refine vA ?_|((first|refine vD ?_ ?_|refine vF ?_ ?_)<;>intro hc<;>try simp only [vL] at hc)|refine vJ fun hg=>?_|(refine vQ ?_ fun x hx=>?_;·omega)|refine yD (fn_fCheck _) ⟨⟨rfl,rfl⟩,rfl⟩ rfl ?_|refine yN (fn_fCompact _) ⟨⟨rfl,rfl⟩,rfl⟩ ?_));all_goals try conv=>whnf
 ·have hne:=‹fErr _≠0›
  rw [drop_cons hx,buildGo,if_pos hne] at hI
  have e:buildL x0 os=[]:=by rw [buildL,← hI]
  rw [e];rfl
 ·have h0:=‹fErr _=0›
  revert hx h0
  generalize x=o
  intro hx h0
  have hkl:k < os.length:=(List.getElem?_eq_some_iff.1 hx).1
  rw [drop_cons hx,buildGo,if_neg (not_not_intro h0)] at hI
  have hco:=cL_okay o
  have hcl:=cL_len o
  have hfn:f.length≤200:=by omega
  refine loop_mem (fun ((j,ys):Nat×List D)=>[(2,.ptr 0 0),(5,.own 1),(6,.d (.int .i64 ((k:Int)))),(8,.d (.int .i64 ((((f.map dNd).length:Nat):Int)))),(14,.d (.arr 1 (os.map dF))),(15,.d (.int .i64 ((os.map dF).length:Int))),(16,.d (.int .i64 ((k:Int)))),(27,.d (dF (cL o))),(28,.d (.int .i64 (((cL o).map dNd).length:Int))),(29,.d (.int .i64 ((j:Int))))]) (fun ((j,ys):Nat×List D)=>[(0,some (.box (cNd x'))),(1,some (.row 6 ys))]) 2 (fun ((j,ys):Nat×List D)=>j≤(cL o).length∧ys=(f++((cL o).take j).map (shiftN f.length)).map dNd) (fun ((j,ys):Nat×List D)=>(cL o).length - j) ((0,f.map dNd)) [(0,0),(1,1)] [] (⟨by simp,by simp⟩) (by (refine ⟨rfl,rfl,rfl,?_,?_⟩;repeat' first|exact trivial|exact rfl|refine And.intro ?_ ?_|refine ⟨_,rfl,?_⟩|decide)) ?_
  rintro ⟨j,_⟩ ⟨hj,rfl⟩
  by_cases hjl:j < (cL o).length
  ·obtain ⟨n,hn⟩ : ∃ n,(cL o)[j]? = some n:=⟨(cL o)[j],by simp [hjl]⟩
   have hst:=sh_step (f:=f) hn
   have hl:(f++((cL o).take j).map (shiftN f.length)).length=f.length+j:=by simp;omega
   obtain ⟨-,nx,-,ny,-⟩:=nErr_iff.1 (hco j n hn)
   cases hux:useX n.op with
   | false =>
    have huy:useY n.op=false:=by
     cases hy:useY n.op with
     | true=>rw [useX_of_useY hy] at hux;cases hux
     | false=>rfl
    have hu:=uses_of (T:=T) hux huy
    have es:shiftN f.length n=n:=by simp [shiftN,hux,huy]
    rw [es] at hst
    (repeat' ((conv=>whnf);first|refine vA ?_|refine vH ?_|(refine vF ?_ ?_<;>intro hc<;>try simp only [vL] at hc)|refine vJ fun hg=>?_|refine vN ‹_› ?_|((first|refine vO ?_ ?_|refine vP ?_ ?_);·first|omega|(simp only [vM] at *;omega))|refine yD hu (by (repeat refine ⟨⟨rfl,rfl⟩,?_⟩);rfl) rfl ?_));all_goals try conv=>whnf
    ·refine ⟨(j+1,_),[(0,0),(1,5)],[],?_,?_,by (refine ⟨rfl,rfl,rfl,?_,?_⟩;repeat' first|exact trivial|exact rfl|refine And.intro ?_ ?_|refine ⟨_,rfl,?_⟩|decide)⟩
     ·exact ⟨hjl,hst.symm⟩
     ·((simp only [vM] at *;omega))
    all_goals omega
   | true =>
    have nx:=nx hux
    cases huy:useY n.op with
    | false =>
     have hu:=uses_of (T:=T) hux huy
     have es:shiftN f.length n=⟨n.op,n.i,n.e,n.g,n.x+(((f.map dNd).length:Nat):Int),n.y⟩:=by simp [shiftN,hux,huy]
     rw [es] at hst
     (repeat' ((conv=>whnf);first|refine vA ?_|refine vG ?_|refine vH ?_|(refine vF ?_ ?_<;>intro hc<;>try simp only [vL] at hc)|refine vJ fun hg=>?_|refine vN ‹_› ?_|((first|refine vO ?_ ?_|refine vP ?_ ?_);·first|omega|(simp only [vM] at *;omega))|refine yD hu (by (repeat refine ⟨⟨rfl,rfl⟩,?_⟩);rfl) rfl ?_));all_goals try conv=>whnf
     ·refine ⟨(j+1,_),[(0,0),(1,5)],[],?_,?_,by (refine ⟨rfl,rfl,rfl,?_,?_⟩;repeat' first|exact trivial|exact rfl|refine And.intro ?_ ?_|refine ⟨_,rfl,?_⟩|decide)⟩
      ·exact ⟨hjl,hst.symm⟩
      ·((simp only [vM] at *;omega))
     all_goals omega
    | true =>
     have ny:=ny huy
     have hu:=uses_of (T:=T) hux huy
     have es:shiftN f.length n=⟨n.op,n.i,n.e,n.g,n.x+(((f.map dNd).length:Nat):Int),n.y+(((f.map dNd).length:Nat):Int)⟩:=by simp [shiftN,hux,huy]
     rw [es] at hst
     (repeat' ((conv=>whnf);first|refine vA ?_|refine vG ?_|(refine vF ?_ ?_<;>intro hc<;>try simp only [vL] at hc)|refine vJ fun hg=>?_|refine vN ‹_› ?_|((first|refine vO ?_ ?_|refine vP ?_ ?_);·first|omega|(simp only [vM] at *;omega))|refine yD hu (by (repeat refine ⟨⟨rfl,rfl⟩,?_⟩);rfl) rfl ?_));all_goals try conv=>whnf
     ·refine ⟨(j+1,_),[(0,0),(1,5)],[],?_,?_,by (refine ⟨rfl,rfl,rfl,?_,?_⟩;repeat' first|exact trivial|exact rfl|refine And.intro ?_ ?_|refine ⟨_,rfl,?_⟩|decide)⟩
      ·exact ⟨hjl,hst.symm⟩
      ·((simp only [vM] at *;omega))
     all_goals omega
  ·have ej:j=(cL o).length:=by omega
   subst ej
   rw [List.take_length]
   have hl2:(addL f (cL o)).length=f.length+(cL o).length:=by simp [addL]
   have hok2:=addL_okay hf hco
   have elen:((((addL f (cL o)).map dNd).length:Nat):Int) - 1=((addL f (cL o)).length:Int) - 1:=by rw [List.length_map]
   rw [← elen] at hI
   (repeat' ((conv=>whnf);first|refine vA ?_|(refine vF ?_ ?_<;>intro hc<;>try simp only [vL] at hc)|refine vJ fun hg=>?_|(refine vQ ?_ fun x hx=>?_;·omega)|(refine vO ?_ ?_;·first|omega|(simp only [vM] at *;omega))|fail));all_goals try conv=>whnf
   ·omega
   ·have e0:k=0:=by omega
    rw [if_pos e0] at hI
    exact ⟨(k+1,{ x' with x:=(((addL f (cL o)).map dNd).length:Int) - 1 },addL f (cL o)),[(0,0),(1,1)],[],⟨hkl,hI,hok2,by omega⟩,by ((simp only [vM] at *;omega)),by (refine ⟨rfl,rfl,rfl,?_,?_⟩;repeat' first|exact trivial|exact rfl|refine And.intro ?_ ?_|refine ⟨_,rfl,?_⟩|decide)⟩
   ·have e0 : ¬k=0:=by omega
    rw [if_neg e0] at hI
    exact ⟨(k+1,{ x' with y:=(((addL f (cL o)).map dNd).length:Int) - 1 },addL f (cL o)),[(0,0),(1,1)],[],⟨hkl,hI,hok2,by omega⟩,by ((simp only [vM] at *;omega)),by (refine ⟨rfl,rfl,rfl,?_,?_⟩;repeat' first|exact trivial|exact rfl|refine And.intro ?_ ?_|refine ⟨_,rfl,?_⟩|decide)⟩
 ·have ek:k=os.length:=by omega
  subst ek
  rw [List.drop_eq_nil_of_le (Nat.le_refl _),buildGo] at hI
  have eB:buildL x0 os=finishL x' f:=by rw [buildL,← hI]
  rw [eB]
  have hE:=fn_nodeError (T:=T) x' ((((f.map dNd).length:Nat):Int))
  (repeat' ((conv=>whnf);first|(refine vD ?_ ?_<;>intro hc<;>try simp only [vL] at hc)|(refine vP ?_ ?_;·(simp only [vM] at *;omega))|refine yD hE ⟨⟨rfl,rfl⟩,⟨rfl,rfl⟩,rfl⟩ rfl ?_));all_goals try conv=>whnf
  ·have e2:finishL x' f=[]:=if_pos ‹_›
   rw [e2];rfl
  ·have hn:=‹nErr x' _=0›
   have hok:Okay (f++[x']):=by
    intro k n hk
    rw [List.getElem?_append] at hk
    split at hk
    ·exact hf k n hk
    ·rename_i h1
     have:k=f.length:=by have:=(List.getElem?_eq_some_iff.1 hk).1;simp at this;omega
     subst this
     simp at hk;subst hk;exact hn
   have cB:=fn_compact (T:=T) hok (by simp;omega) (k:=f.length) (i:=(((f.map dNd).length:Nat):Int)) (by rw [List.length_map]) (by simp)
   rw [show dF (f++[x']) = .arr 6 (f.map dNd++[dNd x']) by simp] at cB
   refine CallS.dataN (cB) (by (repeat refine ⟨⟨rfl,rfl⟩,?_⟩);rfl) ?_
   (repeat' ((conv=>whnf);first|refine vA ?_|(refine vF ?_ ?_<;>intro hc<;>try simp only [vL] at hc)|refine vJ fun hg=>?_));all_goals try conv=>whnf
   ·have e2:finishL x' f=[]:=by rw [finishL,if_neg (by omega),if_pos (by omega)]
    rw [e2];rfl
   ·have e2:finishL x' f=compactL (f++[x']) f.length:=by rw [finishL,if_neg (by omega),if_neg (by omega)]
    rw [e2];rfl
end Go.Ab
namespace Go.Ab
open Go Go.Proofs
set_option linter.unusedSimpArgs false
set_option linter.unusedVariables false
set_option maxRecDepth 10000
set_option maxHeartbeats 4000000
variable {T:Nat→Obj→Prop}
theorem fn_FKnow (a:Int) (f:List Nd):Fn Tryz.prog T f_formula_Know [.d (.int .i64 a),.d (dF f)] [] (.d (dF (buildL ⟨9,a,0,0,0,0⟩ [f]))) []:=by
 refine fn_dataR hmix k_formula_Know (by show 2≤10;decide) ?_
 (repeat' ((conv=>whnf);fail));all_goals try conv=>whnf
 refine CallS.dataN (fn_build ⟨9,a,0,0,0,0⟩ [f] (by simp)) (by (repeat refine ⟨⟨rfl,rfl⟩,?_⟩);rfl) ?_
 (repeat' ((conv=>whnf);fail));all_goals try conv=>whnf
 rfl
theorem fn_FSafe (a:Int) (f:List Nd):Fn Tryz.prog T f_formula_Safe [.d (.int .i64 a),.d (dF f)] [] (.d (dF (buildL ⟨15,a,0,0,0,0⟩ [f]))) []:=by
 refine fn_dataR hmix k_formula_Safe (by show 2≤10;decide) ?_
 (repeat' ((conv=>whnf);fail));all_goals try conv=>whnf
 refine CallS.dataN (fn_build ⟨15,a,0,0,0,0⟩ [f] (by simp)) (by (repeat refine ⟨⟨rfl,rfl⟩,?_⟩);rfl) ?_
 (repeat' ((conv=>whnf);fail));all_goals try conv=>whnf
 rfl
theorem fn_FNot (f:List Nd):Fn Tryz.prog T f_formula_Not [.d (dF f)] [] (.d (dF (buildL ⟨4,0,0,0,0,0⟩ [f]))) []:=by
 refine fn_dataR hmix k_formula_Not (by show 1≤7;decide) ?_
 (repeat' ((conv=>whnf);fail));all_goals try conv=>whnf
 refine CallS.dataN (fn_build ⟨4,0,0,0,0,0⟩ [f] (by simp)) (by (repeat refine ⟨⟨rfl,rfl⟩,?_⟩);rfl) ?_
 (repeat' ((conv=>whnf);fail));all_goals try conv=>whnf
 rfl
theorem fn_FDist (a:Int) (f:List Nd):Fn Tryz.prog T f_formula_Dist [.d (.int .i64 a),.d (dF f)] [] (.d (dF (buildL ⟨12,0,0,a,0,0⟩ [f]))) []:=by
 refine fn_dataR hmix k_formula_Dist (by show 2≤10;decide) ?_
 (repeat' ((conv=>whnf);fail));all_goals try conv=>whnf
 refine CallS.dataN (fn_build ⟨12,0,0,a,0,0⟩ [f] (by simp)) (by (repeat refine ⟨⟨rfl,rfl⟩,?_⟩);rfl) ?_
 (repeat' ((conv=>whnf);fail));all_goals try conv=>whnf
 rfl
theorem fn_FOr (f:List Nd) (g:List Nd):Fn Tryz.prog T f_formula_Or [.d (dF f),.d (dF g)] [] (.d (dF (buildL ⟨6,0,0,0,0,0⟩ [f,g]))) []:=by
 refine fn_dataR hmix k_formula_Or (by show 2≤10;decide) ?_
 (repeat' ((conv=>whnf);fail));all_goals try conv=>whnf
 refine CallS.dataN (fn_build ⟨6,0,0,0,0,0⟩ [f,g] (by simp)) (by (repeat refine ⟨⟨rfl,rfl⟩,?_⟩);rfl) ?_
 (repeat' ((conv=>whnf);fail));all_goals try conv=>whnf
 rfl
theorem fn_FBelief (a:Int) (f:List Nd) (g:List Nd):Fn Tryz.prog T f_formula_Belief [.d (.int .i64 a),.d (dF f),.d (dF g)] [] (.d (dF (buildL ⟨14,a,0,0,0,0⟩ [f,g]))) []:=by
 refine fn_dataR hmix k_formula_Belief (by show 3≤13;decide) ?_
 (repeat' ((conv=>whnf);fail));all_goals try conv=>whnf
 refine CallS.dataN (fn_build ⟨14,a,0,0,0,0⟩ [f,g] (by simp)) (by (repeat refine ⟨⟨rfl,rfl⟩,?_⟩);rfl) ?_
 (repeat' ((conv=>whnf);fail));all_goals try conv=>whnf
 rfl
theorem fn_FTrue  : Fn Tryz.prog T f_formula_True [] [] (.d (dF (buildL ⟨1,0,0,0,0,0⟩ []))) []:=by
 refine fn_dataR hmix k_formula_True (by show 0≤3;decide) ?_
 (repeat' ((conv=>whnf);fail));all_goals try conv=>whnf
 refine CallS.dataN (fn_build ⟨1,0,0,0,0,0⟩ [] (by simp)) (by (repeat refine ⟨⟨rfl,rfl⟩,?_⟩);rfl) ?_
 (repeat' ((conv=>whnf);fail));all_goals try conv=>whnf
 rfl
theorem fn_FFact (a:Int):Fn Tryz.prog T f_formula_Fact [.d (.int .i64 a)] [] (.d (dF (buildL ⟨3,a,0,0,0,0⟩ []))) []:=by
 refine fn_dataR hmix k_formula_Fact (by show 1≤6;decide) ?_
 (repeat' ((conv=>whnf);fail));all_goals try conv=>whnf
 refine CallS.dataN (fn_build ⟨3,a,0,0,0,0⟩ [] (by simp)) (by (repeat refine ⟨⟨rfl,rfl⟩,?_⟩);rfl) ?_
 (repeat' ((conv=>whnf);fail));all_goals try conv=>whnf
 rfl
end Go.Ab
namespace Go.Ab
open Go
set_option linter.unusedVariables false
set_option linter.unusedSimpArgs false
inductive Rc (S:Nat→Prop) (R:Nat→Nat→Prop):Nat→Prop where
 | base {v:Nat} : S v→Rc S R v
 | step {v u:Nat} : Rc S R v→R v u→Rc S R u
def cnt (s:BitVec 64):Nat→Nat
 | 0=>0
 | k+1=>cnt s k+(if s.getLsbD k=true then 1 else 0)
theorem cnt_le (s:BitVec 64) : ∀ n,cnt s n≤n
 | 0=>Nat.le_refl _
 | k+1=>by
  have:=cnt_le s k
  unfold cnt;split<;>omega
theorem cnt_mono {s s':BitVec 64} (h : ∀ i,s.getLsbD i=true→s'.getLsbD i=true) : ∀ n,cnt s n≤cnt s' n
 | 0=>Nat.le_refl _
 | k+1=>by
  have h1:=cnt_mono h k
  unfold cnt
  by_cases e:s.getLsbD k=true
  ·rw [if_pos e,if_pos (h k e)];omega
  ·rw [if_neg e];split<;>omega
theorem cnt_lt {s s':BitVec 64} (h : ∀ i,s.getLsbD i=true→s'.getLsbD i=true) {u:Nat} (hu:s'.getLsbD u=true) (hn : ¬s.getLsbD u=true) : ∀ n,u < n→cnt s n < cnt s' n
 | 0,h0=>by omega
 | k+1,h0=>by
  unfold cnt
  by_cases e:u=k
  ·subst e
   have:=cnt_mono h u
   rw [if_neg hn,if_pos hu];omega
  ·have h1:=cnt_lt h hu hn k (by omega)
   by_cases e:s.getLsbD k=true
   ·rw [if_pos e,if_pos (h k e)];omega
   ·rw [if_neg e];split<;>omega
theorem cnt_full {s:BitVec 64} : ∀ n,n≤cnt s n → ∀ i,i < n→s.getLsbD i=true
 | 0,_,i,h=>by omega
 | k+1,h,i,hi=>by
  have h1:=cnt_le s k
  unfold cnt at h
  by_cases e:s.getLsbD k=true
  ·rw [if_pos e] at h
   by_cases ei:i=k
   ·subst ei;exact e
   ·exact cnt_full k (by omega) i (by omega)
  ·rw [if_neg e] at h;omega
def ClosedS (R:Nat→Nat→Prop) (s:BitVec 64):Prop := ∀ v u,s.getLsbD v=true→R v u→s.getLsbD u=true
structure RInv (S:Nat→Prop) (R:Nat→Nat→Prop) (n:Nat) (s:BitVec 64) (i:Nat):Prop where
 sound : ∀ v,s.getLsbD v=true→Rc S R v
 base : ∀ v,S v→s.getLsbD v=true
 prog:ClosedS R s∨i≤cnt s n
structure RMid (S:Nat→Prop) (R:Nat→Nat→Prop) (s0 s:BitVec 64) (v:Nat):Prop where
 sound : ∀ v,s.getLsbD v=true→Rc S R v
 old : ∀ i,s0.getLsbD i=true→s.getLsbD i=true
 done : ∀ w,w < v→s0.getLsbD w=true → ∀ u,R w u→s.getLsbD u=true
theorem RInv.mid {S:Nat→Prop} {R:Nat→Nat→Prop} {n:Nat} {s:BitVec 64} {i:Nat} (h:RInv S R n s i):RMid S R s s 0 :=
 ⟨h.sound,fun _ h=>h,fun w hw=>by omega⟩
theorem RMid.next {S:Nat→Prop} {R:Nat→Nat→Prop} {n:Nat} {s0 s:BitVec 64} {i:Nat} (hR : ∀ v u,R v u→v < n∧u < n) (h0:RInv S R n s0 i) (h:RMid S R s0 s n):RInv S R n s (i+1):=by
 refine ⟨h.sound,fun v hv=>h.old v (h0.base v hv),?_⟩
 by_cases hc:ClosedS R s0
 ·left
  have hall : ∀ v,Rc S R v→s0.getLsbD v=true:=fun v hv=>by
   induction hv with
   | base hb=>exact h0.base _ hb
   | step _ hr ih=>exact hc _ _ ih hr
  exact fun v u hv hr=>h.old u (hall u (.step (h.sound v hv) hr))
 ·right
  have : ∃ v u,s0.getLsbD v=true∧R v u ∧ ¬s0.getLsbD u=true:=Classical.byContradiction fun hn=>hc fun v u hv hr=>Classical.byContradiction fun hu=>hn ⟨v,u,hv,hr,hu⟩
  obtain ⟨v,u,hv,hr,hu⟩:=this
  have hlt:=hR v u hr
  have h1:=cnt_lt h.old (h.done v hlt.1 hv u hr) hu n hlt.2
  rcases h0.prog with h2|h2
  ·exact absurd h2 hc
  ·omega
theorem RInv.all {S:Nat→Prop} {R:Nat→Nat→Prop} {n:Nat} {s:BitVec 64} (hR : ∀ v u,R v u→v < n∧u < n) (h:RInv S R n s n) (v:Nat):s.getLsbD v=true↔Rc S R v:=by
 refine ⟨h.sound v,fun hv=>?_⟩
 have hc:ClosedS R s:=h.prog.elim id fun hp v u _ hr=>cnt_full n hp u (hR v u hr).2
 induction hv with
 | base hb=>exact h.base _ hb
 | step _ hr ih=>exact hc _ _ ih hr
end Go.Ab
namespace Go.Ab
open Go Go.Proofs
set_option linter.unusedSimpArgs false
set_option linter.unusedVariables false
set_option maxRecDepth 10000
set_option maxHeartbeats 4000000
variable {T:Nat→Obj→Prop}
theorem bit_mod (s:BitVec 64) (n:Nat):(s >>> n) % 2#64=1#64↔s.getLsbD n=true:=by
 rw [← BitVec.toNat_inj,BitVec.toNat_umod,BitVec.toNat_ushiftRight,← BitVec.testBit_toNat,Nat.shiftRight_eq_div_pow,Nat.testBit_eq_decide_div_mod_eq,decide_eq_true_eq]
 rfl
theorem fn_has (s:BitVec 64) (k:Nat):Fn Tryz.prog T f_wittingref13_Has [.d (.u64 s),.d (.int .i64 (k:Int))] [] (.d (.bool (s.getLsbD k))) []:=by
 refine fn_dataR hmix k_wittingref13_Has (by show 2≤18;decide) ?_
 (repeat' ((conv=>whnf);first|refine vA ?_|refine vG ?_|(refine vF ?_ ?_<;>intro hc<;>try simp only [vL] at hc)|(refine vP ?_ ?_;·omega)|refine vZ ?_|refine vP (show (_:BitVec 64)≠_ by decide) ?_));all_goals try conv=>whnf
 ·show decide (s >>> k % 2#64=1#64)=_
  rw [Bool.eq_iff_iff,decide_eq_true_eq];exact bit_mod s k
 ·rw [BitVec.getLsbD_of_ge _ _ (by omega)]
theorem bit0 {x:BitVec 64} {k:Nat} (h:1&&&x.toNat >>> k=0):x.getLsbD k=false:=by
 show (1&&&x.toNat >>> k != 0)=false
 simp [h]
theorem bit1 {x:BitVec 64} {k:Nat} (h : ¬1&&&x.toNat >>> k=0):x.getLsbD k=true:=by
 show (1&&&x.toNat >>> k != 0)=true
 rw [bne_iff_ne];exact h
theorem fn_All13 (n:Int) (h:0≤n):Fn Tryz.prog T f_wittingref13_All [.d (.int .i64 n)] [] (.d (.u64 (allL n))) []:=by
 refine fn_dataR hmix k_wittingref13_All (by show 1≤8;decide) ?_
 (repeat' ((conv=>whnf);first|refine vA ?_|(refine vF ?_ ?_<;>intro hc<;>try simp only [vL] at hc)|(refine vP ?_ ?_;·omega)|refine vY ?_));all_goals try conv=>whnf
 ·rw [allL,if_pos (by omega)];rfl
 ·rw [allL,if_neg (by omega)];rfl
def boxL (rel:List (BitVec 64)) (n:Nat) (s:BitVec 64):BitVec 64:=setTo (fun w=>decide (rel.getD w 0#64 &&& ~~~s=0#64)) n
theorem getD_of {α:Type} {l:List α} {i:Nat} {x d:α} (h:l[i]? = some x):l.getD i d=x:=by simp [List.getD,h]
theorem fn_rBox (rel:List (BitVec 64)) (n:Int) (s:BitVec 64) (h0:n≤rel.length) (h64:n≤64):Fn Tryz.prog T f_wittingref17_Box [.d (dU rel),.d (.int .i64 n),.d (.u64 s)] [] (.d (.u64 (boxL rel n.toNat s))) []:=by
 refine fn_dataR hmix k_wittingref17_Box (by show 3≤26;decide) ?_
 (repeat' ((conv=>whnf);refine vA ?_));all_goals try conv=>whnf
 refine loop_intro (fun ((k,o):Nat×BitVec 64)=>[(0,.d (dU rel)),(1,.d (.int .i64 (n))),(2,.d (.u64 (s))),(7,.d (.u64 (o))),(8,.d (.int .i64 ((k:Int))))]) (fun ((k,o):Nat×BitVec 64)=>k≤n.toNat∧o=boxL rel k s) (fun ((k,o):Nat×BitVec 64)=>n.toNat - k) ((0,0#64)) (⟨by simp,rfl⟩) (by (repeat' first|exact trivial|exact rfl|refine And.intro ?_ ?_)) ?_
 rintro ⟨k,o⟩ ⟨hk,hI⟩
 (repeat' ((conv=>whnf);first|refine vA ?_|(refine vF ?_ ?_<;>intro hc<;>try simp only [vL] at hc)|(refine vQ ?_ fun x hx=>?_;·omega)|((first|refine vO ?_ ?_|refine vP ?_ ?_);·omega)|refine vY ?_));all_goals try conv=>whnf
 ·have h1:=getD_of (d:=0#64) hx
  refine ⟨(k+1,_),[],[],?_,?_,by (refine ⟨rfl,rfl,rfl,?_,?_⟩;repeat' first|exact trivial|exact rfl|refine And.intro ?_ ?_)⟩
  ·exact ⟨by (omega),by rw [boxL,setTo,if_pos (by rw [show rel.getD k 0#64=x from h1];simp_all),hI];rfl⟩
  ·((simp only [vM] at *;omega))
 ·have h1:=getD_of (d:=0#64) hx
  exact ⟨(k+1,o),[],[],⟨by (omega),by rw [boxL,setTo,if_neg (by rw [show rel.getD k 0#64=x from h1];simp_all),hI];rfl⟩,by ((simp only [vM] at *;omega)),by (refine ⟨rfl,rfl,rfl,?_,?_⟩;repeat' first|exact trivial|exact rfl|refine And.intro ?_ ?_)⟩
 ·rw [hI,show k=n.toNat by omega]
def boolL (op:Int) (x y all:BitVec 64):BitVec 64:=if op=1 then all else if op=4 then all &&& ~~~x else if op=5 then x&&&y else if op=6 then x|||y else if op=7 then all &&& ~~~x|||y else if op=8 then all &&& ~~~(x ^^^ y) else 0#64
theorem fn_rBoolean (op:Int) (x y all:BitVec 64):Fn Tryz.prog T f_wittingref17_Boolean [.d (.int .i64 op),.d (.u64 x),.d (.u64 y),.d (.u64 all)] [] (.d (.u64 (boolL op x y all))) []:=by
 refine fn_dataR hmix k_wittingref17_Boolean (by show 4≤41;decide) ?_
 (repeat' ((conv=>whnf);first|refine vA ?_|(refine vF ?_ ?_<;>intro hc)|refine vY ?_));all_goals try conv=>whnf
 all_goals simp only [boolL, *,if_true,if_false]
 all_goals first|rfl|skip
def StepR (rel:List (BitVec 64)) (n:Nat) (c:BitVec 64) (v u:Nat):Prop:=v < n∧(rel.getD v 0#64&&&c).getLsbD u=true
noncomputable def pathsL (rel:List (BitVec 64)) (n w:Nat) (c:BitVec 64):BitVec 64:=setTo (fun v => @decide (Rc (StepR rel n c w) (StepR rel n c) v) (Classical.propDecidable _)) n
abbrev StepsIn (rel:List (BitVec 64)) (n:Nat):Prop := ∀ v u,v < n→(rel.getD v 0#64).getLsbD u=true→u < n
theorem StepR.lt {rel:List (BitVec 64)} {n:Nat} {c:BitVec 64} {v u:Nat} (hB:StepsIn rel n) (h:StepR rel n c v u):v < n∧u < n:=⟨h.1,hB v u h.1 (by have:=h.2;rw [BitVec.getLsbD_and,Bool.and_eq_true] at this;exact this.1)⟩
theorem paths_bit {rel:List (BitVec 64)} {n w:Nat} {c:BitVec 64} (h64:n≤64) (hB:StepsIn rel n) {v:Nat} : (pathsL rel n w c).getLsbD v=true↔Rc (StepR rel n c w) (StepR rel n c) v:=by
 unfold pathsL
 rw [set_bit h64,@decide_eq_true_eq _ (Classical.propDecidable _)]
 refine ⟨fun h=>h.2,fun h=>⟨?_,h⟩⟩
 cases h with
 | base h=>exact (h.lt hB).2
 | step _ h=>exact (h.lt hB).2
theorem fn_rPaths (rel:List (BitVec 64)) (n:Int) (w:Nat) (c:BitVec 64) (h0:n≤rel.length) (h64:n≤64) (hw:(w:Int) < n) (hB:StepsIn rel n.toNat) :
  Fn Tryz.prog T f_wittingref17_Paths [.d (dU rel),.d (.int .i64 n),.d (.int .i64 (w:Int)),.d (.u64 c)] [] (.d (.u64 (pathsL rel n.toNat w c))) []:=by
 have hR : ∀ v u,StepR rel n.toNat c v u→v < n.toNat∧u < n.toNat:=fun v u h=>h.lt hB
 refine fn_dataR hmix k_wittingref17_Paths (by show 4≤40;decide) ?_
 (repeat' ((conv=>whnf);first|refine vA ?_|(refine vQ ?_ fun x hx=>?_;·omega)|fail));all_goals try conv=>whnf
 revert x;intro r0 hr0
 have hw0:rel.getD w 0#64=r0:=getD_of hr0
 refine loop_intro (fun ((i,s):Nat×BitVec 64)=>[(0,.d (dU rel)),(1,.d (.int .i64 (n))),(3,.d (.u64 (c))),(9,.d (.u64 (s))),(10,.d (.int .i64 ((i:Int))))]) (fun ((i,s):Nat×BitVec 64)=>i≤n.toNat∧RInv (StepR rel n.toNat c w) (StepR rel n.toNat c) n.toNat s i) (fun ((i,s):Nat×BitVec 64)=>n.toNat - i) ((0,r0&&&c)) (⟨by simp,fun v hv => .base ⟨by omega,by rw [hw0];exact hv⟩,fun v hv=>by have:=hv.2;rwa [hw0] at this,.inr (Nat.zero_le _)⟩) (by (repeat' first|exact trivial|exact rfl|refine And.intro ?_ ?_)) ?_
 rintro ⟨i,s⟩ ⟨hi,hI⟩
 (repeat' ((conv=>whnf);first|refine vA ?_|(refine vF ?_ ?_<;>intro hc<;>try simp only [vL] at hc)|refine vY ?_));all_goals try conv=>whnf
 ·refine loop_intro (fun ((v,q):Nat×BitVec 64)=>[(0,.d (dU rel)),(1,.d (.int .i64 (n))),(3,.d (.u64 (c))),(9,.d (.u64 (q))),(10,.d (.int .i64 ((i:Int)))),(11,.d (.int .i64 ((v:Int))))]) (fun ((v,q):Nat×BitVec 64)=>v≤n.toNat∧RMid (StepR rel n.toNat c w) (StepR rel n.toNat c) s q v) (fun ((v,q):Nat×BitVec 64)=>n.toNat - v) ((0,s)) (⟨by simp,hI.mid⟩) (by (repeat' first|exact trivial|exact rfl|refine And.intro ?_ ?_)) ?_
  rintro ⟨v,q⟩ ⟨hv,hM⟩
  (repeat' ((conv=>whnf);first|refine vA ?_|refine vE ?_|(refine vF ?_ ?_<;>intro hc<;>try simp only [vL] at hc)|(refine vQ ?_ fun x hx=>?_;·omega)|(refine vO ?_ ?_;·omega)|refine yD (fn_has _ _) ⟨⟨rfl,rfl⟩,⟨rfl,rfl⟩,rfl⟩ rfl ?_));all_goals try conv=>whnf
  ·have hb:=bit0 ‹_›
   exact ⟨(v+1,q),[],[],⟨by (omega),hM.sound,hM.old,fun w' hw' hs u hu=>by
    by_cases e:w'=v
    ·subst e;rw [hM.old _ hs] at hb;cases hb
    ·exact hM.done w' (by omega) hs u hu⟩,by ((simp only [vM] at *;omega)),by (refine ⟨rfl,rfl,rfl,?_,?_⟩;repeat' first|exact trivial|exact rfl|refine And.intro ?_ ?_)⟩
  ·have hb:=bit1 ‹_›
   have h1:=getD_of (d:=0#64) hx
   refine ⟨(v+1,_),[],[],?_,?_,by (refine ⟨rfl,rfl,rfl,?_,?_⟩;repeat' first|exact trivial|exact rfl|refine And.intro ?_ ?_)⟩
   ·refine ⟨by (omega),fun u hu=>?_,fun u hu=>?_,fun w' hw' hs u hu=>?_⟩
    ·rw [BitVec.getLsbD_or,Bool.or_eq_true] at hu
     rcases hu with hu|hu
     ·exact hM.sound u hu
     ·exact .step (hM.sound v hb) ⟨by omega,by rw [h1];exact hu⟩
    ·rw [BitVec.getLsbD_or,hM.old u hu];rfl
    ·rw [BitVec.getLsbD_or,Bool.or_eq_true]
     by_cases e:w'=v
     ·subst e;have:=hu.2;rw [h1] at this;exact .inr this
     ·exact .inl (hM.done w' (by omega) hs u hu)
   ·((simp only [vM] at *;omega))
  ·have hv':v=n.toNat:=by omega
   subst hv'
   exact ⟨(i+1,q),[],[],⟨by (omega),hM.next hR hI⟩,by ((simp only [vM] at *;omega)),by (refine ⟨rfl,rfl,rfl,?_,?_⟩;repeat' first|exact trivial|exact rfl|refine And.intro ?_ ?_)⟩
 ·have hi':i=n.toNat:=by omega
  subst hi'
  refine u_ext fun v=>?_
  rw [hI.all hR,paths_bit (by omega) hB]
noncomputable def comL (rel:List (BitVec 64)) (n:Nat) (c s:BitVec 64):BitVec 64:=setTo (fun w=>decide (pathsL rel n w c &&& ~~~s=0#64)) n
theorem fn_rcommon (rel:List (BitVec 64)) (n:Int) (c s:BitVec 64) (h0:n≤rel.length) (h64:n≤64) (hB:StepsIn rel n.toNat) :
  Fn Tryz.prog T f_wittingref17_common [.d (dU rel),.d (.int .i64 n),.d (.u64 c),.d (.u64 s)] [] (.d (.u64 (comL rel n.toNat c s))) []:=by
 refine fn_dataR hmix k_wittingref17_common (by show 4≤29;decide) ?_
 (repeat' ((conv=>whnf);refine vA ?_));all_goals try conv=>whnf
 refine loop_intro (fun ((k,o):Nat×BitVec 64)=>[(0,.d (dU rel)),(1,.d (.int .i64 (n))),(2,.d (.u64 (c))),(3,.d (.u64 (s))),(9,.d (.u64 (o))),(10,.d (.int .i64 ((k:Int))))]) (fun ((k,o):Nat×BitVec 64)=>k≤n.toNat∧o=setTo (fun w=>decide (pathsL rel n.toNat w c &&& ~~~s=0#64)) k) (fun ((k,o):Nat×BitVec 64)=>n.toNat - k) ((0,0#64)) (⟨by simp,rfl⟩) (by (repeat' first|exact trivial|exact rfl|refine And.intro ?_ ?_)) ?_
 rintro ⟨k,o⟩ ⟨hk,hI⟩
 by_cases hkn:(k:Int) < n
 ·(repeat' ((conv=>whnf);first|refine vA ?_|(refine vF ?_ ?_<;>intro hc<;>try simp only [vL] at hc)|((first|refine vO ?_ ?_|refine vP ?_ ?_);·omega)|refine vY ?_|refine yD (fn_rPaths rel n k c h0 h64 hkn hB) (by (repeat refine ⟨⟨rfl,rfl⟩,?_⟩);rfl) rfl ?_));all_goals try conv=>whnf
  ·refine ⟨(k+1,_),[],[],?_,?_,by (refine ⟨rfl,rfl,rfl,?_,?_⟩;repeat' first|exact trivial|exact rfl|refine And.intro ?_ ?_)⟩
   ·exact ⟨by (omega),by rw [setTo,if_pos (decide_eq_true ‹_›),hI];rfl⟩
   ·((simp only [vM] at *;omega))
  ·exact ⟨(k+1,o),[],[],⟨by (omega),by rw [setTo,if_neg (by simpa using ‹¬_›),hI]⟩,by ((simp only [vM] at *;omega)),by (refine ⟨rfl,rfl,rfl,?_,?_⟩;repeat' first|exact trivial|exact rfl|refine And.intro ?_ ?_)⟩
  all_goals omega
 ·(repeat' ((conv=>whnf);first|refine vA ?_|(refine vF ?_ ?_<;>intro hc<;>try simp only [vL] at hc)|refine vY ?_));all_goals try conv=>whnf
  ·omega
  ·rw [hI,show k=n.toNat by omega];rfl
end Go.Ab
namespace Go.Ab
open Go Go.Proofs
set_option linter.unusedSimpArgs false
set_option linter.unusedVariables false
set_option maxRecDepth 10000
set_option maxHeartbeats 4000000
variable {T:Nat→Obj→Prop}
theorem fn_Cell34 (p:PM) (hp:IntsOk p.rank) (a w:Int) (hat:At p a w):Fn Tryz.prog T f_wittingref34_Cell [.d (dPM p),.d (.int .i64 a),.d (.int .i64 w)] [] (.d (.u64 (cellL p a w))) []:=by
 obtain ⟨hrow,-,hlen,-,h64,ha,-⟩:=hat.rows
 have ha0:=hat.a0
 have hw0:=hat.w0
 have hw1:=hat.w1
 refine fn_dataR hmix k_wittingref34_Cell (by show 3≤37;decide) ?_
 (repeat' ((conv=>whnf);refine vA ?_));all_goals try conv=>whnf
 refine loop_mem (fun ((k,s):Nat×BitVec 64)=>[(1,.d (.int .i64 (a))),(2,.d (.int .i64 (w))),(3,.ptr 0 0),(7,.d (.u64 (s))),(8,.d (.int .i64 ((k:Int))))]) (fun ((k,s):Nat×BitVec 64)=>[(0,some (boxPM p))]) 1 (fun ((k,s):Nat×BitVec 64)=>k≤p.W.toNat∧s=setTo (fun v=>at0 (rowAt p.cell a.toNat) v==at0 (rowAt p.cell a.toNat) w.toNat) k) (fun ((k,s):Nat×BitVec 64)=>p.W.toNat - k) ((0,0#64)) [(0,0)] [] (⟨by simp,rfl⟩) (by (refine ⟨rfl,rfl,rfl,?_,?_⟩;repeat' first|exact trivial|exact rfl|refine And.intro ?_ ?_|refine ⟨_,rfl,?_⟩|decide)) ?_
 rintro ⟨k,s⟩ ⟨hk,hI⟩
 (repeat' ((conv=>whnf);first|refine vA ?_|(refine vF ?_ ?_<;>intro hc<;>try simp only [vL] at hc)|(refine vQ ?_ fun x hx=>?_;·omega)|((first|refine vO ?_ ?_|refine vR ?_ ‹_› ?_|refine vS ?_ fun x hx=>?_|refine vP ?_ ?_);·omega)|(refine vU ?_ ?_;·kernel_rfl)|refine vY ?_));all_goals try conv=>whnf
 ·have h1:=at0_of ‹(rowAt p.cell a.toNat)[k]? = some _›
  have h2:=at0_of hx
  refine ⟨(k+1,_),[(0,0)],[],?_,?_,by (refine ⟨rfl,rfl,rfl,?_,?_⟩;repeat' first|exact trivial|exact rfl|refine And.intro ?_ ?_|refine ⟨_,rfl,?_⟩|decide)⟩
  ·exact ⟨by (omega),by rw [setTo,if_pos (by simp;omega),hI];rfl⟩
  ·((simp only [vM] at *;omega))
 ·have h1:=at0_of ‹(rowAt p.cell a.toNat)[k]? = some _›
  have h2:=at0_of hx
  exact ⟨(k+1,s),[(0,0)],[],⟨by (omega),by rw [setTo,if_neg (by simp;omega),hI]⟩,by ((simp only [vM] at *;omega)),by (refine ⟨rfl,rfl,rfl,?_,?_⟩;repeat' first|exact trivial|exact rfl|refine And.intro ?_ ?_|refine ⟨_,rfl,?_⟩|decide)⟩
 ·rw [cellL,if_pos hat,hI,cellSet,show k=(rowAt p.cell a.toNat).length by omega]
def LeastK (rank:List Int) (s:BitVec 64) (k:Nat) (m:Int):Prop:=(m < 0 ∧ ∀ v,v < k→s.getLsbD v=false)∨(0≤m∧(∃ v,v < k∧s.getLsbD v=true∧at0 rank v=m) ∧ ∀ v,v < k→s.getLsbD v=true→m≤at0 rank v)
theorem LeastK.keep {rank:List Int} {s:BitVec 64} {k:Nat} {m:Int} (h:LeastK rank s k m) (hk:s.getLsbD k=true→0≤m∧m≤at0 rank k):LeastK rank s (k+1) m:=by
 rcases h with ⟨h1,h2⟩|⟨h1,⟨v,a,b,c⟩,h3⟩
 ·refine .inl ⟨h1,fun v hv=>?_⟩
  by_cases e:v=k
  ·subst e
   cases hs:s.getLsbD v with
   | false=>rfl
   | true=>have:=hk hs;omega
  ·exact h2 v (by omega)
 ·refine .inr ⟨h1,⟨v,by omega,b,c⟩,fun u hu hs=>?_⟩
  by_cases e:u=k
  ·subst e;exact (hk hs).2
  ·exact h3 u (by omega) hs
theorem LeastK.take {rank:List Int} {s:BitVec 64} {k:Nat} {m:Int} (h:LeastK rank s k m) (hk:s.getLsbD k=true) (h0:0≤at0 rank k) (hm:m < 0∨at0 rank k < m):LeastK rank s (k+1) (at0 rank k):=by
 refine .inr ⟨h0,⟨k,by omega,hk,rfl⟩,fun v hv hs=>?_⟩
 by_cases e:v=k
 ·subst e;exact Int.le_refl _
 ·rcases h with ⟨h1,h2⟩|⟨h1,-,h3⟩
  ·rw [h2 v (by omega)] at hs;cases hs
  ·have:=h3 v (by omega) hs;omega
theorem fn_best34 (p:PM) (hp:IntsOk p.rank) (a w:Int) (hat:At p a w) (c:BitVec 64):Fn Tryz.prog T f_wittingref34_best [.d (dPM p),.d (.int .i64 a),.d (.int .i64 w),.d (.u64 c)] [] (.d (.u64 (bestL p a w c))) []:=by
 obtain ⟨hrow,hrank,hlen,hlen',h64,ha,-⟩:=hat.rows
 have ha0:=hat.a0
 have hw0:=hat.w0
 have hw1:=hat.w1
 have hg:=checkL_good hat.ok
 refine fn_dataR hmix k_wittingref34_best (by show 4≤79;decide) ?_
 (repeat' ((conv=>whnf);first|refine vA ?_|refine yD (fn_Cell34 p hp a w hat) ⟨⟨rfl,rfl⟩,⟨rfl,rfl⟩,⟨rfl,rfl⟩,rfl⟩ rfl ?_));all_goals try conv=>whnf
 refine loop_mem (fun ((k,m):Nat×Int)=>[(1,.d (.int .i64 (a))),(4,.ptr 0 0),(9,.d (.u64 (cellL p a w&&&c))),(10,.d (.int .i64 (m))),(11,.d (.u64 (0#64))),(12,.d (.int .i64 ((k:Int))))]) (fun ((k,m):Nat×Int)=>[(0,some (boxPM p))]) 1 (fun ((k,m):Nat×Int)=>k≤p.W.toNat∧LeastK (rowAt p.rank a.toNat) (cellL p a w&&&c) k m) (fun ((k,m):Nat×Int)=>p.W.toNat - k) ((0,-1)) [(0,0)] [] (⟨by simp,.inl ⟨by decide,fun v hv=>by omega⟩⟩) (by (refine ⟨rfl,rfl,rfl,?_,?_⟩;repeat' first|exact trivial|exact rfl|refine And.intro ?_ ?_|refine ⟨_,rfl,?_⟩|decide)) ?_
 rintro ⟨k,m⟩ ⟨hk,hI⟩
 (repeat' ((conv=>whnf);first|refine vA ?_|refine vE ?_|(refine vF ?_ ?_<;>intro hc<;>try simp only [vL] at hc)|refine vN ‹_› ?_|(refine vQ ?_ fun x hx=>?_;·omega)|((first|refine vO ?_ ?_|refine vR ?_ ‹_› ?_);·omega)|refine yD (fn_has _ _) ⟨⟨rfl,rfl⟩,⟨rfl,rfl⟩,rfl⟩ rfl ?_));all_goals try conv=>whnf
 ·have hb:=bit0 ‹_›
  exact ⟨(k+1,m),[(0,0)],[],⟨by (omega),hI.keep fun h=>by rw [hb] at h;cases h⟩,by ((simp only [vM] at *;omega)),by (refine ⟨rfl,rfl,rfl,?_,?_⟩;repeat' first|exact trivial|exact rfl|refine And.intro ?_ ?_|refine ⟨_,rfl,?_⟩|decide)⟩
 ·have hb:=bit1 ‹_›
  have e1:=at0_of ‹(rowAt p.rank a.toNat)[k]? = some _›
  have h0:=rank_nonneg hat (i:=k) (by rw [BitVec.getLsbD_and,Bool.and_eq_true] at hb;exact hb.1)
  rw [← e1]
  refine ⟨(k+1,_),[(0,0)],[],?_,?_,by (refine ⟨rfl,rfl,rfl,?_,?_⟩;repeat' first|exact trivial|exact rfl|refine And.intro ?_ ?_|refine ⟨_,rfl,?_⟩|decide)⟩
  ·exact ⟨by (omega),hI.take hb h0 (.inl ‹_›)⟩
  ·((simp only [vM] at *;omega))
 ·have hb:=bit1 ‹_›
  have e1:=at0_of ‹(rowAt p.rank a.toNat)[k]? = some _›
  have h0:=rank_nonneg hat (i:=k) (by rw [BitVec.getLsbD_and,Bool.and_eq_true] at hb;exact hb.1)
  have h1:at0 (rowAt p.rank a.toNat) k < m:=by omega
  rw [← e1]
  refine ⟨(k+1,_),[(0,0)],[],?_,?_,by (refine ⟨rfl,rfl,rfl,?_,?_⟩;repeat' first|exact trivial|exact rfl|refine And.intro ?_ ?_|refine ⟨_,rfl,?_⟩|decide)⟩
  ·exact ⟨by (omega),hI.take hb h0 (.inr h1)⟩
  ·((simp only [vM] at *;omega))
 ·have e1:=at0_of ‹(rowAt p.rank a.toNat)[k]? = some _›
  exact ⟨(k+1,m),[(0,0)],[],⟨by (omega),hI.keep fun h=>by omega⟩,by ((simp only [vM] at *;omega)),by (refine ⟨rfl,rfl,rfl,?_,?_⟩;repeat' first|exact trivial|exact rfl|refine And.intro ?_ ?_|refine ⟨_,rfl,?_⟩|decide)⟩
 ·have hk':k=p.W.toNat:=by omega
  subst hk'
  refine loop_mem (fun ((k,o):Nat×BitVec 64)=>[(1,.d (.int .i64 (a))),(4,.ptr 0 0),(9,.d (.u64 (cellL p a w&&&c))),(10,.d (.int .i64 (m))),(11,.d (.u64 (o))),(13,.d (.int .i64 ((k:Int))))]) (fun ((k,o):Nat×BitVec 64)=>[(0,some (boxPM p))]) 1 (fun ((k,o):Nat×BitVec 64)=>k≤p.W.toNat∧o=setTo (fun v=>(cellL p a w&&&c).getLsbD v&&decide (at0 (rowAt p.rank a.toNat) v=m)) k) (fun ((k,o):Nat×BitVec 64)=>p.W.toNat - k) ((0,0#64)) [(0,0)] [] (⟨by simp,rfl⟩) (by (refine ⟨rfl,rfl,rfl,?_,?_⟩;repeat' first|exact trivial|exact rfl|refine And.intro ?_ ?_|refine ⟨_,rfl,?_⟩|decide)) ?_
  rintro ⟨k,o⟩ ⟨hk,hO⟩
  (repeat' ((conv=>whnf);first|refine vA ?_|refine vE ?_|(refine vF ?_ ?_<;>intro hc<;>try simp only [vL] at hc)|(refine vQ ?_ fun x hx=>?_;·omega)|((first|refine vO ?_ ?_|refine vR ?_ ‹_› ?_|refine vP ?_ ?_);·omega)|refine vY ?_|refine yD (fn_has _ _) ⟨⟨rfl,rfl⟩,⟨rfl,rfl⟩,rfl⟩ rfl ?_));all_goals try conv=>whnf
  ·have hb:=bit0 ‹_›
   exact ⟨(k+1,o),[(0,0)],[],⟨by (omega),by rw [setTo,if_neg (by simp [hb]),hO]⟩,by ((simp only [vM] at *;omega)),by (refine ⟨rfl,rfl,rfl,?_,?_⟩;repeat' first|exact trivial|exact rfl|refine And.intro ?_ ?_|refine ⟨_,rfl,?_⟩|decide)⟩
  ·have hb:=bit1 ‹_›
   have e1:=at0_of ‹(rowAt p.rank a.toNat)[k]? = some _›
   have h1:at0 (rowAt p.rank a.toNat) k=m:=by omega
   refine ⟨(k+1,_),[(0,0)],[],?_,?_,by (refine ⟨rfl,rfl,rfl,?_,?_⟩;repeat' first|exact trivial|exact rfl|refine And.intro ?_ ?_|refine ⟨_,rfl,?_⟩|decide)⟩
   ·exact ⟨by (omega),by rw [setTo,if_pos (by simp [hb,h1]),hO];rfl⟩
   ·((simp only [vM] at *;omega))
  ·have e1:=at0_of ‹(rowAt p.rank a.toNat)[k]? = some _›
   have h1 : ¬at0 (rowAt p.rank a.toNat) k=m:=by omega
   exact ⟨(k+1,o),[(0,0)],[],⟨by (omega),by rw [setTo,if_neg (by simp [h1]),hO]⟩,by ((simp only [vM] at *;omega)),by (refine ⟨rfl,rfl,rfl,?_,?_⟩;repeat' first|exact trivial|exact rfl|refine And.intro ?_ ?_|refine ⟨_,rfl,?_⟩|decide)⟩
  ·rw [hO,show k=p.W.toNat by omega]
   refine u_ext fun i=>?_
   rw [set_bit (W64 hat.ok),bestL_bit hat]
   have hW : ∀ u,(cellL p a w).getLsbD u=true→u < p.W.toNat:=fun u hu=>((cellL_bit hat).1 hu).1
   simp only [BitVec.getLsbD_and,Bool.and_eq_true,decide_eq_true_eq]
   constructor
   ·rintro ⟨h1,⟨h2,h3⟩,h4⟩
    refine ⟨⟨h3,h2⟩,fun u hu hu'=>?_⟩
    rcases hI with ⟨-,g⟩|⟨-,-,g⟩
    ·have:=g i h1;rw [BitVec.getLsbD_and,h2,h3] at this;cases this
    ·rw [h4];exact g u (hW u hu') (by rw [BitVec.getLsbD_and,hu',hu];rfl)
   ·rintro ⟨⟨h3,h2⟩,h4⟩
    have h1:=hW i h2
    refine ⟨h1,⟨h2,h3⟩,?_⟩
    rcases hI with ⟨-,g⟩|⟨-,⟨v,g1,g2,g3⟩,g⟩
    ·have:=g i h1;rw [BitVec.getLsbD_and,h2,h3] at this;cases this
    ·rw [BitVec.getLsbD_and,Bool.and_eq_true] at g2
     have a1:=g i h1 (by rw [BitVec.getLsbD_and,h2,h3];rfl)
     have a2:=h4 v g2.2 g2.1
     omega
end Go.Ab
namespace Go.Ab
open Go Go.Proofs
set_option linter.unusedSimpArgs false
set_option linter.unusedVariables false
set_option maxRecDepth 10000
set_option maxHeartbeats 4000000
variable {T:Nat→Obj→Prop}
theorem fn_believes34 (p:PM) (hp:IntsOk p.rank) (hc0:checkL p=0) (a:Int) (ha0:0≤a) (ha1:a < p.cell.length) (c s:BitVec 64):Fn Tryz.prog T f_wittingref34_believes [.d (dPM p),.d (.int .i64 a),.d (.u64 c),.d (.u64 s)] [] (.d (.u64 (believesL p a c s))) []:=by
 have hgd:=checkL_good hc0
 have h2:=hgd.w2
 refine fn_dataR hmix k_wittingref34_believes (by show 4≤30;decide) ?_
 (repeat' ((conv=>whnf);refine vA ?_));all_goals try conv=>whnf
 refine loop_mem (fun ((k,o):Nat×BitVec 64)=>[(1,.d (.int .i64 (a))),(2,.d (.u64 (c))),(3,.d (.u64 (s))),(4,.ptr 0 0),(9,.d (.u64 (o))),(10,.d (.int .i64 ((k:Int))))]) (fun ((k,o):Nat×BitVec 64)=>[(0,some (boxPM p))]) 1 (fun ((k,o):Nat×BitVec 64)=>k≤p.W.toNat∧o=setTo (fun w=>decide (bestL p a w c &&& ~~~s=0#64)) k) (fun ((k,o):Nat×BitVec 64)=>p.W.toNat - k) ((0,0#64)) [(0,0)] [] (⟨by simp,rfl⟩) (by (refine ⟨rfl,rfl,rfl,?_,?_⟩;repeat' first|exact trivial|exact rfl|refine And.intro ?_ ?_|refine ⟨_,rfl,?_⟩|decide)) ?_
 rintro ⟨k,o⟩ ⟨hk,hI⟩
 by_cases hkW:k < p.W.toNat
 ·have hat:At p a k:=⟨hc0,ha0,ha1,by omega,by omega⟩
  (repeat' ((conv=>whnf);first|refine vA ?_|(refine vF ?_ ?_<;>intro hc<;>try simp only [vL] at hc)|((first|refine vO ?_ ?_|refine vP ?_ ?_);·omega)|refine vY ?_|refine yD (fn_best34 p hp a k hat c) (by (repeat refine ⟨⟨rfl,rfl⟩,?_⟩);rfl) rfl ?_));all_goals try conv=>whnf
  ·have h1:=‹bestL p a k c &&& ~~~s=0#64›
   refine ⟨(k+1,_),[(0,0)],[],?_,?_,by (refine ⟨rfl,rfl,rfl,?_,?_⟩;repeat' first|exact trivial|exact rfl|refine And.intro ?_ ?_|refine ⟨_,rfl,?_⟩|decide)⟩
   ·exact ⟨by (omega),by rw [setTo,if_pos (decide_eq_true h1),hI];rfl⟩
   ·((simp only [vM] at *;omega))
  ·have h1:=‹¬bestL p a k c &&& ~~~s=0#64›
   exact ⟨(k+1,o),[(0,0)],[],⟨by (omega),by rw [setTo,if_neg (by simpa using h1),hI]⟩,by ((simp only [vM] at *;omega)),by (refine ⟨rfl,rfl,rfl,?_,?_⟩;repeat' first|exact trivial|exact rfl|refine And.intro ?_ ?_|refine ⟨_,rfl,?_⟩|decide)⟩
  all_goals omega
 ·(repeat' ((conv=>whnf);first|refine vA ?_|(refine vF ?_ ?_<;>intro hc<;>try simp only [vL] at hc)|refine vY ?_));all_goals try conv=>whnf
  ·omega
  ·rw [hI,show k=p.W.toNat by omega];rfl
end Go.Ab
