/- A part of the proofs of this seat: functions and their contracts. -/
import Derived.Test.YtffknaghkomefaaGreatMI
set_option linter.unusedVariables false
set_option linter.unusedSimpArgs false
set_option linter.unusedSectionVars false
namespace Go.Ab
open Go Go.Proofs
set_option linter.unusedSimpArgs false
set_option linter.unusedVariables false
set_option maxRecDepth 10000
set_option maxHeartbeats 4000000
variable {T:Nat→Obj→Prop}
def few34 (p:PM) (n:Int):Bool:=decide (¬(n < p.W∧p.W≤64)∧p.val.length≤20∧p.cell.length≤10∧p.rank.length≤10∧(∀ a,a < p.cell.length→(rowAt p.cell a).length≤70) ∧ ∀ a,a < p.rank.length→(rowAt p.rank a).length≤70)
theorem fn_Few34 (p:PM) (n:Int):Fn Tryz.prog T f_wittingref34_Few [.d (dPM p),.d (.int .i64 n)] [] (.d (.bool (few34 p n))) []:=by
 refine fn_dataR hmix k_wittingref34_Few (by show 2≤62;decide) ?_
 (repeat' ((conv=>whnf);first|refine vA ?_|(refine vF ?_ ?_<;>intro hc<;>try simp only [vL] at hc)|refine vJ fun hg=>?_|refine vZ ?_));all_goals try conv=>whnf
 all_goals try (symm;unfold few34;rw [decide_eq_false_iff_not];omega)
 all_goals
  refine loop_mem (fun (k:Nat)=>[(2,.ptr 0 0),(5,.d (.int .i64 ((k:Int))))]) (fun (k:Nat)=>[(0,some (boxPM p))]) 1 (fun (k:Nat)=>k≤p.cell.length ∧ ∀ a,a < k→(rowAt p.cell a).length≤70) (fun (k:Nat)=>p.cell.length - k) (0) [(0,0)] [] (⟨by simp,by simp⟩) (by (refine ⟨rfl,rfl,rfl,?_,?_⟩;repeat' first|exact trivial|exact rfl|refine And.intro ?_ ?_|refine ⟨_,rfl,?_⟩|decide)) ?_
  rintro k ⟨hk,hI⟩
  (repeat' ((conv=>whnf);first|refine vA ?_|(refine vF ?_ ?_<;>intro hc<;>try simp only [vL] at hc)|refine vJ fun hg=>?_|(refine vQ ?_ fun x hx=>?_;·omega)|(refine vO ?_ ?_;·omega)|refine vZ ?_));all_goals try conv=>whnf
  ·have h1:=rowAt_of hx
   symm;unfold few34;rw [decide_eq_false_iff_not];intro h
   have:=h.2.2.2.2.1 k (by omega)
   rw [h1] at this;omega
  ·have h1:=rowAt_of hx
   exact ⟨k+1,[(0,0)],[],⟨by (omega),fun a ha=>by
    by_cases e:a=k
    ·subst e;rw [h1];omega
    ·exact hI a (by omega)⟩,by (omega),by (refine ⟨rfl,rfl,rfl,?_,?_⟩;repeat' first|exact trivial|exact rfl|refine And.intro ?_ ?_|refine ⟨_,rfl,?_⟩|decide)⟩
  have hI1 : ∀ a,a < p.cell.length→(rowAt p.cell a).length≤70:=fun a ha=>hI a (by omega)
  refine loop_mem (fun (k:Nat)=>[(2,.ptr 0 0),(6,.d (.int .i64 ((k:Int))))]) (fun (k:Nat)=>[(0,some (boxPM p))]) 1 (fun (k:Nat)=>k≤p.rank.length ∧ ∀ a,a < k→(rowAt p.rank a).length≤70) (fun (k:Nat)=>p.rank.length - k) (0) [(0,0)] [] (⟨by simp,by simp⟩) (by (refine ⟨rfl,rfl,rfl,?_,?_⟩;repeat' first|exact trivial|exact rfl|refine And.intro ?_ ?_|refine ⟨_,rfl,?_⟩|decide)) ?_
  rintro k ⟨hk,hI⟩
  (repeat' ((conv=>whnf);first|refine vA ?_|(refine vF ?_ ?_<;>intro hc<;>try simp only [vL] at hc)|refine vJ fun hg=>?_|(refine vQ ?_ fun x hx=>?_;·omega)|(refine vO ?_ ?_;·omega)|refine vZ ?_));all_goals try conv=>whnf
  ·have h1:=rowAt_of hx
   symm;unfold few34;rw [decide_eq_false_iff_not];intro h
   have:=h.2.2.2.2.2 k (by omega)
   rw [h1] at this;omega
  ·have h1:=rowAt_of hx
   exact ⟨k+1,[(0,0)],[],⟨by (omega),fun a ha=>by
    by_cases e:a=k
    ·subst e;rw [h1];omega
    ·exact hI a (by omega)⟩,by (omega),by (refine ⟨rfl,rfl,rfl,?_,?_⟩;repeat' first|exact trivial|exact rfl|refine And.intro ?_ ?_|refine ⟨_,rfl,?_⟩|decide)⟩
  ·symm;unfold few34;rw [decide_eq_true_eq];exact ⟨by omega,by omega,by omega,by omega,hI1,fun a ha=>hI a (by omega)⟩
def fewL (p:PM) (ls:List (List Nd)):Bool:=ls.all (fun f=>decide (f.length≤60))&&few34 p 12
theorem fn_few (p:PM) (ls:List (List Nd)):Fn Tryz.prog T f_wittinglaw34_few [.d (dPM p),.d (.arr 1 (ls.map dF))] [] (.d (.bool (fewL p ls))) []:=by
 refine fn_dataR hmix k_wittinglaw34_few (by show 2≤19;decide) ?_
 (repeat' ((conv=>whnf);first|refine vA ?_|refine vJ fun hg=>?_));all_goals try conv=>whnf
 refine loop_mem (fun (k:Nat)=>[(2,.ptr 0 0),(7,.d (.arr 1 (ls.map dF))),(8,.d (.int .i64 ((ls.map dF).length:Int))),(9,.d (.int .i64 ((k:Int))))]) (fun (k:Nat)=>[(0,some (boxPM p))]) 1 (fun (k:Nat)=>k≤ls.length∧ls.all (fun f=>decide (f.length≤60))=(ls.drop k).all (fun f=>decide (f.length≤60))) (fun (k:Nat)=>ls.length - k) (0) [(0,0)] [] (⟨by simp,by simp⟩) (by (refine ⟨rfl,rfl,rfl,?_,?_⟩;repeat' first|exact trivial|exact rfl|refine And.intro ?_ ?_|refine ⟨_,rfl,?_⟩|decide)) ?_
 rintro k ⟨hk,hI⟩
 (repeat' ((conv=>whnf);first|refine vA ?_|(refine vF ?_ ?_<;>intro hc<;>try simp only [vL] at hc)|refine vJ fun hg=>?_|(refine vQ ?_ fun x hx=>?_;·omega)|(refine vO ?_ ?_;·omega)|refine vZ ?_|refine yD (fn_Few34 _ _) ⟨⟨rfl,rfl⟩,⟨rfl,rfl⟩,rfl⟩ rfl ?_));all_goals try conv=>whnf
 ·rw [fewL,hI,drop_cons hx]
  have:decide (x.length≤60)=false:=by rw [decide_eq_false_iff_not];omega
  simp [this]
 ·exact ⟨k+1,[(0,0)],[],⟨by (omega),by
   rw [hI,drop_cons hx]
   have:decide (x.length≤60)=true:=by rw [decide_eq_true_eq];omega
   simp [this]⟩,by (omega),by (refine ⟨rfl,rfl,rfl,?_,?_⟩;repeat' first|exact trivial|exact rfl|refine And.intro ?_ ?_|refine ⟨_,rfl,?_⟩|decide)⟩
 ·rw [fewL,hI,List.drop_eq_nil_of_le (by omega)];simp
def ex0:PM:=⟨3,[1#64,6#64],[[0,0,0]],[[1,0,2]]⟩
theorem ex0_ok:IntsOk ex0.rank:=by
 intro r hr x hx
 simp [ex0] at hr
 subst hr
 simp at hx
 rcases hx with rfl|rfl|rfl<;>exact ⟨by decide,by decide⟩
theorem fn_example:Fn Tryz.prog T f_wittinglaw34_example [] [] (.d (dPM ex0)) []:=by
 refine fn_dataR hmix k_wittinglaw34_example (by show 0≤7;decide) ?_
 (repeat' ((conv=>whnf);refine vT ?_));all_goals try conv=>whnf
 rfl
theorem fn_holds34 (hR:RanksOk T) (f:List Nd) (s:BitVec 64) {b:Bool} (hb:(decide ((holdsL ex0 f).2=0)&&decide ((holdsL ex0 f).1=s))=b):Fn Tryz.prog T f_wittinglaw34_holds [.d (dF f),.d (.u64 s)] [] (.d (.bool b)) []:=by
 subst hb
 refine fn_dataR hmix k_wittinglaw34_holds (by show 2≤20;decide) ?_
 (repeat' ((conv=>whnf);fail));all_goals try conv=>whnf
 refine CallS.dataN (fn_example) (by (repeat refine ⟨⟨rfl,rfl⟩,?_⟩);rfl) ?_
 (repeat' ((conv=>whnf);first|refine vA ?_|(refine vF ?_ ?_<;>intro hc)|refine vZ ?_|refine yN (fn_Holds hR ex0 ex0_ok _) ⟨⟨rfl,rfl⟩,⟨rfl,rfl⟩,rfl⟩ ?_));all_goals try conv=>whnf
 all_goals simp [*]
end Go.Ab
namespace Go.Ab
open Go Go.Proofs
set_option linter.unusedSimpArgs false
set_option linter.unusedVariables false
set_option maxRecDepth 10000
set_option maxHeartbeats 4000000
variable {T:Nat→Obj→Prop}
def q0:List Nd:=[⟨3,0,0,0,0,0⟩]
def q1:List Nd:=[⟨3,1,0,0,0,0⟩]
def qT:List Nd:=[⟨1,0,0,0,0,0⟩]
def qN:List Nd:=[⟨3,1,0,0,0,0⟩,⟨4,0,0,0,0,0⟩]
def qO:List Nd:=[⟨3,0,0,0,0,0⟩,⟨3,1,0,0,0,0⟩,⟨4,0,0,0,1,0⟩,⟨6,0,0,0,0,2⟩]
def qB1:List Nd:=[⟨1,0,0,0,0,0⟩,⟨3,1,0,0,0,0⟩,⟨14,0,0,0,0,1⟩]
def qB2:List Nd:=[⟨3,1,0,0,0,0⟩,⟨4,0,0,0,0,0⟩,⟨3,0,0,0,0,0⟩,⟨14,0,0,0,1,2⟩]
def qB3:List Nd:=[⟨3,0,0,0,0,0⟩,⟨3,1,0,0,0,0⟩,⟨4,0,0,0,1,0⟩,⟨6,0,0,0,0,2⟩,⟨14,0,0,0,3,1⟩]
def qK:List Nd:=[⟨3,1,0,0,0,0⟩,⟨9,0,0,0,0,0⟩]
def qS:List Nd:=[⟨3,1,0,0,0,0⟩,⟨15,0,0,0,0,0⟩]
def qD:List Nd:=[⟨3,0,0,0,0,0⟩,⟨12,0,0,1,0,0⟩]
theorem eO1:buildL ⟨3,0,0,0,0,0⟩ []=q0:=by kernel_rfl
theorem eO2:buildL ⟨3,1,0,0,0,0⟩ []=q1:=by kernel_rfl
theorem eO3:buildL ⟨1,0,0,0,0,0⟩ []=qT:=by kernel_rfl
theorem eO4:buildL ⟨4,0,0,0,0,0⟩ [q1]=qN:=by kernel_rfl
theorem eO5:buildL ⟨6,0,0,0,0,0⟩ [q0,qN]=qO:=by kernel_rfl
theorem eO6:buildL ⟨14,0,0,0,0,0⟩ [qT,q1]=qB1:=by kernel_rfl
theorem eO7:buildL ⟨14,0,0,0,0,0⟩ [qN,q0]=qB2:=by kernel_rfl
theorem eO8:buildL ⟨14,0,0,0,0,0⟩ [qO,q1]=qB3:=by kernel_rfl
theorem eO9:buildL ⟨9,0,0,0,0,0⟩ [q1]=qK:=by kernel_rfl
theorem eO10:buildL ⟨15,0,0,0,0,0⟩ [q1]=qS:=by kernel_rfl
theorem eO11:buildL ⟨12,0,0,1,0,0⟩ [q0]=qD:=by kernel_rfl
theorem eO12:StrongL ex0 0 2#64=(7#64,0):=by kernel_rfl
theorem eO13:StrongL ex0 0 3#64=(7#64,0):=by kernel_rfl
theorem eO14:StrongL ex0 0 6#64=(0#64,0):=by kernel_rfl
theorem eO15:atL ex0 1 qS=(true,0):=by kernel_rfl
theorem eO16:BelievesL ex0 0 5#64 1#64=(7#64,0):=by kernel_rfl
theorem eO17:holdsL ex0 qD=(0#64,10):=by kernel_rfl
set_option maxHeartbeats 100000000 in
theorem fn_awake:Fn Tryz.prog T f_wittinglaw34_awake [] [] (.d (.bool true)) []:=by
 have hR:=ranks_ok (T:=T)
 have a0:=fn_FFact (T:=T) 0
 rw [eO1] at a0
 have a1:=fn_FFact (T:=T) 1
 rw [eO2] at a1
 have aT:=fn_FTrue (T:=T)
 rw [eO3] at aT
 have aN:=fn_FNot (T:=T) q1
 rw [eO4] at aN
 have aO:=fn_FOr (T:=T) q0 qN
 rw [eO5] at aO
 have aB1:=fn_FBelief (T:=T) 0 qT q1
 rw [eO6] at aB1
 have aB2:=fn_FBelief (T:=T) 0 qN q0
 rw [eO7] at aB2
 have aB3:=fn_FBelief (T:=T) 0 qO q1
 rw [eO8] at aB3
 have aK:=fn_FKnow (T:=T) 0 q1
 rw [eO9] at aK
 have aS:=fn_FSafe (T:=T) 0 q1
 rw [eO10] at aS
 have aD:=fn_FDist (T:=T) 1 q0
 rw [eO11] at aD
 have b1:=fn_holds34 hR qB1 7#64 (b:=true) (by kernel_rfl)
 have b2:=fn_holds34 hR qB2 7#64 (b:=true) (by kernel_rfl)
 have b3:=fn_holds34 hR qB3 0#64 (b:=true) (by kernel_rfl)
 have b4:=fn_holds34 hR qK 0#64 (b:=true) (by kernel_rfl)
 have b5:=fn_holds34 hR qS 2#64 (b:=true) (by kernel_rfl)
 have c1:=fn_Strong hR ex0 ex0_ok 0 2#64
 rw [eO12] at c1
 have c2:=fn_Strong hR ex0 ex0_ok 0 3#64
 rw [eO13] at c2
 have c3:=fn_Strong hR ex0 ex0_ok 0 6#64
 rw [eO14] at c3
 have c4:=fn_At hR ex0 ex0_ok 1 qS
 rw [eO15] at c4
 have c5:=fn_Believes hR ex0 ex0_ok 0 5#64 1#64
 rw [eO16] at c5
 have c6:=fn_Holds hR ex0 ex0_ok qD
 rw [eO17] at c6
 refine fn_dataR hmix k_wittinglaw34_awake (by show 0≤128;decide) ?_
 (repeat' ((conv=>whnf);first|refine yN a0 ⟨⟨rfl,rfl⟩,rfl⟩ ?_|refine yN a1 ⟨⟨rfl,rfl⟩,rfl⟩ ?_|refine yN aT rfl ?_));all_goals try conv=>whnf
 refine SeqS.cut (fun (u:Unit)=>[(1,.d (dF q0)),(2,.d (dF q1)),(4,.d (.bool (true)))]) (fun (u:Unit)=>[]) 0 (fun (u:Unit)=>True) ?_ ?_
 ·(repeat' ((conv=>whnf);first|refine TestS.yes (by decide) ?_|refine yN aB1 ⟨⟨rfl,rfl⟩,⟨rfl,rfl⟩,⟨rfl,rfl⟩,rfl⟩ ?_|refine yD b1 ⟨⟨rfl,rfl⟩,⟨rfl,rfl⟩,rfl⟩ rfl ?_|refine yN aN ⟨⟨rfl,rfl⟩,rfl⟩ ?_|refine yN aB2 ⟨⟨rfl,rfl⟩,⟨rfl,rfl⟩,⟨rfl,rfl⟩,rfl⟩ ?_|refine yD b2 ⟨⟨rfl,rfl⟩,⟨rfl,rfl⟩,rfl⟩ rfl ?_|refine yN aO ⟨⟨rfl,rfl⟩,⟨rfl,rfl⟩,rfl⟩ ?_|refine yN aB3 ⟨⟨rfl,rfl⟩,⟨rfl,rfl⟩,⟨rfl,rfl⟩,rfl⟩ ?_|refine yD b3 ⟨⟨rfl,rfl⟩,⟨rfl,rfl⟩,rfl⟩ rfl ?_|refine yN aK ⟨⟨rfl,rfl⟩,⟨rfl,rfl⟩,rfl⟩ ?_|refine yD b4 ⟨⟨rfl,rfl⟩,⟨rfl,rfl⟩,rfl⟩ rfl ?_|refine yN aS ⟨⟨rfl,rfl⟩,⟨rfl,rfl⟩,rfl⟩ ?_|refine yD b5 ⟨⟨rfl,rfl⟩,⟨rfl,rfl⟩,rfl⟩ rfl ?_));all_goals try conv=>whnf
  exact ⟨(),[],[],trivial,by (refine ⟨rfl,rfl,rfl,?_,?_⟩;repeat' first|exact trivial|exact rfl|exact .inl rfl|refine And.intro ?_ ?_)⟩
 ·intro u hu
  (repeat' ((conv=>whnf);first|refine yN fn_example rfl ?_|refine yN c1 ⟨⟨rfl,rfl⟩,⟨rfl,rfl⟩,⟨rfl,rfl⟩,rfl⟩ ?_|refine vA ?_|refine vZ ?_));all_goals try conv=>whnf
  conv=>arg 2;whnf
  (repeat' ((conv=>whnf);first|refine yN c2 ⟨⟨rfl,rfl⟩,⟨rfl,rfl⟩,⟨rfl,rfl⟩,rfl⟩ ?_|refine yN fn_example rfl ?_|refine vA ?_|refine vZ ?_));all_goals try conv=>whnf
  conv=>arg 2;whnf
  (repeat' ((conv=>whnf);first|refine yN c3 ⟨⟨rfl,rfl⟩,⟨rfl,rfl⟩,⟨rfl,rfl⟩,rfl⟩ ?_|refine yN fn_example rfl ?_|refine vA ?_|refine vZ ?_));all_goals try conv=>whnf
  conv=>arg 2;whnf
  (repeat' ((conv=>whnf);first|refine yN aS ⟨⟨rfl,rfl⟩,⟨rfl,rfl⟩,rfl⟩ ?_|refine yN fn_example rfl ?_|refine vA ?_|refine vZ ?_));all_goals try conv=>whnf
  conv=>arg 2;whnf
  (repeat' ((conv=>whnf);first|refine yN c4 ⟨⟨rfl,rfl⟩,⟨rfl,rfl⟩,⟨rfl,rfl⟩,rfl⟩ ?_|refine yN fn_example rfl ?_|refine vA ?_|refine vZ ?_));all_goals try conv=>whnf
  conv=>arg 2;whnf
  (repeat' ((conv=>whnf);first|refine yN c5 (by (repeat refine ⟨⟨rfl,rfl⟩,?_⟩);rfl) ?_|refine yN fn_example rfl ?_|refine vA ?_|refine vZ ?_));all_goals try conv=>whnf
  conv=>arg 2;whnf
  (repeat' ((conv=>whnf);first|refine yN aD ⟨⟨rfl,rfl⟩,⟨rfl,rfl⟩,rfl⟩ ?_|refine vA ?_|refine vZ ?_));all_goals try conv=>whnf
  conv=>arg 2;whnf
  refine yN c6 ⟨⟨rfl,rfl⟩,⟨rfl,rfl⟩,rfl⟩ ?_
  (repeat' ((conv=>whnf);first|refine vA ?_|refine vZ ?_|refine TestS.yes (by decide) ?_));all_goals try conv=>whnf
  rfl
end Go.Ab
