/- A part of the proofs of this seat: functions and their contracts. -/
import Derived.Test.YtmaiaomgcpbccaaGreatMF
set_option linter.unusedVariables false
set_option linter.unusedSimpArgs false
set_option linter.unusedSectionVars false
namespace Go.Ab
open Go Go.Proofs
set_option linter.unusedSimpArgs false
set_option linter.unusedVariables false
set_option maxRecDepth 10000
set_option maxHeartbeats 4000000
variable {T:Nat→Obj→Prop}
def q0:List Nd:=[⟨3,0,0,0,0,0⟩]
def q1:List Nd:=[⟨3,1,0,0,0,0⟩]
def qF:List Nd:=[⟨2,0,0,0,0,0⟩]
def qN:List Nd:=[⟨3,0,0,0,0,0⟩,⟨4,0,0,0,0,0⟩]
def qA:List Nd:=[⟨3,0,0,0,0,0⟩,⟨4,0,0,0,0,0⟩,⟨5,0,0,0,0,1⟩]
theorem eU1:buildL ⟨3,0,0,0,0,0⟩ []=q0:=by kernel_rfl
theorem eU2:buildL ⟨3,1,0,0,0,0⟩ []=q1:=by kernel_rfl
theorem eU3:buildL ⟨2,0,0,0,0,0⟩ []=qF:=by kernel_rfl
theorem eU4:buildL ⟨4,0,0,0,0,0⟩ [q0]=qN:=by kernel_rfl
theorem eU5:buildL ⟨5,0,0,0,0,0⟩ [q0,qN]=qA:=by kernel_rfl
theorem eU6:radL (exU 0 1 2 3) q0=(exU 2 0 3 1,0):=by kernel_rfl
theorem eU7:conL (exU 0 1 2 3) q0=(exU 1 0 2 3,0):=by kernel_rfl
theorem eU8:hardL (exU 0 1 2 3) q0=(⟨2,[3#64,2#64],[[0,0]],[[0,1]]⟩,[1,3],0):=by kernel_rfl
theorem eU9:seqL (exU 0 1 2 3) [2,2] [q0,q1]=(exU 3 2 1 0,[0,1,2,3],0):=by kernel_rfl
theorem eU10:(hardL (exU 0 1 2 3) qA)=(noP,[],11):=by kernel_rfl
theorem eU11:radL (exU 0 1 2 3) qF=(exU 0 1 2 3,0):=by kernel_rfl
theorem fn_awakeU (hR:RanksOk T) (hRO:RanksOwn T):Fn Tryz.prog T f_wittinglaw36_awake [] [] (.d (.bool true)) []:=by
 have hp:IntsOk (exU 0 1 2 3).rank:=ints_of (by kernel_rfl)
 have a0:=fn_FFact (T:=T) 0
 rw [eU1] at a0
 have a1:=fn_FFact (T:=T) 1
 rw [eU2] at a1
 have aF:=fn_FFalse (T:=T)
 rw [eU3] at aF
 have aN:=fn_FNot (T:=T) q0
 rw [eU4] at aN
 have aA:=fn_FAnd (T:=T) q0 qN
 rw [eU5] at aA
 have c1:=fn_Radical hR (exU 0 1 2 3) hp q0
 rw [eU6] at c1
 have c2:=fn_Conservative hR (exU 0 1 2 3) hp q0
 rw [eU7] at c2
 have c3:=fn_Hard hR hRO (exU 0 1 2 3) hp q0
 rw [eU8] at c3
 have c4:=fn_Sequence hR hRO (exU 0 1 2 3) hp [2,2] [q0,q1]
 rw [eU9] at c4
 have c5:=fn_Hard hR hRO (exU 0 1 2 3) hp qA
 rw [eU10] at c5
 have c6:=fn_Radical hR (exU 0 1 2 3) hp qF
 rw [eU11] at c6
 have hS : ∀ p:PM,Fn Tryz.prog T f_plaus_Same [.d (dPM p),.d (dPM p)] [] (.d (.bool true)) []:=fun p=>by
  have h:=fn_plaus_Same (T:=T) p p
  rwa [decide_eq_true rfl] at h
 have x1:=fn_exU (T:=T) 0 1 2 3
 have x2:=fn_exU (T:=T) 2 0 3 1
 have x3:=fn_exU (T:=T) 1 0 2 3
 have x4:=fn_exU (T:=T) 3 2 1 0
 refine fn_dataR hmix k_wittinglaw36_awake (by show 0≤133;decide) ?_
 (repeat' ((conv=>whnf);first|refine yN x1 (by (repeat refine ⟨⟨rfl,rfl⟩,?_⟩);rfl) ?_|refine yN a0 ⟨⟨rfl,rfl⟩,rfl⟩ ?_|refine yN a1 ⟨⟨rfl,rfl⟩,rfl⟩ ?_|refine yN c1 ⟨⟨rfl,rfl⟩,⟨rfl,rfl⟩,rfl⟩ ?_|refine yN c2 ⟨⟨rfl,rfl⟩,⟨rfl,rfl⟩,rfl⟩ ?_|refine yN c3 ⟨⟨rfl,rfl⟩,⟨rfl,rfl⟩,rfl⟩ ?_|refine yN c4 ⟨⟨rfl,rfl⟩,⟨rfl,rfl⟩,⟨rfl,rfl⟩,rfl⟩ ?_));all_goals try conv=>whnf
 refine SeqS.cut (fun (u:Unit)=>[(1,.ptr 0 0),(4,.ptr 1 0),(5,.d (.int .i64 (0))),(6,.ptr 2 0),(7,.d (.int .i64 (0))),(8,.ptr 3 0),(9,.d (dI [1,3])),(10,.d (.int .i64 (0))),(11,.ptr 6 0),(12,.d (dI [0,1,2,3])),(13,.d (.int .i64 (0))),(16,.d (.int .i64 (11)))]) (fun (u:Unit)=>[(0,some (boxPM (exU 0 1 2 3))),(1,some (boxPM (exU 2 0 3 1))),(2,some (boxPM (exU 1 0 2 3))),(3,some (boxPM ⟨2,[3#64,2#64],[[0,0]],[[0,1]]⟩)),(6,some (boxPM (exU 3 2 1 0)))]) 7 (fun (u:Unit)=>True) ?_ ?_
 ·(repeat' ((conv=>whnf);first|(refine vU ?_ ?_;·kernel_rfl)|refine yN aN ⟨⟨rfl,rfl⟩,rfl⟩ ?_|refine yN aA ⟨⟨rfl,rfl⟩,⟨rfl,rfl⟩,rfl⟩ ?_|refine yN c5 ⟨⟨rfl,rfl⟩,⟨rfl,rfl⟩,rfl⟩ ?_));all_goals try conv=>whnf
  exact ⟨(),[(0,0),(1,1),(2,2),(3,3),(6,6)],[],trivial,by (refine ⟨rfl,rfl,rfl,?_,?_⟩;repeat' first|exact trivial|exact rfl|refine And.intro ?_ ?_|refine ⟨_,rfl,?_⟩|decide)⟩
 intro u hu
 (repeat' ((conv=>whnf);fail));all_goals try conv=>whnf
 refine SeqS.cut (fun (u:Unit)=>[(1,.ptr 0 0),(4,.ptr 1 0),(5,.d (.int .i64 (0))),(6,.ptr 2 0),(7,.d (.int .i64 (0))),(8,.ptr 3 0),(9,.d (dI [1,3])),(10,.d (.int .i64 (0))),(11,.ptr 6 0),(12,.d (dI [0,1,2,3])),(13,.d (.int .i64 (0))),(16,.d (.int .i64 (11))),(17,.ptr 7 0),(18,.d (.int .i64 (0)))]) (fun (u:Unit)=>[(0,some (boxPM (exU 0 1 2 3))),(1,some (boxPM (exU 2 0 3 1))),(2,some (boxPM (exU 1 0 2 3))),(3,some (boxPM ⟨2,[3#64,2#64],[[0,0]],[[0,1]]⟩)),(6,some (boxPM (exU 3 2 1 0))),(7,some (boxPM (exU 0 1 2 3)))]) 8 (fun (u:Unit)=>True) ?_ ?_
 ·(repeat' ((conv=>whnf);first|(refine vU ?_ ?_;·kernel_rfl)|refine yN aF rfl ?_|refine yN c6 ⟨⟨rfl,rfl⟩,⟨rfl,rfl⟩,rfl⟩ ?_));all_goals try conv=>whnf
  exact ⟨(),[(0,0),(1,1),(2,2),(3,3),(6,6),(7,7)],[],trivial,by (refine ⟨rfl,rfl,rfl,?_,?_⟩;repeat' first|exact trivial|exact rfl|refine And.intro ?_ ?_|refine ⟨_,rfl,?_⟩|decide)⟩
 intro u hu
 (repeat' ((conv=>whnf);first|refine vA ?_|refine vG ?_|(refine vO ?_ ?_;·omega)|refine yN x2 (by (repeat refine ⟨⟨rfl,rfl⟩,?_⟩);rfl) ?_));all_goals try conv=>whnf
 conv=>arg 2;whnf
 refine CallS.data (hS (exU 2 0 3 1)) (by (repeat refine ⟨⟨rfl,rfl⟩,?_⟩);rfl) rfl ?_
 (repeat' ((conv=>whnf);first|refine vG ?_|refine yN x3 (by (repeat refine ⟨⟨rfl,rfl⟩,?_⟩);rfl) ?_));all_goals try conv=>whnf
 conv=>arg 2;whnf
 refine CallS.data (hS (exU 1 0 2 3)) (by (repeat refine ⟨⟨rfl,rfl⟩,?_⟩);rfl) rfl ?_
 (repeat' ((conv=>whnf);first|refine vG ?_|(refine vF ?_ ?_<;>intro hc)|refine vJ fun hg=>?_|refine vT ?_|(refine vQ ?_ fun x hx=>?_;·(simp only [vM] at *;omega))|(refine vU ?_ ?_;·kernel_rfl)|refine vZ ?_));all_goals try conv=>whnf
 ·conv=>arg 2;whnf
  refine CallS.data (hS ⟨2,[3#64,2#64],[[0,0]],[[0,1]]⟩) (by (repeat refine ⟨⟨rfl,rfl⟩,?_⟩);rfl) rfl ?_
  (repeat' ((conv=>whnf);first|refine vG ?_|refine yN x4 (by (repeat refine ⟨⟨rfl,rfl⟩,?_⟩);rfl) ?_));all_goals try conv=>whnf
  conv=>arg 2;whnf
  refine CallS.data (hS (exU 3 2 1 0)) (by (repeat refine ⟨⟨rfl,rfl⟩,?_⟩);rfl) rfl ?_
  (repeat' ((conv=>whnf);first|refine vG ?_|refine vJ fun hg=>?_));all_goals try conv=>whnf
  conv=>arg 2;whnf
  refine CallS.data (hS (exU 0 1 2 3)) (by (repeat refine ⟨⟨rfl,rfl⟩,?_⟩);rfl) rfl ?_
  (repeat' ((conv=>whnf);first|(refine vU ?_ ?_;·kernel_rfl)|refine vZ ?_));all_goals try conv=>whnf
 ·exact absurd (Option.some.inj hx).symm hc
 ·exact absurd (Option.some.inj hx).symm hc
end Go.Ab
