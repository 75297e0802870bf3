/- What is proved here: the law PlausRestricts of chapter 33 returns true at every input and leaves its arguments as they were; the condition is the row own: the listed table of math bits holds what the text lays. -/
import Derived.Test.YtlaahcmflibkgaaGreatDoorMH
set_option linter.unusedVariables false
set_option linter.unusedSimpArgs false
set_option linter.unusedSectionVars false
namespace Go.Ab
open Go Go.Proofs
section
open K
end
end Go.Ab
namespace Go.Proofs.YtlaahcmflibkgaaGreatDoor
open Go Go.Ab Go.RowKit Go.ChangeShapes Go.WideShapes
set_option linter.unusedVariables false
set_option maxRecDepth 100000 in
theorem plausRestricts_holds:Rows.PlausRestrictsSaid :=
 OpenClaim.holds_of_wide 4 Tryz.f4 rfl rfl rfl rfl rfl rfl rfl ⟨rfl,rfl,rfl,rfl,rfl⟩ rfl rfl rfl rfl rfl (by kernel_rfl) Tryz.func4 (by kernel_rfl)
  (of_decide_eq_true (by kernel_rfl)) (by unfold Func.isWrapper;rw [if_neg (of_decide_eq_false (by kernel_rfl))];exact ⟨rfl,rfl⟩)
  (fun os started H enc _=>law_lifted (C:=Tryz.checked) (s:=Rows.plausRestrictsSpec) (laid:=laidL) knob started (by kernel_rfl) Tryz.func4 laidOut [27,32] Tryz.params4 rfl Tryz.underlying4 rfl (by kernel_rfl)
   (fun ds hds=>by match ds,hds with|[d1,d2],_=>rfl)
   (ChangeSpec.witness_shaped (enc:=enc) (C:=Tryz.checked) (os:=os) (X:=fun w _=>laidMetH Tryz.prog laidL w) false (World.doorLaid Tryz.prog 14 os)
    #[.agg #[.int .i64 0,.slice none 0 0,.slice none 0 0,.slice none 0 0],.int .u64 0] 8 rfl (World.shaped_of_RefB (by kernel_rfl) (by kernel_rfl)) (by kernel_rfl) (by kernel_rfl) (by kernel_rfl) (door_met os _))
   (fun W hL=>⟨TOf W,(laid_T hL).1,(laid_T hL).2,fun ds hds=>by
    obtain ⟨p1,r,rfl,hc1,hp1,k1⟩:=arg27 hds
    obtain ⟨s2,r,rfl,k2⟩:=arg32 k1
    obtain rfl:=arg0 k2
    exact law_Restricts (tz_of hL) p1 hp1 s2⟩))
theorem plausRestricts_card:Rows.PlausRestrictsCardSaid :=
 Claim7.holds_tied_plain_at .later [] [.data] true (true, "6de5a34d7b7c750f9ff002f8df45870f7e752a21f926b7be7369ac0219a24b25") false
  plausRestricts_holds (fun _ h=>by cases h) (by kernel_rfl) (fun _ h=>by cases h) plausRestricts_row_tie rfl ⟨rfl,rfl⟩ (by kernel_rfl) rfl
  (fun f fn hf hfn=>by
   obtain rfl:f=4:=Option.some.inj ((show Tryz.prog.funcNamed Rows.plausRestrictsRow.func=some 4 by kernel_rfl).symm.trans hf) |>.symm
   obtain rfl:fn=Tryz.f4:=(Option.some.inj (Tryz.func4.symm.trans hfn)).symm
   exact ⟨by kernel_rfl,fun j t ht=>by
    rw [Tryz.params4] at ht
    have hm:t∈[27,32]:=by
     have:=List.mem_of_getElem? (l:=[27,32]) (i:=j) (by simpa using ht)
     exact this
    have hall:([27,32].all fun t=>Tryz.prog.wantsStandIn t==false)=true:=by kernel_rfl
    exact eq_of_beq (List.all_eq_true.1 hall t hm)⟩)
  (by kernel_rfl)
end Go.Proofs.YtlaahcmflibkgaaGreatDoor
