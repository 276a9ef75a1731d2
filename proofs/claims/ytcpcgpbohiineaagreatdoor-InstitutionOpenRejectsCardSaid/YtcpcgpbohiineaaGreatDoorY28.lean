/- Proves: pension/pensionlaw35.InstitutionOpenRejects answers true at every input that the given row lays (no further conditions). -/
import Derived.Test.YtcpcgpbohiineaaGreatDoorY27
namespace Go.Proofs.YtcpcgpbohiineaaGreatDoor
open Go.RowKit Go.Proofs.Tryz
set_option linter.all false
set_option maxRecDepth 100000
set_option maxHeartbeats 4000000
section
open Go.ChangeShapes Go.WideShapes Go.ChangeAt Go.RowKit Go.Deep
def AEe:joinedFacts Tryz.pinned.checked.prog 3 f3 (OpenSpec.ofChange Rows.institutionOpenRejectsSpec).bare Rows.institutionOpenRejectsRow=true:=by
 unfold joinedFacts;simp only[At];repeat' apply And.intro
 all_goals (as_aux_lemma=>kernel_rfl)
def AEc:Rows.InstitutionOpenRejectsSaid:=
 OpenClaim.holds_of_cond 3 f3 rfl rfl rfl rfl rfl rfl rfl ⟨rfl,rfl,rfl,rfl,rfl⟩ rfl rfl rfl rfl rfl SO func3 AEe
  (Ic SO) (by unfold Func.isWrapper;first|(rw[Ab L_];kernel_rfl)|(rw[AU L_];exact⟨rfl,rfl⟩))
  (λD E B C _ A=>by rw[OpenClaim.pre_eq_preRow];exact AEd D E B C A)
theorem opr_holds:Rows.InstitutionOpenRejectsCardSaid:=
 Claim7.holds_tied_plain_at .later [] [.data,.data,.data] true Rows.institutionOpenRejectsCard.stood.harness true
  AEc Pq SO Pq institutionOpenRejects_row_tie rfl ⟨rfl,rfl⟩ SO rfl
  (λC D F G=>by
   obtain rfl:C=3:=Ld ((show prog.funcNamed "pension/pensionlaw35.InstitutionOpenRejects" = some 3 by kernel_rfl).symm.trans F) |>.symm;obtain rfl:D=f3:=(Ld (func3.symm.trans G)).symm;exact⟨SO,λH B A=>by
    have E:∀B∈f3.params.toList,prog.wantsStandIn B=false:=by
     rw[params3];intro B A;simp only[Aj,A',A_] at A;rcases A with rfl|rfl|rfl|rfl<;>kernel_rfl
    exact E B (by rw[<-Ng] at A;exact Bu A)⟩)
  SO
end
