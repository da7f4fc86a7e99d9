/- ClientNew: for every input the law returns true, and each argument reads behind the call as it read before. No condition. -/
import Derived.Test.YtikaeepohlkjdaaGreatRows
import Derived.Test.YtikaeepohlkjdaaGreatK8
set_option maxRecDepth 100000
namespace Go.Proofs.YtikaeepohlkjdaaGreat
set_option linter.unusedVariables false
set_option linter.unusedSimpArgs false
open Go.Ab Go.RowKit
theorem op_3:Opens P 3 i64T KT:=zm9 ui_3
theorem zqj:ownKnob Tryz.prog.godebug=none:=yo
theorem zoF:laidOutB Tryz.prog=true:=yo
theorem zmD (As:List AV) (h:Shape [⟨i64T,KT⟩,⟨i64T,KT⟩,⟨i64T,KT⟩] As):Tells P 5 As (.val zl true):=by
  match As,h with
  | [A0,A1,A2],⟨⟨x0,h0,k0⟩,⟨x1,h1,k1⟩,⟨x2,h2,k2⟩,_⟩=>subst h0;subst h1;subst h2;exact ztr x0 x1 x2
theorem zlX (os:Os) (started:os.Started) (H:Type) (enc:TypeId×Value→H):ReturnsInHanded {} Tryz.checked os 5 .any (Rows.clientNewSpec.pre6 enc Tryz.prog Tryz.f5 Rows.clientNewRow.domain false) (Rows.clientNewSpec.post enc Tryz.prog Tryz.f5 false true false false) :=
  zeh (C:=Tryz.checked) (Gs:=[⟨i64T,KT⟩,⟨i64T,KT⟩,⟨i64T,KT⟩]) zqj started yo Tryz.func5
    (ChangeSpec.witness6 (enc:=enc) (C:=Tryz.checked) false ⟨#[],#[.int .i64 0,.int .i64 0,.int .i64 0],[]⟩ 12 yo yo yo yo)
    rfl zoF (by intro t ht;simp only[Tryz.params5,List.mem_cons,List.not_mem_nil,or_false] at ht;rcases ht with rfl|rfl|rfl<;>exact⟨by kernel_rfl,of_decide_eq_true yo⟩)
    (show zeD P [3,3,3] [⟨i64T,KT⟩,⟨i64T,KT⟩,⟨i64T,KT⟩] from⟨op_3,ty_3,op_3,ty_3,op_3,ty_3,trivial⟩) rfl Tryz.underlying4 (fun ds hl=>by
      match ds,hl with
      | [d0,d1,d2],_=>rfl) zmD
theorem zsb:Tryz.pinned.checked.prog.funcNamed Rows.clientNewRow.func=some 5:=yo
theorem zsz:(Rows.clientNewRow.inPlace==Tryz.pinned.checked.prog.inPlace 5)=true:=yo
theorem zsw:(Rows.clientNewRow.unfollowed==Tryz.pinned.checked.prog.unfollowed 5)=true:=yo
theorem zst:(Rows.clientNewRow.recurses==Tryz.pinned.checked.prog.recurses 5)=true:=yo
theorem zsq:(Rows.clientNewRow.named==Tryz.pinned.checked.prog.varsNamed 5)=true:=yo
theorem zsn:joinedFacts Tryz.pinned.checked.prog 5 Tryz.f5 Rows.clientNewSpec Rows.clientNewRow=true:=by
  unfold joinedFacts;rw[zsz,zsw,zst,zsq];kernel_rfl
theorem ClientNew_said:Rows.ClientNewSaid :=
  OpenClaim.holds_of_wide 5 Tryz.f5 rfl rfl rfl rfl rfl rfl rfl yY rfl rfl rfl rfl rfl zsb Tryz.func5 zsn
    (of_decide_eq_true yo) yI
    (fun os started H enc _=>zlX os started H enc)
#print axioms ClientNew_said
end Go.Proofs.YtikaeepohlkjdaaGreat
