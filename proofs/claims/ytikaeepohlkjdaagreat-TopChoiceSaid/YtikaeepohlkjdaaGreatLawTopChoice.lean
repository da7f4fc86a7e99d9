/- TopChoice: for every input the law returns true, and each argument reads behind the call as it read before. No condition. -/
import Derived.Test.YtikaeepohlkjdaaGreatRows
import Derived.Test.YtikaeepohlkjdaaGreatK8
set_option maxRecDepth 100000
namespace Go.Proofs.YtikaeepohlkjdaaGreat
set_option linter.unusedVariables false
set_option linter.unusedSimpArgs false
open Go.Ab Go.RowKit
theorem op_3:Opens P 3 i64T KT:=zm9 ui_3
theorem op_5:Opens P 5 u8T KT:=op_u8 ui_5
theorem zoz:Opens P 22 (sl u8T) (KAll 1 KT):=zbM op_5 zcG yo
theorem zqh:ownKnob Tryz.prog.godebug=none:=yo
theorem zoD:laidOutB Tryz.prog=true:=yo
theorem zmB (As:List AV) (h:Shape [⟨i64T,KT⟩,⟨i64T,KT⟩,⟨(sl u8T),(KAll 1 KT)⟩,⟨(sl u8T),(KAll 1 KT)⟩] As):Tells P 3 As (.val zl true):=by
  match As,h with
  | [A0,A1,A2,A3],⟨⟨x0,h0,k0⟩,⟨x1,h1,k1⟩,⟨x2,h2,k2⟩,⟨x3,h3,k3⟩,_⟩=>subst h0;subst h1;subst h2;subst h3;exact zto x0 x1 x2 x3
theorem zlV (os:Os) (started:os.Started) (H:Type) (enc:TypeId×Value→H):ReturnsInHanded {} Tryz.checked os 3 .any (Rows.topChoiceSpec.pre6 enc Tryz.prog Tryz.f3 Rows.topChoiceRow.domain false) (Rows.topChoiceSpec.post enc Tryz.prog Tryz.f3 false true false false) :=
  zeh (C:=Tryz.checked) (Gs:=[⟨i64T,KT⟩,⟨i64T,KT⟩,⟨(sl u8T),(KAll 1 KT)⟩,⟨(sl u8T),(KAll 1 KT)⟩]) zqh started yo Tryz.func3
    (ChangeSpec.witness6 (enc:=enc) (C:=Tryz.checked) false ⟨#[],#[.int .i64 0,.int .i64 0,.slice none 0 0,.slice none 0 0],[]⟩ 12 yo yo yo yo)
    rfl zoD (by intro t ht;simp only[Tryz.params3,List.mem_cons,List.not_mem_nil,or_false] at ht;rcases ht with rfl|rfl|rfl|rfl<;>exact⟨by kernel_rfl,of_decide_eq_true yo⟩)
    (show zeD P [3,3,22,22] [⟨i64T,KT⟩,⟨i64T,KT⟩,⟨(sl u8T),(KAll 1 KT)⟩,⟨(sl u8T),(KAll 1 KT)⟩] from⟨op_3,ty_3,op_3,ty_3,zoz,zcx,zoz,zcx,trivial⟩) rfl Tryz.underlying4 (fun ds hl=>by
      match ds,hl with
      | [d0,d1,d2,d3],_=>rfl) zmB
theorem zr9:Tryz.pinned.checked.prog.funcNamed Rows.topChoiceRow.func=some 3:=yo
theorem zsx:(Rows.topChoiceRow.inPlace==Tryz.pinned.checked.prog.inPlace 3)=true:=yo
theorem zsu:(Rows.topChoiceRow.unfollowed==Tryz.pinned.checked.prog.unfollowed 3)=true:=yo
theorem zsr:(Rows.topChoiceRow.recurses==Tryz.pinned.checked.prog.recurses 3)=true:=yo
theorem zso:(Rows.topChoiceRow.named==Tryz.pinned.checked.prog.varsNamed 3)=true:=yo
theorem zsl:joinedFacts Tryz.pinned.checked.prog 3 Tryz.f3 Rows.topChoiceSpec Rows.topChoiceRow=true:=by
  unfold joinedFacts;rw[zsx,zsu,zsr,zso];kernel_rfl
theorem TopChoice_said:Rows.TopChoiceSaid :=
  OpenClaim.holds_of_wide 3 Tryz.f3 rfl rfl rfl rfl rfl rfl rfl yY rfl rfl rfl rfl rfl zr9 Tryz.func3 zsl
    (of_decide_eq_true yo) yI
    (fun os started H enc _=>zlV os started H enc)
#print axioms TopChoice_said
end Go.Proofs.YtikaeepohlkjdaaGreat
