/- ClientOpen: for every input the law returns true, and each argument reads behind the call as it read before. No condition. -/
import Derived.Test.YtikaeepohlkjdaaGreatRows
import Derived.Test.YtikaeepohlkjdaaGreatK8
set_option maxRecDepth 100000
namespace Go.Proofs.YtikaeepohlkjdaaGreat
set_option linter.unusedVariables false
set_option linter.unusedSimpArgs false
open Go.Ab Go.RowKit
theorem op_3:Opens P 3 i64T KT:=zm9 ui_3
theorem op_5:Opens P 5 u8T KT:=op_u8 ui_5
theorem zoz:Opens P 22 (sl u8T) (KAll 1 KT):=zbM op_5 zcG yo
theorem ztQ:Opens P 36 msgT KT:=zbt Msg.mk_ (fun _=>rfl) yo zmx (zH zbr ty_3 op_3 rfl (zH za1 ty_3 op_3 rfl (zcg zem zcx zoz))) (fun _ _=>trivial)
theorem ztP:Opens P 37 (sl msgT) (KAll 40 KT):=zbM ztQ ze9 yo
theorem zox:ownKnob Tryz.prog.godebug=none:=yo
theorem znl:laidOutB Tryz.prog=true:=yo
theorem zlN (As:List AV) (h:Shape [⟨i64T,KT⟩,⟨i64T,KT⟩,⟨(sl msgT),(KAll 40 KT)⟩,⟨i64T,KT⟩] As):Tells P 7 As (.val zl true):=by
  match As,h with
  | [A0,A1,A2,A3],⟨⟨x0,h0,k0⟩,⟨x1,h1,k1⟩,⟨x2,h2,k2⟩,⟨x3,h3,k3⟩,_⟩=>subst h0;subst h1;subst h2;subst h3;exact zrh x0 x1 x2 x3
theorem zkM (os:Os) (started:os.Started) (H:Type) (enc:TypeId×Value→H):ReturnsInHanded {} Tryz.checked os 7 .any (Rows.clientOpenSpec.pre6 enc Tryz.prog Tryz.f7 Rows.clientOpenRow.domain false) (Rows.clientOpenSpec.post enc Tryz.prog Tryz.f7 false true false false) :=
  zeh (C:=Tryz.checked) (Gs:=[⟨i64T,KT⟩,⟨i64T,KT⟩,⟨(sl msgT),(KAll 40 KT)⟩,⟨i64T,KT⟩]) zox started yo Tryz.func7
    (ChangeSpec.witness6 (enc:=enc) (C:=Tryz.checked) false ⟨#[],#[.int .i64 0,.int .i64 0,.slice none 0 0,.int .i64 0],[]⟩ 12 yo yo yo yo)
    rfl znl (by intro t ht;simp only[Tryz.params7,List.mem_cons,List.not_mem_nil,or_false] at ht;rcases ht with rfl|rfl|rfl|rfl<;>exact⟨by kernel_rfl,of_decide_eq_true yo⟩)
    (show zeD P [3,3,37,3] [⟨i64T,KT⟩,⟨i64T,KT⟩,⟨(sl msgT),(KAll 40 KT)⟩,⟨i64T,KT⟩] from⟨op_3,ty_3,op_3,ty_3,ztP,ty_37,op_3,ty_3,trivial⟩) rfl Tryz.underlying4 (fun ds hl=>by
      match ds,hl with
      | [d0,d1,d2,d3],_=>rfl) zlN
theorem zqq:Tryz.pinned.checked.prog.funcNamed Rows.clientOpenRow.func=some 7:=yo
theorem zqG:(Rows.clientOpenRow.inPlace==Tryz.pinned.checked.prog.inPlace 7)=true:=yo
theorem zqE:(Rows.clientOpenRow.unfollowed==Tryz.pinned.checked.prog.unfollowed 7)=true:=yo
theorem zqC:(Rows.clientOpenRow.recurses==Tryz.pinned.checked.prog.recurses 7)=true:=yo
theorem zqA:(Rows.clientOpenRow.named==Tryz.pinned.checked.prog.varsNamed 7)=true:=yo
theorem zqy:joinedFacts Tryz.pinned.checked.prog 7 Tryz.f7 Rows.clientOpenSpec Rows.clientOpenRow=true:=by
  unfold joinedFacts;rw[zqG,zqE,zqC,zqA];kernel_rfl
theorem ClientOpen_said:Rows.ClientOpenSaid :=
  OpenClaim.holds_of_wide 7 Tryz.f7 rfl rfl rfl rfl rfl rfl rfl yY rfl rfl rfl rfl rfl zqq Tryz.func7 zqy
    (of_decide_eq_true yo) yI
    (fun os started H enc _=>zkM os started H enc)
#print axioms ClientOpen_said
end Go.Proofs.YtikaeepohlkjdaaGreat
