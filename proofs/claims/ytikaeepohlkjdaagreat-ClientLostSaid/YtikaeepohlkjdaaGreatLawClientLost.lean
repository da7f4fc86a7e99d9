/- ClientLost: for every input the law returns true, and each argument reads behind the call as it read before. No condition. -/
import Derived.Test.YtikaeepohlkjdaaGreatRows
import Derived.Test.YtikaeepohlkjdaaGreatK8
set_option maxRecDepth 100000
namespace Go.Proofs.YtikaeepohlkjdaaGreat
set_option linter.unusedVariables false
set_option linter.unusedSimpArgs false
open Go.Ab Go.RowKit
theorem op_3:Opens P 3 i64T KT:=zm9 ui_3
theorem op_24:Opens P 24 (sl i64T) (KAll 8 KT):=zbM op_3 zcj yo
theorem op_4:Opens P 4 zl KT:=ztO ub_4
theorem op_5:Opens P 5 u8T KT:=op_u8 ui_5
theorem zhq:Opens P 49 idT KT:=zpc op_5 ziK z6
theorem zr7:Opens P 50 u64T KT:=op_u64 zlL
theorem op_52:Opens P 52 zaC KT:=zpc zr7 zcA zaO
theorem op_53:Opens P 53 u32T KT:=op_u32 zrt
theorem op_55:Opens P 55 zbU KT:=zbt Head.mk_ (fun _=>rfl) yo zaX (zH zcf ty_3 op_3 rfl (zH zfF z6 zhq rfl (zH zfE z6 zhq rfl (zH zgf z6 zhq rfl (zH zhZ z6 zhq rfl (zH zji zaO op_52 rfl (zH zcX zcd op_53 rfl (zcg zge zct zr7)))))))) (fun _ _=>trivial)
theorem op_56:Opens P 56 (sl idT) (KAll 32 KT):=zbM zhq zdD yo
theorem op_72:Opens P 72 zba KT:=zbt Part.mk_ (fun _=>rfl) yo zeW (zH za7 zaX op_55 rfl (zcg zbz zcc op_56)) (fun _ _=>trivial)
theorem op_25:Opens P 25 (sl zba) (KAll 208 KT):=zbM op_72 zdV yo
theorem op_27:Opens P 27 zP KT:=zbt Proof.mk_ (fun _=>rfl) yo zaD (zH zcY ty_3 op_3 rfl (zH zcI ty_3 op_3 rfl (zcg zag zci op_25))) (fun _ _=>trivial)
theorem op_29:Opens P 29 zE KT:=zbt Client.mk_ (fun _=>rfl) yo zbv (zH zh0 ty_3 op_3 rfl (zH zgg ty_3 op_3 rfl (zH za9 zcF op_24 rfl (zH zfG ty_4 op_4 rfl (zcg za8 zaD op_27))))) (fun _ _=>trivial)
theorem zoz:Opens P 22 (sl u8T) (KAll 1 KT):=zbM op_5 zcG yo
theorem ztQ:Opens P 36 msgT KT:=zbt Msg.mk_ (fun _=>rfl) yo zmx (zH zbr ty_3 op_3 rfl (zH za1 ty_3 op_3 rfl (zcg zem zcx zoz))) (fun _ _=>trivial)
theorem ztP:Opens P 37 (sl msgT) (KAll 40 KT):=zbM ztQ ze9 yo
theorem zoy:ownKnob Tryz.prog.godebug=none:=yo
theorem znm:laidOutB Tryz.prog=true:=yo
theorem zlO (As:List AV) (h:Shape [⟨zE,KT⟩,⟨(sl msgT),(KAll 40 KT)⟩,⟨i64T,KT⟩] As):Tells P 6 As (.val zl true):=by
  match As,h with
  | [A0,A1,A2],⟨⟨x0,h0,k0⟩,⟨x1,h1,k1⟩,⟨x2,h2,k2⟩,_⟩=>subst h0;subst h1;subst h2;exact zri x0 x1 x2
theorem zkN (os:Os) (started:os.Started) (H:Type) (enc:TypeId×Value→H):ReturnsInHanded {} Tryz.checked os 6 .any (Rows.clientLostSpec.pre6 enc Tryz.prog Tryz.f6 Rows.clientLostRow.domain false) (Rows.clientLostSpec.post enc Tryz.prog Tryz.f6 false true false false) :=
  zeh (C:=Tryz.checked) (Gs:=[⟨zE,KT⟩,⟨(sl msgT),(KAll 40 KT)⟩,⟨i64T,KT⟩]) zoy started yo Tryz.func6
    (ChangeSpec.witness6 (enc:=enc) (C:=Tryz.checked) false ⟨#[],#[.agg #[.int .i64 0,.int .i64 0,.slice none 0 0,.bool false,.int .i64 0,.int .i64 0,.slice none 0 0],.slice none 0 0,.int .i64 0],[]⟩ 12 yo yo yo yo)
    rfl znm (by intro t ht;simp only[Tryz.params6,List.mem_cons,List.not_mem_nil,or_false] at ht;rcases ht with rfl|rfl|rfl<;>exact⟨by kernel_rfl,of_decide_eq_true yo⟩)
    (show zeD P [29,37,3] [⟨zE,KT⟩,⟨(sl msgT),(KAll 40 KT)⟩,⟨i64T,KT⟩] from⟨op_29,zbv,ztP,ty_37,op_3,ty_3,trivial⟩) rfl Tryz.underlying4 (fun ds hl=>by
      match ds,hl with
      | [d0,d1,d2],_=>rfl) zlO
theorem zqr:Tryz.pinned.checked.prog.funcNamed Rows.clientLostRow.func=some 6:=yo
theorem zqH:(Rows.clientLostRow.inPlace==Tryz.pinned.checked.prog.inPlace 6)=true:=yo
theorem zqF:(Rows.clientLostRow.unfollowed==Tryz.pinned.checked.prog.unfollowed 6)=true:=yo
theorem zqD:(Rows.clientLostRow.recurses==Tryz.pinned.checked.prog.recurses 6)=true:=yo
theorem zqB:(Rows.clientLostRow.named==Tryz.pinned.checked.prog.varsNamed 6)=true:=yo
theorem zqz:joinedFacts Tryz.pinned.checked.prog 6 Tryz.f6 Rows.clientLostSpec Rows.clientLostRow=true:=by
  unfold joinedFacts;rw[zqH,zqF,zqD,zqB];kernel_rfl
theorem ClientLost_said:Rows.ClientLostSaid :=
  OpenClaim.holds_of_wide 6 Tryz.f6 rfl rfl rfl rfl rfl rfl rfl yY rfl rfl rfl rfl rfl zqr Tryz.func6 zqz
    (of_decide_eq_true yo) yI
    (fun os started H enc _=>zkN os started H enc)
#print axioms ClientLost_said
end Go.Proofs.YtikaeepohlkjdaaGreat
