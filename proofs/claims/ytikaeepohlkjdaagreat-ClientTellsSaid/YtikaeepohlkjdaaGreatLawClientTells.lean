/- ClientTells: for every input the law returns true, and each argument reads behind the call as it read before. No condition. -/
import Derived.Test.YtikaeepohlkjdaaGreatRows
import Derived.Test.YtikaeepohlkjdaaGreatK9
set_option maxRecDepth 100000
namespace Go.Proofs.YtikaeepohlkjdaaGreat
set_option linter.unusedVariables false
set_option linter.unusedSimpArgs false
open Go.Ab Go.RowKit
theorem op_3:Opens P 3 i64T KT:=op_int ui_3
theorem op_24:Opens P 24 (sl i64T) (KAll 8 KT):=zkC op_3 zdG yt
theorem op_4:Opens P 4 zo KT:=op_bool ub_4
theorem op_5:Opens P 5 u8T KT:=op_u8 ui_5
theorem op_49:Opens P 49 idT KT:=op_arr op_5 zhL zY
theorem op_50:Opens P 50 u64T KT:=op_u64 zlp
theorem op_52:Opens P 52 zV KT:=op_arr op_50 zbm zag
theorem op_53:Opens P 53 u32T KT:=op_u32 ui_53
theorem op_55:Opens P 55 zbk KT:=zij Head.mk_ (fun _=>rfl) yt zbZ (zci zcI ty_3 op_3 rfl (zci zez zY op_49 rfl (zci zey zY op_49 rfl (zci zfW zY op_49 rfl (zci zhw zY op_49 rfl (zci zjW zag op_52 rfl (zci zdg zbC op_53 rfl (zkB zgF za2 op_50)))))))) (fun _ _=>trivial)
theorem op_56:Opens P 56 (sl idT) (KAll 32 KT):=zkC op_49 zce yt
theorem op_72:Opens P 72 zaK KT:=zij Part.mk_ (fun _=>rfl) yt zeR (zci zbA zbZ op_55 rfl (zkB zb3 zcl op_56)) (fun _ _=>trivial)
theorem op_25:Opens P 25 (sl zaK) (KAll 208 KT):=zkC op_72 zcu yt
theorem op_27:Opens P 27 zP KT:=zij Proof.mk_ (fun _=>rfl) yt zaO (zci zed ty_3 op_3 rfl (zci zdJ ty_3 op_3 rfl (zkB za1 zcy op_25))) (fun _ _=>trivial)
theorem op_29:Opens P 29 zZ KT:=zij Client.mk_ (fun _=>rfl) yt za3 (zci ziw ty_3 op_3 rfl (zci zlQ ty_3 op_3 rfl (zci zec zkb op_24 rfl (zci zhx ty_4 op_4 rfl (zkB zcJ zaO op_27))))) (fun _ _=>trivial)
theorem op_22:Opens P 22 (sl u8T) (KAll 1 KT):=zkC op_5 zb0 yt
theorem op_36:Opens P 36 msgT KT:=zij Msg.mk_ (fun _=>rfl) yt ty_36 (zci zow ty_3 op_3 rfl (zci zfX ty_3 op_3 rfl (zkB zlP zji op_22))) (fun _ _=>trivial)
theorem op_37:Opens P 37 (sl msgT) (KAll 40 KT):=zkC op_36 sl_37 yt
theorem znZ:ownKnob Tryz.prog.godebug=none:=yt
theorem zmA:laidOutB Tryz.prog=true:=yt
theorem zbs {G:GT} {Gs:List GT}:∀{As:List AV},Shape (G::Gs) As->∃A Bs,As=A::Bs/\(∃x,A = .val G.T x/\G.K x)/\Shape Gs Bs
  | [],h=>h.elim
  | A::Bs,h=>⟨A,Bs,rfl,h.1,h.2⟩
theorem zny:∀{As:List AV},Shape [] As->As=[]
  | [],_=>rfl
  | _::_,h=>h.elim
theorem zlq (As:List AV) (h:Shape [⟨zZ,KT⟩,⟨zZ,KT⟩,⟨(sl msgT),(KAll 40 KT)⟩,⟨i64T,KT⟩,⟨i64T,KT⟩,⟨i64T,KT⟩,⟨idT,KT⟩,⟨(sl idT),(KAll 32 KT)⟩] As):Tells P 10 As (.val zo true):=by
  obtain⟨A0,As0,rfl,⟨x0,rfl,k0⟩,h0⟩:=zbs h;obtain⟨A1,As1,rfl,⟨x1,rfl,k1⟩,h1⟩:=zbs h0;obtain⟨A2,As2,rfl,⟨x2,rfl,k2⟩,h2⟩:=zbs h1;obtain⟨A3,As3,rfl,⟨x3,rfl,k3⟩,h3⟩:=zbs h2;obtain⟨A4,As4,rfl,⟨x4,rfl,k4⟩,h4⟩:=zbs h3;obtain⟨A5,As5,rfl,⟨x5,rfl,k5⟩,h5⟩:=zbs h4;obtain⟨A6,As6,rfl,⟨x6,rfl,k6⟩,h6⟩:=zbs h5;obtain⟨A7,As7,rfl,⟨x7,rfl,k7⟩,h7⟩:=zbs h6;obtain rfl:=zny h7;exact zpm x0 x1 x2 x3 x4 x5 x6 x7
theorem zkJ (os:Os) (started:os.Started) (H:Type) (enc:TypeId×Value->H):ReturnsInHanded {} Tryz.checked os 10 .any (Rows.clientTellsSpec.pre6 enc Tryz.prog Tryz.f10 Rows.clientTellsRow.domain false) (Rows.clientTellsSpec.post enc Tryz.prog Tryz.f10 false true false false) :=
  law_handed (C:=Tryz.checked) (Gs:=[⟨zZ,KT⟩,⟨zZ,KT⟩,⟨(sl msgT),(KAll 40 KT)⟩,⟨i64T,KT⟩,⟨i64T,KT⟩,⟨i64T,KT⟩,⟨idT,KT⟩,⟨(sl idT),(KAll 32 KT)⟩]) znZ started yt Tryz.func10
    (ChangeSpec.witness6 (enc:=enc) (C:=Tryz.checked) false ⟨#[],#[.agg #[.int .i64 0,.int .i64 0,.slice none 0 0,.bool false,.int .i64 0,.int .i64 0,.slice none 0 0],.agg #[.int .i64 0,.int .i64 0,.slice none 0 0,.bool false,.int .i64 0,.int .i64 0,.slice none 0 0],.slice none 0 0,.int .i64 0,.int .i64 0,.int .i64 0,.agg #[.int .u8 0,.int .u8 0,.int .u8 0,.int .u8 0,.int .u8 0,.int .u8 0,.int .u8 0,.int .u8 0,.int .u8 0,.int .u8 0,.int .u8 0,.int .u8 0,.int .u8 0,.int .u8 0,.int .u8 0,.int .u8 0,.int .u8 0,.int .u8 0,.int .u8 0,.int .u8 0,.int .u8 0,.int .u8 0,.int .u8 0,.int .u8 0,.int .u8 0,.int .u8 0,.int .u8 0,.int .u8 0,.int .u8 0,.int .u8 0,.int .u8 0,.int .u8 0],.slice none 0 0],[]⟩ 12 yt yt yt yt)
    rfl zmA (by intro t ht;simp only[Tryz.params10,List.mem_cons,List.not_mem_nil,or_false] at ht;rcases ht with rfl|rfl|rfl|rfl|rfl|rfl|rfl|rfl<;>exact⟨by kernel_rfl,of_decide_eq_true yt⟩)
    (show zng P [29,29,37,3,3,3,49,56] [⟨zZ,KT⟩,⟨zZ,KT⟩,⟨(sl msgT),(KAll 40 KT)⟩,⟨i64T,KT⟩,⟨i64T,KT⟩,⟨i64T,KT⟩,⟨idT,KT⟩,⟨(sl idT),(KAll 32 KT)⟩] from⟨op_29,za3,op_29,za3,op_37,ty_37,op_3,ty_3,op_3,ty_3,op_3,ty_3,op_49,zY,op_56,zcl,trivial⟩) rfl Tryz.underlying4 (fun ds hl=>by
      match ds,hl with
      | [d0,d1,d2,d3,d4,d5,d6,d7],_=>rfl) zlq
theorem zpa:Tryz.pinned.checked.prog.funcNamed Rows.clientTellsRow.func=some 10:=yt
theorem zpg:(Rows.clientTellsRow.inPlace==Tryz.pinned.checked.prog.inPlace 10)=true:=yt
theorem zpf:(Rows.clientTellsRow.unfollowed==Tryz.pinned.checked.prog.unfollowed 10)=true:=yt
theorem zpe:(Rows.clientTellsRow.recurses==Tryz.pinned.checked.prog.recurses 10)=true:=yt
theorem zpd:(Rows.clientTellsRow.named==Tryz.pinned.checked.prog.varsNamed 10)=true:=yt
theorem zpc:joinedFacts Tryz.pinned.checked.prog 10 Tryz.f10 Rows.clientTellsSpec Rows.clientTellsRow=true:=by
  unfold joinedFacts;rw[zpg,zpf,zpe,zpd];kernel_rfl
theorem ClientTells_said:Rows.ClientTellsSaid :=
  OpenClaim.holds_of_wide 10 Tryz.f10 rfl rfl rfl rfl rfl rfl rfl yac rfl rfl rfl rfl rfl zpa Tryz.func10 zpc
    (of_decide_eq_true yt) (by unfold Func.isWrapper;first|(rw[ut yc];kernel_rfl)|(rw[ur yc];exact⟨rfl,rfl⟩))
    (fun os started H enc _=>zkJ os started H enc)
#print axioms ClientTells_said
end Go.Proofs.YtikaeepohlkjdaaGreat
