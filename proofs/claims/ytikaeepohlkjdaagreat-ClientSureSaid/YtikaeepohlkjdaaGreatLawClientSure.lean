/- ClientSure: for every input the law returns true, and each argument reads behind the call as it read before. No condition. -/
import Derived.Test.YtikaeepohlkjdaaGreatRows
import Derived.Test.YtikaeepohlkjdaaGreatK9
set_option maxRecDepth 100000
namespace Go.Proofs.YtikaeepohlkjdaaGreat
set_option linter.unusedVariables false
set_option linter.unusedSimpArgs false
open Go.Ab Go.RowKit
theorem op_3:Opens P 3 i64T KT:=op_int ui_3
theorem op_5:Opens P 5 u8T KT:=op_u8 ui_5
theorem zlV:Opens P 49 idT KT:=zwx op_5 zjH zaj
theorem op_50:Opens P 50 u64T KT:=op_u64 znH
theorem op_52:Opens P 52 zaL KT:=zwx op_50 zcS za1
theorem op_53:Opens P 53 u32T KT:=op_u32 zuI
theorem op_55:Opens P 55 zbW KT:=zdP Head.mk_ (fun _=>rfl) yr zaM (za2 zcR ty_3 op_3 rfl (za2 zg1 zaj zlV rfl (za2 zg0 zaj zlV rfl (za2 ziT zaj zlV rfl (za2 zkb zaj zlV rfl (za2 zl9 za1 op_52 rfl (za2 zdF zcj op_53 rfl (ze5 zhR zcE op_50)))))))) (fun _ _=>trivial)
theorem op_56:Opens P 56 (sl idT) (KAll 32 KT):=zer zlV zb8 yr
theorem op_256:Opens P 256 inT KT:=zdP In.mk_ (fun _=>rfl) yr zc3 (za2 zgQ zaj zlV rfl (ze5 zdW ty_3 op_3)) (fun _ _=>trivial)
theorem op_98:Opens P 98 (sl inT) (KAll 40 KT):=zer op_256 zrk yr
theorem op_258:Opens P 258 outT KT:=zdP Out.mk_ (fun _=>rfl) yr zh9 (za2 ze6 ty_3 op_3 rfl (ze5 zfO ty_3 op_3)) (fun _ _=>trivial)
theorem op_99:Opens P 99 (sl outT) (KAll 16 KT):=zer op_258 zuS yr
theorem op_101:Opens P 101 txT zit:=zdP Tx.mk_ (fun _=>rfl) yr zgb (za2 zdY zmW op_98 rfl (ze5 zeE znI op_99)) (fun _ h=>⟨h.1.1,h.2.1⟩)
theorem op_57:Opens P 57 (sl txT) (KAll 48 zit):=zer op_101 zlM yr
theorem op_59:Opens P 59 zL zge:=zdP Block.mk_ (fun _=>rfl) yr zem (za2 zbe zaM op_55 rfl (za2 zcQ za5 op_56 rfl (ze5 zdE zjF op_57))) (fun _ h=>⟨h.2.1.1,h.2.2⟩)
theorem op_46:Opens P 46 (sl zL) (KAll 232 zge):=zer op_59 zdz yr
theorem zpF:ownKnob Tryz.prog.godebug=none:=yr
theorem zou:laidOutB Tryz.prog=true:=yr
theorem zmY (As:List AV) (h:Shape [⟨(sl zL),(KAll 232 zge)⟩,⟨i64T,KT⟩,⟨i64T,KT⟩,⟨i64T,KT⟩,⟨i64T,KT⟩] As):Tells P 12 As (.val zm true):=by
  match As,h with
  | [A0,A1,A2,A3,A4],⟨⟨x0,h0,k0⟩,⟨x1,h1,k1⟩,⟨x2,h2,k2⟩,⟨x3,h3,k3⟩,⟨x4,h4,k4⟩,_⟩=>subst h0;subst h1;subst h2;subst h3;subst h4;exact zsB x0 x1 x2 x3 x4 (k0)
theorem zlZ (os:Os) (started:os.Started) (H:Type) (enc:TypeId×Value→H):ReturnsInHanded {} Tryz.checked os 12 .any (Rows.clientSureSpec.pre6 enc Tryz.prog Tryz.f12 Rows.clientSureRow.domain false) (Rows.clientSureSpec.post enc Tryz.prog Tryz.f12 false true false false) :=
  zqs (C:=Tryz.checked) (Gs:=[⟨(sl zL),(KAll 232 zge)⟩,⟨i64T,KT⟩,⟨i64T,KT⟩,⟨i64T,KT⟩,⟨i64T,KT⟩]) zpF started yr Tryz.func12
    (ChangeSpec.witness6 (enc:=enc) (C:=Tryz.checked) false ⟨#[],#[.slice none 0 0,.int .i64 0,.int .i64 0,.int .i64 0,.int .i64 0],[]⟩ 12 yr yr yr yr)
    rfl zou (by intro t ht;simp only[Tryz.params12,List.mem_cons,List.not_mem_nil,or_false] at ht;rcases ht with rfl|rfl|rfl|rfl|rfl<;>exact⟨by kernel_rfl,of_decide_eq_true yr⟩)
    (show zly P [46,3,3,3,3] [⟨(sl zL),(KAll 232 zge)⟩,⟨i64T,KT⟩,⟨i64T,KT⟩,⟨i64T,KT⟩,⟨i64T,KT⟩] from⟨op_46,znJ,op_3,ty_3,op_3,ty_3,op_3,ty_3,op_3,ty_3,trivial⟩) rfl Tryz.underlying4 (fun ds hl=>by
      match ds,hl with
      | [d0,d1,d2,d3,d4],_=>rfl) zmY
theorem zrH:Tryz.pinned.checked.prog.funcNamed Rows.clientSureRow.func=some 12:=yr
theorem zrQ:(Rows.clientSureRow.inPlace==Tryz.pinned.checked.prog.inPlace 12)=true:=yr
theorem zrP:(Rows.clientSureRow.unfollowed==Tryz.pinned.checked.prog.unfollowed 12)=true:=yr
theorem zrO:(Rows.clientSureRow.recurses==Tryz.pinned.checked.prog.recurses 12)=true:=yr
theorem zrN:(Rows.clientSureRow.named==Tryz.pinned.checked.prog.varsNamed 12)=true:=yr
theorem zrM:joinedFacts Tryz.pinned.checked.prog 12 Tryz.f12 Rows.clientSureSpec Rows.clientSureRow=true:=by
  unfold joinedFacts;rw[zrQ,zrP,zrO,zrN];kernel_rfl
theorem ClientSure_said:Rows.ClientSureSaid :=
  OpenClaim.holds_of_wide 12 Tryz.f12 rfl rfl rfl rfl rfl rfl rfl y6 rfl rfl rfl rfl rfl zrH Tryz.func12 zrM
    (of_decide_eq_true yr) yaS
    (fun os started H enc _=>zlZ os started H enc)
#print axioms ClientSure_said
end Go.Proofs.YtikaeepohlkjdaaGreat
