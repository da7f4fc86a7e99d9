/- StoreTells: for every input the law returns true, and each argument reads behind the call as it read before. No condition. -/
import Derived.Test.YtgoebfjaaklopaaGreatRows
import Derived.Test.YtgoebfjaaklopaaGreatK8
set_option maxRecDepth 100000
namespace Go.Proofs.YtgoebfjaaklopaaGreat
set_option linter.unusedVariables false
set_option linter.unusedSimpArgs false
open Go.Ab Go.RowKit
theorem op_3:Opens P 3 i64T KT:=op_int ui_3
theorem op_5:Opens P 5 u8T KT:=op_u8 ui_5
theorem op_27:Opens P 27 idT KT:=op_arr op_5 zc8 zT
theorem op_28:Opens P 28 u64T KT:=op_u64 zhX
theorem op_30:Opens P 30 zL KT:=op_arr op_28 zaO zV
theorem op_31:Opens P 31 u32T KT:=op_u32 ui_31
theorem op_33:Opens P 33 zbU KT:=zfS Head.mk_ (fun _=>rfl) yu za4 (zcS zdm ty_3 op_3 rfl (zcS zet zT op_27 rfl (zcS zes zT op_27 rfl (zcS zfH zT op_27 rfl (zcS zfG zT op_27 rfl (zcS zfF zV op_30 rfl (zcS zcf zaY op_31 rfl (zho zfE zaQ op_28)))))))) (fun _ _=>trivial)
theorem op_34:Opens P 34 (sl idT) (KAll 32 KT):=zhp op_27 zdR yu
theorem op_120:Opens P 120 inT KT:=zfS In.mk_ (fun _=>rfl) yu zbI (zcS zcH zT op_27 rfl (zho zbm ty_3 op_3)) (fun _ _=>trivial)
theorem op_109:Opens P 109 (sl inT) (KAll 40 KT):=zhp op_120 zd9 yu
theorem op_123:Opens P 123 outT KT:=zfS Out.mk_ (fun _=>rfl) yu zeU (zcS zb9 ty_3 op_3 rfl (zho zcV ty_3 op_3)) (fun _ _=>trivial)
theorem op_110:Opens P 110 (sl outT) (KAll 16 KT):=zhp op_123 zeX yu
theorem op_112:Opens P 112 txT KT:=zfS Tx.mk_ (fun _=>rfl) yu zdM (zcS zbB zdN op_109 rfl (zho zbd zdp op_110)) (fun _ _=>trivial)
theorem op_35:Opens P 35 (sl txT) (KAll 48 KT):=zhp op_112 zhI yu
theorem op_37:Opens P 37 zt KT:=zfS Block.mk_ (fun _=>rfl) yu zbg (zcS zah za4 op_33 rfl (zcS zcD zf8 op_34 rfl (zho zdl zhZ op_35))) (fun _ _=>trivial)
theorem op_22:Opens P 22 (sl zt) (KAll 232 KT):=zhp op_37 zbS yu
theorem op_23:Opens P 23 (sl i64T) (KAll 8 KT):=zhp op_3 zcJ yu
theorem op_25:Opens P 25 zar KT:=zfS Store.mk_ (fun _=>rfl) yu zbu (zcS zcM zh0 op_22 rfl (zho zeu zk5 op_23)) (fun _ _=>trivial)
theorem zmG:ownKnob Tryz.prog.godebug=none:=yu
theorem zlK:laidOutB Tryz.prog=true:=yu
theorem zkp (As:List AV) (h:Shape [⟨zar,KT⟩,⟨zar,KT⟩,⟨zt,KT⟩,⟨i64T,KT⟩,⟨u32T,KT⟩] As):Tells P 3 As (.val zu true):=by
  match As,h with
  | [A0,A1,A2,A3,A4],⟨⟨x0,h0,k0⟩,⟨x1,h1,k1⟩,⟨x2,h2,k2⟩,⟨x3,h3,k3⟩,⟨x4,h4,k4⟩,_⟩=>subst h0;subst h1;subst h2;subst h3;subst h4;exact zoY x0 x1 x2 x3 x4
theorem zjC (os:Os) (started:os.Started) (H:Type) (enc:TypeId×Value→H):ReturnsInHanded {} Tryz.checked os 3 .any (Rows.storeTellsSpec.pre6 enc Tryz.prog Tryz.f3 Rows.storeTellsRow.domain false) (Rows.storeTellsSpec.post enc Tryz.prog Tryz.f3 false true false false) :=
  law_handed (C:=Tryz.checked) (Gs:=[⟨zar,KT⟩,⟨zar,KT⟩,⟨zt,KT⟩,⟨i64T,KT⟩,⟨u32T,KT⟩]) zmG started yu Tryz.func3
    (ChangeSpec.witness6 (enc:=enc) (C:=Tryz.checked) false ⟨#[],#[.agg #[.slice none 0 0,.slice none 0 0],.agg #[.slice none 0 0,.slice none 0 0],.agg #[.int .i64 0,.int .u8 0,.int .u8 0,.int .u8 0,.int .u8 0,.int .u8 0,.int .u8 0,.int .u8 0,.int .u8 0,.int .u8 0,.int .u8 0,.int .u8 0,.int .u8 0,.int .u8 0,.int .u8 0,.int .u8 0,.int .u8 0,.int .u8 0,.int .u8 0,.int .u8 0,.int .u8 0,.int .u8 0,.int .u8 0,.int .u8 0,.int .u8 0,.int .u8 0,.int .u8 0,.int .u8 0,.int .u8 0,.int .u8 0,.int .u8 0,.int .u8 0,.int .u8 0,.int .u8 0,.int .u8 0,.int .u8 0,.int .u8 0,.int .u8 0,.int .u8 0,.int .u8 0,.int .u8 0,.int .u8 0,.int .u8 0,.int .u8 0,.int .u8 0,.int .u8 0,.int .u8 0,.int .u8 0,.int .u8 0,.int .u8 0,.int .u8 0,.int .u8 0,.int .u8 0,.int .u8 0,.int .u8 0,.int .u8 0,.int .u8 0,.int .u8 0,.int .u8 0,.int .u8 0,.int .u8 0,.int .u8 0,.int .u8 0,.int .u8 0,.int .u8 0,.int .u8 0,.int .u8 0,.int .u8 0,.int .u8 0,.int .u8 0,.int .u8 0,.int .u8 0,.int .u8 0,.int .u8 0,.int .u8 0,.int .u8 0,.int .u8 0,.int .u8 0,.int .u8 0,.int .u8 0,.int .u8 0,.int .u8 0,.int .u8 0,.int .u8 0,.int .u8 0,.int .u8 0,.int .u8 0,.int .u8 0,.int .u8 0,.int .u8 0,.int .u8 0,.int .u8 0,.int .u8 0,.int .u8 0,.int .u8 0,.int .u8 0,.int .u8 0,.int .u8 0,.int .u8 0,.int .u8 0,.int .u8 0,.int .u8 0,.int .u8 0,.int .u8 0,.int .u8 0,.int .u8 0,.int .u8 0,.int .u8 0,.int .u8 0,.int .u8 0,.int .u8 0,.int .u8 0,.int .u8 0,.int .u8 0,.int .u8 0,.int .u8 0,.int .u8 0,.int .u8 0,.int .u8 0,.int .u8 0,.int .u8 0,.int .u8 0,.int .u8 0,.int .u8 0,.int .u8 0,.int .u8 0,.int .u8 0,.int .u8 0,.int .u8 0,.int .u64 0,.int .u64 0,.int .u64 0,.int .u64 0,.int .u32 0,.int .u64 0,.slice none 0 0,.slice none 0 0],.int .i64 0,.int .u32 0],[]⟩ 12 yu yu yu yu)
    rfl zlK (by intro t ht;simp only[Tryz.params3,List.mem_cons,List.not_mem_nil,or_false] at ht;rcases ht with rfl|rfl|rfl|rfl|rfl<;>exact⟨by kernel_rfl,of_decide_eq_true yu⟩)
    (show zkW P [25,25,37,3,31] [⟨zar,KT⟩,⟨zar,KT⟩,⟨zt,KT⟩,⟨i64T,KT⟩,⟨u32T,KT⟩] from⟨op_25,zbu,op_25,zbu,op_37,zbg,op_3,ty_3,op_31,zaY,trivial⟩) rfl Tryz.underlying4 (fun ds hl=>by
      match ds,hl with
      | [d0,d1,d2,d3,d4],_=>rfl) zkp
theorem zoa:Tryz.pinned.checked.prog.funcNamed Rows.storeTellsRow.func=some 3:=yu
theorem zon:(Rows.storeTellsRow.inPlace==Tryz.pinned.checked.prog.inPlace 3)=true:=yu
theorem zom:(Rows.storeTellsRow.unfollowed==Tryz.pinned.checked.prog.unfollowed 3)=true:=yu
theorem zol:(Rows.storeTellsRow.recurses==Tryz.pinned.checked.prog.recurses 3)=true:=yu
theorem zok:(Rows.storeTellsRow.named==Tryz.pinned.checked.prog.varsNamed 3)=true:=yu
theorem zoj:joinedFacts Tryz.pinned.checked.prog 3 Tryz.f3 Rows.storeTellsSpec Rows.storeTellsRow=true:=by
  unfold joinedFacts;rw[zon,zom,zol,zok];kernel_rfl
theorem StoreTells_said:Rows.StoreTellsSaid :=
  OpenClaim.holds_of_wide 3 Tryz.f3 rfl rfl rfl rfl rfl rfl rfl yan rfl rfl rfl rfl rfl zoa Tryz.func3 zoj
    (of_decide_eq_true yu) (by unfold Func.isWrapper;first|(rw[ut yc];kernel_rfl)|(rw[ur yc];exact⟨rfl,rfl⟩))
    (fun os started H enc _=>zjC os started H enc)
#print axioms StoreTells_said
end Go.Proofs.YtgoebfjaaklopaaGreat
