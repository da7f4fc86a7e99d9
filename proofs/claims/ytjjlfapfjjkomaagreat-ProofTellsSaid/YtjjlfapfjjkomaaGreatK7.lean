/- Parts of the proof: the layer that reads Go values as data, and what the functions of the program tell. -/
import Derived.Test.YtjjlfapfjjkomaaGreatK6
set_option linter.unusedVariables false
set_option linter.unusedSimpArgs false
set_option maxRecDepth 20000
namespace Go.Proofs.YtjjlfapfjjkomaaGreat
open Go.Ab Go.RowKit
def zfZ (x:Trial):Prop:=zgG x.t∧x.b.t.length≤4000000000000
def zms (x:Trial):Int:=if 48≤x.b.h.height then 3 else 0
def zqP (x:Trial):Int:=if ¬zd6 x.b.h=zd6 x.want then 5 else 0
def zo7 (x:Trial):Int:=if ¬x.b.h.links=x.want.links∨¬x.b.l=zeu x.t then 6 else 0
def zqI (x:Trial):Int:=if ¬x.b.h=x.want then 7 else 0
def zqn (x:Trial):Int:=if ¬zbG x.b.h=true then 4 else 0
def zhD (x:Trial):Int:=(zK x.t.c x.b.t).2
def ztm (x:Trial):Trial:={ x with c:=(zK x.t.c x.b.t).1 }
def ziv (f:Option Nat) (x:Trial):Int:=if f=some 114 then zms x else if f=some 115 then zqP x else if f=some 116 then zo7 x else if f=some 117 then zqI x else if f=some 118 then zqn x else zhD x
def askX (f:Option Nat) (x:Trial):Trial:=if f=some 119 then ztm x else x
def ziq:List (Option Nat)→Trial→Int
  | [],_=>0
  | f::l,x=>if ziv f x=0 then ziq l (askX f x) else ziv f x
def ziX:List (Option Nat)→Trial→Trial
  | [],x=>x
  | f::l,x=>if ziv f x=0 then ziX l (askX f x) else askX f x
def Asks (f:Option Nat):Prop:=f=some 114∨f=some 115∨f=some 116∨f=some 117∨f=some 118∨f=some 119
theorem zcj {l:List (Option Nat)} {k:Nat} {f:Option Nat} {x:Trial} (h:l[k]?=some f) (h0:ziv f x=0):ziq (l.drop k) x=ziq (l.drop (k+1)) (askX f x)∧ziX (l.drop k) x=ziX (l.drop (k+1)) (askX f x):=by
  obtain⟨hk,rfl⟩:=ul.1 h;rw[List.drop_eq_getElem_cons hk,ziq,ziX,ut h0,ut h0];exact⟨rfl,rfl⟩
theorem za1 {l:List (Option Nat)} {k:Nat} {f:Option Nat} {x:Trial} (h:l[k]?=some f) (h0:¬ziv f x=0):ziq (l.drop k) x=ziv f x∧ziX (l.drop k) x=askX f x:=by
  obtain⟨hk,rfl⟩:=ul.1 h;rw[List.drop_eq_getElem_cons hk,ziq,ziX,ur h0,ur h0];exact⟨rfl,rfl⟩
theorem zov {l:List (Option Nat)} {k:Nat} {x:Trial} (h:l.length≤k):ziq (l.drop k) x=0∧ziX (l.drop k) x=x:=by
  rw[List.drop_of_length_le h];exact⟨rfl,rfl⟩
theorem zc3 {f:Option Nat} {x:Trial} (h:zfZ x):zfZ (askX f x):=by unfold askX;split<;>exact h
theorem ask_size (x:Trial):Tells P 114 [.rptr ze3 x] (.val i64T (zms x)):=by
 refine zc Tryz.func114 rfl rfl rfl (fun ext w hext=>?_);refine CQR ?_;refine qc8 ?_;refine A0 mR ?_;refine A0 (zfb rfl rfl) ?_;refine A0 (oFr zib zgv) ?_;refine A0 (oFr zaR zY) ?_;refine A0 (oFr zc9 zap) ?_;refine qaR ?_;refine qb9 ?_;refine Cf (p:=48≤x.b.h.height) (fun ht9=>?_) (fun ht9=>?_)
 ·
  refine qay ?_;exact zd rfl rfl (za rfl (by unfold zms;rw[ut (ht9)]))
 refine CSQR ?_;refine qac ?_;exact zd rfl rfl (za rfl (by unfold zms;rw[ur (ht9)]))
theorem ask_prev (x:Trial):Tells P 115 [.rptr ze3 x] (.val i64T (zqP x)):=by
 refine zc Tryz.func115 rfl rfl rfl (fun ext w hext=>?_);refine qc6 ?_;refine G0 (zh rfl rfl zaM) ?_;refine G0 (oCl (zqd _) rfl fn_172 ycg) ?_;refine G0 mR ?_;refine G0 (zfb rfl rfl) ?_;refine G0 (oFr zkT zfm) ?_;refine G0 (zh rfl rfl zaM) ?_;refine G0 (oCl (zqd _) rfl fn_172 ycg) ?_;refine G0 (zgg rfl rfl rfl (zpX)) ?_;refine GK.nil ?_;refine zq (p:=¬zd6 x.b.h=zd6 x.want) rfl yw (fun ht14=>?_) (fun ht14=>?_)
 ·
  refine qay ?_;exact zd rfl rfl (za rfl (by unfold zqP;rw[ut (ht14)]))
 refine CSQR ?_;refine qac ?_;exact zd rfl rfl (za rfl (by unfold zqP;rw[ur (ht14)]))
theorem ask_link (x:Trial) (hx:zfZ x):Tells P 116 [.rptr ze3 x] (.val i64T (zo7 x)):=by
 refine zc Tryz.func116 rfl rfl rfl (fun ext w hext=>?_);refine qc6 ?_;refine G0 (oFr zex zbg) ?_;refine G0 (zh rfl rfl zab) ?_;refine G0 mR ?_;refine G0 (zfb rfl rfl) ?_;refine G0 (oFr zkT zfm) ?_;refine G0 (oFr zex zbg) ?_;refine G0 (zh rfl rfl zab) ?_;refine G0 (zgg rfl rfl rfl (zjH)) ?_;refine zbW (d:=14) (p:=¬x.b.h.links=x.want.links) rfl yw (fun g14=>?_) (fun g14=>?_)
 ·
  refine G0 mV ?_;refine qal ?_;refine qal ?_;refine qcg ?_;refine Ct ?_;refine qay ?_;exact zd rfl rfl (za rfl (by unfold zo7;rw[ut (.inl g14)]))
 refine G0 mV ?_;refine G1 mR ?_;refine G1 (zfb rfl rfl) ?_;refine G1 (oFr zib zgv) ?_;refine G1 (oFr zcO zbv) ?_;refine G1 (zh rfl rfl zcG) ?_;refine G1 mR ?_;refine G1 (zfb rfl rfl) ?_;refine G1 (oFr zm0 zlb) ?_;refine G1 (zh rfl rfl zbt) ?_;refine G1 (oCl (zC (zn3 x.t)) rfl fn_171 ycg) ?_;refine G1 (oCl (zup _ _) rfl fn_53 yci) ?_;refine G1 oN ?_;refine qcg ?_;refine zq (p:=¬x.b.l=zeu x.t) rfl yw (fun ht28=>?_) (fun ht28=>?_)
 ·
  refine qay ?_;exact zd rfl rfl (za rfl (by unfold zo7;rw[ut (.inr ht28)]))
 refine CSQR ?_;refine qac ?_;exact zd rfl rfl (za rfl (by unfold zo7;rw[ur (fun h=>h.elim g14 ht28)]))
theorem ask_root (x:Trial):Tells P 117 [.rptr ze3 x] (.val i64T (zqI x)):=by
 refine zc Tryz.func117 rfl rfl rfl (fun ext w hext=>?_);refine qc6 ?_;refine G0 (zh rfl rfl zaM) ?_;refine G0 mR ?_;refine G0 (zfb rfl rfl) ?_;refine G0 (oFr zkT zfm) ?_;refine G0 (zh rfl rfl zaM) ?_;refine G0 (zgg rfl rfl rfl (zpX)) ?_;refine GK.nil ?_;refine zq (p:=¬x.b.h=x.want) rfl yw (fun ht12=>?_) (fun ht12=>?_)
 ·
  refine qay ?_;exact zd rfl rfl (za rfl (by unfold zqI;rw[ut (ht12)]))
 refine CSQR ?_;refine qac ?_;exact zd rfl rfl (za rfl (by unfold zqI;rw[ur (ht12)]))
theorem ask_work (x:Trial):Tells P 118 [.rptr ze3 x] (.val i64T (zqn x)):=by
 refine zc Tryz.func118 rfl rfl rfl (fun ext w hext=>?_);refine CQR ?_;refine qc8 ?_;refine A0 mR ?_;refine A0 (zfb rfl rfl) ?_;refine A0 (oFr zib zgv) ?_;refine A0 (oFr zaR zY) ?_;refine A0 (zh rfl rfl zaM) ?_;refine A0 (oCl (zpQ _) rfl fn_125 ycg) ?_;refine qaJ ?_;refine zq (p:=¬zbG x.b.h=true) rfl yw (fun ht9=>?_) (fun ht9=>?_)
 ·
  refine qay ?_;exact zd rfl rfl (za rfl (by unfold zqn;rw[ut (ht9)]))
 refine CSQR ?_;refine qac ?_;exact zd rfl rfl (za rfl (by unfold zqn;rw[ur (ht9)]))
theorem ask_coins (x:Trial) (hx:zfZ x):zfl P 119 (.box 173 ze3 x) [.ptr 0 0] (.val i64T (zhD x)) (.box 173 ze3 (ztm x)):=by
 refine zgl trivial Tryz.func119 rfl rfl ⟨Nat.one_pos,trivial⟩ (fun ext pg w hext hgr=>?_);refine CQR ?_;refine qcU ?_;refine qdb ?_;refine G0 (oFp zm0) ?_;refine G0 (oFp zlN) ?_;refine G0 (oLb (zlb.comp zlW) zki) ?_;refine qdb ?_;refine G0 (oFp zib) ?_;refine G0 (oFp zgn) ?_;refine G0 (oLb (zgv.comp zdU) znn) ?_;refine G0 (oCl (zbo (apply_ok x.t.c x.b.t (by have:=hx.1.2.2;omega))) rfl fn_173 ye) ?_;refine qcx ?_;refine CQR ?_;refine A0 mP ?_;refine qau ?_;refine xc ?_;refine A0 (oFp zwm) ?_;refine zg rfl rfl rfl rfl rfl ztL zki rfl ?_;refine qcZ ?_;refine qac ?_;exact zd1 rfl rfl rfl rfl rfl (zco rfl rfl) (zg2 (zco (x:=ztm x) rfl rfl) rfl rfl)
theorem zwk (x0:Trial) (l:List (Option Nat)) (hx0:zfZ x0) (hl:∀f∈l,Asks f):zfl P 120 (.box 173 ze3 x0) [.ptr 0 0,.val (bsl fnoT) l] (.val i64T (ziq l x0)) (.box 173 ze3 (ziX l x0)):=by
 refine zgl trivial Tryz.func120 rfl rfl ⟨Nat.one_pos,⟨trivial,trivial⟩⟩ (fun ext pg w hext hgr=>?_);refine ze (d:=1) rfl zi (fun hsl1=>?_);refine CQR ?_;refine qaj ?_;refine A0 (zat rfl rfl isl_177) ?_;refine qaP ?_;refine Lp (ι:=Nat×Trial) 1 (fun (i:Nat×Trial)=>match i with|(k,x)=>((((Fr.none).set 0 (.ptr 0 0)).set 8 (.val (bsl fnoT) l)).set 9 (.val i64T (l.length:Int))).set 10 (.val i64T (k:Int))) (fun (i:Nat×Trial)=>match i with|(k,x)=>(Hp.none).set 0 (.box 173 ze3 x)) (fun (i:Nat×Trial)=>match i with|(k,x)=>k≤l.length∧zfZ x∧ziq l x0=ziq (l.drop k) x∧ziX l x0=ziX (l.drop k) x) (fun (i:Nat×Trial)=>match i with|(k,x)=>l.length-k) ((0,x0)) (⟨uf _,hx0,rfl,rfl⟩) ?_;intro⟨k,x⟩ hinv;dsimp only at hinv;refine qar ?_;refine Cf (p:=k<l.length) (fun ht11=>?_) (fun ht11=>?_)
 ·
  obtain⟨f,hf⟩:∃f,l[k]?=some f:=ybM;have hask:=hl f (ud hf);rcases hask with he|he|he|he|he|he
  ·
   refine qaN ?_;refine zj (d:=14) rfl he ?_;refine zjv (d:=14) (f:=114) rfl ?_;refine A0 mP ?_;refine A0 (zj2 (As:=[_]) (Cs:=[]) (ask_size x) rfl rfl fn_114 yck yJ trivial rfl) ?_;refine qcf ?_;refine qaO ?_;refine zq (p:=¬ziv f x=0) rfl ybc (fun ht18=>?_) (fun ht18=>?_)
   ·
    refine CQR ?_;refine A0 mX ?_;refine qbg ?_;refine xM ?_;exact zd1 rfl rfl rfl rfl rfl (zco rfl (hinv.2.2.2.trans (za1 hf ht18).2).symm) (zg2 (zco rfl (hinv.2.2.2.trans (za1 hf ht18).2).symm) rfl yaz)
   refine qcp ?_;refine xM ?_;exact Nx ((k+1,askX f x)) (⟨by omega,zc3 hinv.2.1,hinv.2.2.1.trans (zcj hf (ua ht18)).1,hinv.2.2.2.trans (zcj hf (ua ht18)).2⟩) yao
  ·
   refine qaN ?_;refine zj (d:=14) rfl he ?_;refine zjv (d:=14) (f:=115) rfl ?_;refine A0 mP ?_;refine A0 (zj2 (As:=[_]) (Cs:=[]) (ask_prev x) rfl rfl fn_115 yck yJ trivial rfl) ?_;refine qcf ?_;refine qaO ?_;refine zq (p:=¬ziv f x=0) rfl ybc (fun ht18=>?_) (fun ht18=>?_)
   ·
    refine CQR ?_;refine A0 mX ?_;refine qbg ?_;refine xM ?_;exact zd1 rfl rfl rfl rfl rfl (zco rfl (hinv.2.2.2.trans (za1 hf ht18).2).symm) (zg2 (zco rfl (hinv.2.2.2.trans (za1 hf ht18).2).symm) rfl yaz)
   refine qcp ?_;refine xM ?_;exact Nx ((k+1,askX f x)) (⟨by omega,zc3 hinv.2.1,hinv.2.2.1.trans (zcj hf (ua ht18)).1,hinv.2.2.2.trans (zcj hf (ua ht18)).2⟩) yao
  ·
   refine qaN ?_;refine zj (d:=14) rfl he ?_;refine zjv (d:=14) (f:=116) rfl ?_;refine A0 mP ?_;refine A0 (zj2 (As:=[_]) (Cs:=[]) (ask_link x hinv.2.1) rfl rfl fn_116 yck yJ trivial rfl) ?_;refine qcf ?_;refine qaO ?_;refine zq (p:=¬ziv f x=0) rfl ybc (fun ht18=>?_) (fun ht18=>?_)
   ·
    refine CQR ?_;refine A0 mX ?_;refine qbg ?_;refine xM ?_;exact zd1 rfl rfl rfl rfl rfl (zco rfl (hinv.2.2.2.trans (za1 hf ht18).2).symm) (zg2 (zco rfl (hinv.2.2.2.trans (za1 hf ht18).2).symm) rfl yaz)
   refine qcp ?_;refine xM ?_;exact Nx ((k+1,askX f x)) (⟨by omega,zc3 hinv.2.1,hinv.2.2.1.trans (zcj hf (ua ht18)).1,hinv.2.2.2.trans (zcj hf (ua ht18)).2⟩) yao
  ·
   refine qaN ?_;refine zj (d:=14) rfl he ?_;refine zjv (d:=14) (f:=117) rfl ?_;refine A0 mP ?_;refine A0 (zj2 (As:=[_]) (Cs:=[]) (ask_root x) rfl rfl fn_117 yck yJ trivial rfl) ?_;refine qcf ?_;refine qaO ?_;refine zq (p:=¬ziv f x=0) rfl ybc (fun ht18=>?_) (fun ht18=>?_)
   ·
    refine CQR ?_;refine A0 mX ?_;refine qbg ?_;refine xM ?_;exact zd1 rfl rfl rfl rfl rfl (zco rfl (hinv.2.2.2.trans (za1 hf ht18).2).symm) (zg2 (zco rfl (hinv.2.2.2.trans (za1 hf ht18).2).symm) rfl yaz)
   refine qcp ?_;refine xM ?_;exact Nx ((k+1,askX f x)) (⟨by omega,zc3 hinv.2.1,hinv.2.2.1.trans (zcj hf (ua ht18)).1,hinv.2.2.2.trans (zcj hf (ua ht18)).2⟩) yao
  ·
   refine qaN ?_;refine zj (d:=14) rfl he ?_;refine zjv (d:=14) (f:=118) rfl ?_;refine A0 mP ?_;refine A0 (zj2 (As:=[_]) (Cs:=[]) (ask_work x) rfl rfl fn_118 yck yJ trivial rfl) ?_;refine qcf ?_;refine qaO ?_;refine zq (p:=¬ziv f x=0) rfl ybc (fun ht18=>?_) (fun ht18=>?_)
   ·
    refine CQR ?_;refine A0 mX ?_;refine qbg ?_;refine xM ?_;exact zd1 rfl rfl rfl rfl rfl (zco rfl (hinv.2.2.2.trans (za1 hf ht18).2).symm) (zg2 (zco rfl (hinv.2.2.2.trans (za1 hf ht18).2).symm) rfl yaz)
   refine qcp ?_;refine xM ?_;exact Nx ((k+1,askX f x)) (⟨by omega,zc3 hinv.2.1,hinv.2.2.1.trans (zcj hf (ua ht18)).1,hinv.2.2.2.trans (zcj hf (ua ht18)).2⟩) yao
  refine qaN ?_;refine zj (d:=14) rfl he ?_;refine zjv (d:=14) (f:=119) rfl ?_;refine A0 mP ?_;refine aw_calluv (ask_coins x hinv.2.1) rfl rfl fn_119 rfl trivial trivial rfl ⟨yk,trivial⟩ rfl rfl rfl ?_;refine qcf ?_;refine qaO ?_;refine zq (p:=¬ziv f x=0) rfl ybc (fun ht18=>?_) (fun ht18=>?_)
  ·
   refine CQR ?_;refine A0 mX ?_;refine qbg ?_;refine xM ?_;exact zd1 rfl rfl rfl rfl rfl (zco rfl (hinv.2.2.2.trans (za1 hf ht18).2).symm) (zg2 (zco rfl (hinv.2.2.2.trans (za1 hf ht18).2).symm) rfl yaz)
  refine qcp ?_;refine xM ?_;exact Nx ((k+1,askX f x)) (⟨by omega,zc3 hinv.2.1,hinv.2.2.1.trans (zcj hf (ua ht18)).1,hinv.2.2.2.trans (zcj hf (ua ht18)).2⟩) yao
 refine qcT ?_;exact zd1 rfl rfl rfl rfl rfl (zco rfl (hinv.2.2.2.trans (zov ya).2).symm) (zg2 (zco rfl (hinv.2.2.2.trans (zov ya).2).symm) rfl (hinv.2.2.1.trans (zov ya).1).symm)
set_option maxRecDepth 20000
def zbY (t:Tip) (b:Block):Int :=
  if 48≤b.h.height then 3 else if ¬zd6 b.h=zd6 (zbw t b.t b.h.nonce) then 5 else
  if ¬b.h.links=(zbw t b.t b.h.nonce).links∨¬b.l=zeu t then 6 else if ¬b.h=zbw t b.t b.h.nonce then 7 else
  if ¬zbG b.h=true then 4 else (zK t.c b.t).2
def zht (t:Tip) (b:Block):Tip:=if zbY t b=0 then ⟨b,zay t.p (zeM b.h),(zK t.c b.t).1⟩ else t
def zfD (t:Tip) (l:List Tx) (nonce:UInt64) (tries:Int):Int :=
  if 48≤(zbw t l nonce).height then 3 else if ¬(zK t.c l).2=0 then (zK t.c l).2 else if (ziL (zbw t l nonce) tries).isSome=true then 0 else 4
def zsP (t:Tip) (l:List Tx) (nonce:UInt64) (tries:Int):Block :=
  if zfD t l nonce tries=0 then ⟨(ziL (zbw t l nonce) tries).getD (zbw t l nonce),zeu t,l⟩ else zrV
theorem ask_two {x:Trial}:ziq [some 114,some 119] x=if 48≤x.b.h.height then 3 else (zK x.t.c x.b.t).2:=by
  show(if zms x=0 then (if zhD x=0 then 0 else zhD x) else zms x)=_;unfold zms zhD;by_cases h:48≤x.b.h.height
  · rw[ut h,ut h,ur yn]
  rw[ur h,ur h,ut rfl];split<;>simp_all
theorem zkM {p:Prop} [Decidable p] {e r:Int} (he:e≠0):(if (if p then e else 0)=0 then r else (if p then e else 0))=if p then e else r:=by
  by_cases h:p
  · rw[ut h,ut h,ur he]
  rw[ur h,ur h,ut rfl]
theorem ask_all {t:Tip} {b:Block} {c:List Coin}:ziq [some 114,some 115,some 116,some 117,some 118,some 119] ⟨t,b,zbw t b.t b.h.nonce,c⟩=zbY t b:=by
  obtain⟨x,hx⟩:∃x:Trial,x=⟨t,b,zbw t b.t b.h.nonce,c⟩:=⟨_,rfl⟩;have e:zbY t b=zbY x.t x.b:=by rw[hx]
  have hw:x.want=zbw x.t x.b.t x.b.h.nonce:=by rw[hx]
  rw[e,←hx];show(if zms x=0 then (if zqP x=0 then (if zo7 x=0 then (if zqI x=0 then (if zqn x=0 then (if zhD x=0 then 0 else zhD x) else zqn x) else zqI x) else zo7 x) else zqP x) else zms x)=_;have hc:(if zhD x=0 then 0 else zhD x)=zhD x:=by split<;>simp_all
  rw[hc];unfold zms zqP zo7 zqI zqn zhD zbY;rw[zkM yn,zkM yn,zkM yn,zkM yn,zkM yn,hw]
theorem ask_allX {t:Tip} {b:Block} {c:List Coin} (h:zbY t b=0):(ziX [some 114,some 115,some 116,some 117,some 118,some 119] ⟨t,b,zbw t b.t b.h.nonce,c⟩).c=(zK t.c b.t).1:=by
  obtain⟨x,hx⟩:∃x:Trial,x=⟨t,b,zbw t b.t b.h.nonce,c⟩:=⟨_,rfl⟩;have hw:x.want=zbw x.t x.b.t x.b.h.nonce:=by rw[hx]
  have h:zbY x.t x.b=0:=by rw[hx];exact h
  have e:(zK t.c b.t).1=(zK x.t.c x.b.t).1:=by rw[hx]
  rw[e,←hx];show(if zms x=0 then (if zqP x=0 then (if zo7 x=0 then (if zqI x=0 then (if zqn x=0 then (if zhD x=0 then ztm x else ztm x) else x) else x) else x) else x) else x).c=_;unfold zbY at h;rw[←hw] at h;by_cases h1:48≤x.b.h.height
  · rw[ut h1] at h;exact absurd h yn
  rw[ur h1] at h;by_cases h2:¬zd6 x.b.h=zd6 x.want
  · rw[ut h2] at h;exact absurd h yn
  rw[ur h2] at h;by_cases h3:¬x.b.h.links=x.want.links∨¬x.b.l=zeu x.t
  · rw[ut h3] at h;exact absurd h yn
  rw[ur h3] at h;by_cases h4:¬x.b.h=x.want
  · rw[ut h4] at h;exact absurd h yn
  rw[ur h4] at h;by_cases h5:¬zbG x.b.h=true
  · rw[ut h5] at h;exact absurd h yn
  rw[ur h5] at h;unfold zms zqP zo7 zqI zqn zhD;rw[ur h1,ur h2,ur h3,ur h4,ur h5,ut rfl,ut rfl,ut rfl,ut rfl,ut rfl,ut h];rfl
theorem asks_all:∀f∈([some 114,some 115,some 116,some 117,some 118,some 119]:List (Option Nat)),Asks f:=by intro f hf;simp at hf;unfold Asks;exact hf
theorem asks_two:∀f∈([some 114,some 119]:List (Option Nat)),Asks f:=by intro f hf;simp at hf;unfold Asks;rcases hf with h|h<;>simp[h]
theorem mineBE_err {t:Tip} {l:List Tx} {nonce:UInt64} {tries:Int} (h:¬(if 48≤(zbw t l nonce).height then 3 else (zK t.c l).2)=0):zfD t l nonce tries=(if 48≤(zbw t l nonce).height then 3 else (zK t.c l).2):=by
  unfold zfD
  split
  · rfl
  rename_i h1;rw[ur h1] at h;rw[ut h]
theorem zua {t:Tip} {l:List Tx} {nonce:UInt64} {tries:Int} (h:(if 48≤(zbw t l nonce).height then 3 else (zK t.c l).2)=0) (h2:¬(ziL (zbw t l nonce) tries).isSome=true):zfD t l nonce tries=4:=by
  unfold zfD
  split
  · rename_i h1;rw[ut h1] at h;exact absurd h yn
  rename_i h1;rw[ur h1] at h;simp only[h,h2,not_true_eq_false,if_false]
theorem mineBE_ok {t:Tip} {l:List Tx} {nonce:UInt64} {tries:Int} (h:(if 48≤(zbw t l nonce).height then 3 else (zK t.c l).2)=0) (h2:(ziL (zbw t l nonce) tries).isSome=true):zfD t l nonce tries=0:=by
  unfold zfD
  split
  · rename_i h1;rw[ut h1] at h;exact absurd h yn
  rename_i h1;rw[ur h1] at h;simp only[h,h2,not_true_eq_false,if_false]
theorem push_ok (t:Tip) (b:Block) (ht:zgG t) (hb:zgI b):Tells P 64 [.val tipT t,.val zU b] (.tup2 (.val tipT (zht t b)) (.val i64T (zbY t b))):=by
 have hbt:=hb.2.1;have htp:=ht.2.1;refine zc Tryz.func64 rfl rfl rfl (fun ext w hext=>?_);refine qa3 ?_;refine qcn ?_;refine qaY ?_;refine zH [some 1,some 1,some 1,some 1,some 1,some 1,some 1,some 1,some 1,some 1,none,some 1] mixed yd ?_;refine X0 (oLs rfl rfl rfl zbt) ?_;refine X0 (oLs rfl rfl rfl zdJ) ?_;refine X0 (oLs rfl rfl rfl zbt) ?_;refine X0 (oFp zgn) ?_;refine X0 (oLb zdU znn) ?_;refine X0 (oFp zaR) ?_;refine X0 (oFp zfs) ?_;refine X0 (oLb (zY.comp zbK) za9) ?_;refine X0 (oCl (zvE t b.t b.h.nonce ya ya) rfl fn_113 yz) ?_;refine X0 (zB rfl ze_173 bd_173 (.cons zm0 zlb zbt rfl (.cons zib zgv zdJ rfl (.cons zkT zfm zaM rfl .nil))) rfl) ?_;refine XK.e (fun fr' hfr kk H=>by exact zjJ rfl rfl rfl rfl ((hfr 18 yd).trans rfl) (zM H)) ?_;refine X0 aP ?_;refine XK.nil' ?_;refine CQR ?_;refine A0 (g_buildF (xs:=[_,_,_,_,_,_]) rfl ar_175 ze_175 ⟨rfl,⟨_,rfl,rfl⟩,rfl,⟨_,rfl,rfl⟩,rfl,⟨_,rfl,rfl⟩,rfl,⟨_,rfl,rfl⟩,rfl,⟨_,rfl,rfl⟩,rfl,⟨_,rfl,rfl⟩,trivial⟩ rfl) ?_;refine z8 ze_175 rfl rfl rfl rfl ?_;refine zg rfl rfl rfl rfl rfl (Lens.self _) ty_175 rfl ?_;refine CNQ ?_;refine CQ ?_;refine zeF (d:=7) rfl rfl (Lens.self _) ?_;refine CR ?_;refine A0 mP ?_;refine A0 (zol rfl rfl ar_175 rfl rfl) ?_;refine zij (zwk ⟨t,b,zbw t b.t b.h.nonce,[]⟩ [some 114,some 115,some 116,some 117,some 118,some 119] ⟨ht,by show b.t.length≤4000000000000;omega⟩ asks_all) rfl fn_120 rfl trivial trivial rfl ycl rfl rfl rfl ?_;refine zj (d:=23) rfl ask_all ?_;refine qaA ?_;refine qaO ?_;refine zq (p:=¬zbY t b=0) rfl yN (fun ht25=>?_) (fun ht25=>?_)
 ·
  refine CQR ?_;refine xf ?_;refine A0 (oCl (own_ok t ht) rfl fn_121 yc) ?_;refine qau ?_;refine qat ?_;refine qac ?_;exact zn rfl rfl (zt rfl rfl zbt (by unfold zht;rw[ur ht25])) (zS (za rfl (rfl)))
 refine CS ?_;refine CQ ?_;refine zH [some 1,some 1,some 1,some 1,some 1,some 1,some 1,some 1,some 1,some 1,some 1,some 1,some 1,none,some 1] mixed yd ?_;refine X0 (oLs rfl rfl rfl zdJ) ?_;refine X0 (oCl (ztk b hb) rfl fn_122 yc) ?_;refine X0 (oFp zg6) ?_;refine X0 (oLb zhd zmq) ?_;refine X0 (oFp zaR) ?_;refine X0 (oLb zY zaM) ?_;refine X0 (oCl (zvL _) rfl fn_110 yc) ?_;refine X0 (oCl (zC (zmd t.p (zeM b.h) ya)) rfl fn_109 ye) ?_;refine X0 mP ?_;refine xg ?_;refine X0 (oFp zwm) ?_;refine X0 (oLb ztL zki) ?_;refine X0 (zB rfl zjA zk4 (.cons zfr zcu zdJ rfl (.cons zg6 zhd zmq rfl (.cons zlN zlW zki rfl .nil))) rfl) ?_;refine XK.e (x:=.idk) (fun fr' hfr kk H=>by exact zg rfl rfl rfl ((hfr 4 yd).trans rfl) rfl (Lens.self _) zbt ((hfr 41 yd).trans rfl) (zM H)) ?_;refine X0 aV ?_;refine XK.nil' ?_;exact zn rfl rfl (zt rfl rfl zbt (by unfold zht;rw[ut (ua ht25),ask_allX (ua ht25)])) (zS (za rfl ((ua ht25).symm)))
theorem mineB_ok (t:Tip) (l:List Tx) (nonce:UInt64) (tries:Int) (ht:zgG t) (hl:zsh l):Tells P 127 [.val tipT t,.val (sl txT) l,.val u64T nonce,.val i64T tries] (.tup2 (.val zU (zsP t l nonce tries)) (.val i64T (zfD t l nonce tries))):=by
 have hbt:=hl.1;have htp:=ht.2.1;refine zc Tryz.func127 rfl rfl rfl (fun ext w hext=>?_);refine ze (d:=1) rfl zi (fun hsl1=>?_);refine ze (d:=3) rfl zu (fun hin3=>?_);refine qae ?_;refine z8 znc rfl rfl rfl rfl ?_;refine qah ?_;refine xf ?_;refine qad ?_;refine A0 (oCl (zvE t l nonce ya ya) rfl fn_113 yz) ?_;refine qcm ?_;refine qaH ?_;refine CNQR ?_;refine xf ?_;refine qcq ?_;refine qau ?_;refine A0 (zB rfl znc bd_58 (.cons zaR zY zaM rfl (.cons zgn zdU znn rfl .nil)) rfl) ?_;refine qcq ?_;refine A0 (zB rfl ze_173 bd_173 (.cons zm0 zlb zbt rfl (.cons zib zgv zdJ rfl (.cons zkT zfm zaM rfl .nil))) rfl) ?_;refine xb ?_;refine A0 aP ?_;refine CNQQR ?_;refine A0 mP ?_;refine A0 (g_bslF (xs:=[_,_]) rfl sl_177 row_177 ⟨rfl,⟨_,rfl,rfl⟩,rfl,⟨_,rfl,rfl⟩,trivial⟩ rfl rfl) ?_;refine zij (zwk ⟨t,⟨zbw t l nonce,[],l⟩,zbw t l nonce,[]⟩ [some 114,some 119] ⟨ht,by show l.length≤4000000000000;omega⟩ asks_two) rfl fn_120 rfl trivial trivial rfl ycl rfl rfl rfl ?_;refine zj (d:=27) rfl ask_two ?_;refine qaA ?_;refine qaO ?_;refine zq (p:=¬(if 48≤(zbw t l nonce).height then 3 else (zK t.c l).2)=0) rfl yN (fun ht29=>?_) (fun ht29=>?_)
 ·
  have hE:zfD t l nonce tries=(if 48≤(zbw t l nonce).height then 3 else (zK t.c l).2):=mineBE_err ht29;refine CQR ?_;refine A0 (zB rfl znc bd_58 .nil rfl) ?_;refine qau ?_;refine qbM ?_;refine qac ?_;exact zn rfl rfl (zt rfl rfl zdJ (by unfold zsP;rw[hE,ur ht29])) (zS (za rfl (hE.symm)))
 refine CSQR ?_;refine qcq ?_;refine qau ?_;refine A0 (oCl (mine_ok (zbw t l nonce) tries) rfl fn_183 ye) ?_;refine qa6 ?_;refine qaH ?_;refine qaj ?_;refine qaJ ?_;refine zq (p:=¬(ziL (zbw t l nonce) tries).isSome=true) rfl (by cases (ziL (zbw t l nonce) tries).isSome<;>rfl) (fun ht39=>?_) (fun ht39=>?_)
 ·
  have hE:zfD t l nonce tries=4:=zua (ua ht29) ht39;refine CQR ?_;refine A0 (zB rfl znc bd_58 .nil rfl) ?_;refine qbM ?_;refine qac ?_;exact zn rfl rfl (zt rfl rfl zdJ (by unfold zsP;rw[hE];rfl)) (zS (za rfl (hE.symm)))
 have hE:zfD t l nonce tries=0:=mineBE_ok (ua ht29) (ua ht39);refine CS ?_;refine CQ ?_;refine xj ?_;refine xE ?_;refine X0 (oLs rfl rfl rfl zbt) ?_;refine X0 (oCl (zC (zn3 t)) rfl fn_171 yc) ?_;refine X0 mV ?_;refine X0 (oCl (zC (txs_ok l hl)) rfl fn_175 yc) ?_;refine X0 (zB rfl znc bd_58 (.cons zaR zY zaM rfl (.cons zcO zbv zcG rfl (.cons zgn zdU znn rfl .nil))) rfl) ?_;refine XK.e (x:=.idk) (fun fr' hfr kk H=>by exact zg rfl rfl rfl ((hfr 8 yd).trans rfl) rfl (Lens.self _) zdJ ((hfr 46 yd).trans rfl) (zM H)) ?_;refine X0 aV ?_;refine XK.nil' ?_;exact zn rfl rfl (zt rfl rfl zdJ (by unfold zsP;rw[hE,ut rfl])) (zS (za rfl (hE.symm)))
theorem rpush_prev {h w:Head}:zd6 h=zd6 w↔h.height=w.height∧h.prev=w.prev∧h.bits=w.bits:=by
  unfold zd6
  constructor
  · intro e
    injection e with e1 e2 e3 e4 e5 e6 e7 e8;exact⟨e1,e2,e7⟩
  rintro ⟨e1,e2,e3⟩
  rw[e1,e2,e3]
theorem rpush_root {t:Tip} {b:Block} (h1:b.h.height=(zbw t b.t b.h.nonce).height∧b.h.prev=(zbw t b.t b.h.nonce).prev∧b.h.bits=(zbw t b.t b.h.nonce).bits) (h2:b.h.links=(zbw t b.t b.h.nonce).links) :
    b.h=zbw t b.t b.h.nonce↔b.h.txs=(zbw t b.t b.h.nonce).txs∧b.h.past=(zbw t b.t b.h.nonce).past∧b.h.work=(zbw t b.t b.h.nonce).work:=by
  obtain⟨w,hw⟩:∃w,w=zbw t b.t b.h.nonce:=⟨_,rfl⟩;have hn:b.h.nonce=w.nonce:=by rw[hw];rfl
  rw[←hw] at h1 h2 ⊢;obtain⟨e1,e2,e3⟩:=h1
  constructor
  · intro e;rw[e];exact⟨rfl,rfl,rfl⟩
  rintro ⟨f1,f2,f3⟩
  generalize b.h=x at *;cases x;cases w;simp only at *;subst e1 e2 e3 h2 f1 f2 f3 hn;rfl
theorem zbX {t:Tip} {b:Block} {w:Head} (hw:w=zbw t b.t b.h.nonce):zbY t b =
    if 48≤b.h.height then 3 else if ¬(b.h.height=w.height∧b.h.prev=w.prev∧b.h.bits=w.bits) then 5 else
    if ¬b.h.links=w.links∨¬b.l=zeu t then 6 else if ¬(b.h.txs=w.txs∧b.h.past=w.past∧b.h.work=w.work) then 7 else
    if ¬zbG b.h=true then 4 else (zK t.c b.t).2:=by
  subst hw;unfold zbY;simp only[rpush_prev];by_cases h1:48≤b.h.height
  · rw[ut h1,ut h1]
  rw[ur h1,ur h1];by_cases h2:b.h.height=(zbw t b.t b.h.nonce).height∧b.h.prev=(zbw t b.t b.h.nonce).prev∧b.h.bits=(zbw t b.t b.h.nonce).bits
  · have h2':¬¬(b.h.height=(zbw t b.t b.h.nonce).height∧b.h.prev=(zbw t b.t b.h.nonce).prev∧b.h.bits=(zbw t b.t b.h.nonce).bits):=fun h=>h h2
    rw[ur h2',ur h2'];by_cases h3:¬b.h.links=(zbw t b.t b.h.nonce).links∨¬b.l=zeu t
    · rw[ut h3,ut h3]
    rw[ur h3,ur h3];have h3':b.h.links=(zbw t b.t b.h.nonce).links:=ua fun h=>h3 (.inl h)
    simp only[rpush_root h2 h3']
  rw[ut h2,ut h2]
theorem zdl {t:Tip} {b:Block} {e:Int} (h:zbY t b=e) (he:e≠0):t=zht t b:=by unfold zht;rw[h,ur he]
theorem rpush_ok0 {t:Tip} {b:Block} (h:zbY t b=0):(⟨b,zay t.p (zeM b.h),(zK t.c b.t).1⟩:Tip)=zht t b:=by unfold zht;rw[ut h]
theorem zsz (h:Head):Tells P 188 [.val zbx h] (.val zaC (zeM h)):=by
 refine zc Tryz.func188 rfl rfl rfl (fun ext w hext=>?_);refine qae ?_;refine qce ?_;refine CNQ ?_;refine zH [some 1,some 1,some 1,some 1,some 1,none] mixed yd ?_;refine xE ?_;refine X0 (oCl (zjl h) rfl zwf yc) ?_;refine xE ?_;refine X0 (oCl (zsB h) rfl fn_248 yc) ?_;refine X0 (oCl (rmleaf_ok (zdo h) (zdx h)) rfl fn_247 ye) ?_;refine XK.e (x:=.idk) (fun fr' hfr kk H=>by exact zg rfl rfl rfl ((hfr 2 yd).trans rfl) rfl (Lens.self _) zbq ((hfr 7 yd).trans rfl) (zM H)) ?_;refine XK.nil' ?_;exact zF rfl rfl rfl rfl zbq (rfl)
theorem zsC (bits:UInt32):Tells P 128 [.val u32T bits] (.tup2 (.val tipT (zar bits)) (.val zs (zbh bits))):=by
 refine zc Tryz.func128 rfl rfl rfl (fun ext w hext=>?_);refine CQR ?_;refine qcn ?_;refine qaA ?_;refine A0 (oCl (zlr bits) rfl fn_138 yc) ?_;refine qcD ?_;refine qaj ?_;refine qaJ ?_;refine zq (p:=¬zbh bits=true) rfl (by cases zbh bits<;>rfl) (fun ht13=>?_) (fun ht13=>?_)
 ·
  refine CQR ?_;refine xF ?_;refine qat ?_;refine qac ?_;exact zn rfl rfl (zt rfl rfl zbt (by unfold zar;rw[ur ht13])) (zS (za rfl (by simpa using ht13)))
 refine CSQR ?_;refine A0 (oCl (zl7 [] yn) rfl fn_184 ycg) ?_;refine A0 (oCl (zpw [] yn) rfl fn_185 ycg) ?_;refine A0 (oCl (znJ [] yn) rfl fn_186 ycg) ?_;refine A0 (g_field rfl rfl zdZ zc1 zab) ?_;refine qau ?_;refine A0 (zB rfl znd zpc (.cons zex zbg zab rfl (.cons zfu zcF zab rfl (.cons zft zb9 zab rfl (.cons zce zaq zbp rfl .nil)))) rfl) ?_;refine qcm ?_;refine qaH ?_;refine CNQ ?_;refine xj ?_;refine xE ?_;refine X0 (zB rfl znc bd_58 (.cons zaR zY zaM rfl .nil) rfl) ?_;refine xE ?_;refine X0 (oCl (zsz (zio bits)) rfl fn_188 yc) ?_;refine X0 (oCl (zkz [] (zeM (zio bits)) yn) rfl fn_187 yci) ?_;refine X0 (zB rfl zjA zk4 (.cons zfr zcu zdJ rfl (.cons zg6 zhd zmq rfl .nil)) rfl) ?_;refine XK.e (x:=.idk) (fun fr' hfr kk H=>by exact zg rfl rfl rfl ((hfr 2 yd).trans rfl) rfl (Lens.self _) zbt ((hfr 26 yd).trans rfl) (zM H)) ?_;refine X0 aV ?_;refine XK.nil' ?_;exact zn rfl rfl (zt rfl rfl zbt (by unfold zar;rw[ut (ua ht13)];rfl)) (zS (za rfl ((ua ht13).symm)))
theorem zpz (t:Tip):Tells P 191 [.val tipT t] (.fresh 46 idT (zeu t)):=by
 refine zc Tryz.func191 rfl rfl rfl (fun ext w hext=>?_);refine qca ?_;refine CNQ ?_;refine zH [some 1,some 1,some 1,some 1,some 1,some 1,some 1,some 1,some 1,some 1,some 1,none,some 1] mixed yd ?_;refine X0 (oFp zfr) ?_;refine X0 (oFp zcO) ?_;refine X0 (oLb (zcu.comp zbv) zcG) ?_;refine qch ?_;refine X0 (oLb (zcu.comp zY) zaM) ?_;refine X0 (oCl (zjl t.b.h) rfl zwf yc) ?_;refine qch ?_;refine X0 (oLb (zcu.comp zY) zaM) ?_;refine X0 (oCl (zhS t.b.h) rfl fn_83 yc) ?_;refine XK.e (fun fr' hfr kk H=>by exact zaH (zsy t.b.l (zdo t.b.h) (zW t.b.h)) rfl fn_250 ⟨(zb ((hfr 5 yd).trans rfl)),(zb ((hfr 9 yd).trans rfl)),(zb ((hfr 13 yd).trans rfl)),trivial⟩ rfl rfl rfl (zM H)) ?_;refine X0 aO ?_;refine XK.nil' ?_;exact zd rfl rfl (zf rfl rfl rfl)
theorem rnextH_ok (t:Tip) (l:List Tx) (nonce:UInt64) (hl:l.length≤4000000000000) (hp:t.p.length≤1000000):Tells P 190 [.val tipT t,.val (bsl txT) l,.val u64T nonce] (.val zbx (zbw t l nonce)):=by
 have hlk:(zeu t).length≤64:=zme;refine zc Tryz.func190 rfl rfl rfl (fun ext w hext=>?_);refine ze (d:=1) rfl zi (fun hsl1=>?_);refine qae ?_;refine qcm ?_;refine CNQR ?_;refine A0 (oFp zg6) ?_;refine A0 (oLb zhd zmq) ?_;refine A0 (oCl (znJ t.p hp) rfl fn_186 yc) ?_;refine qce ?_;refine qbb ?_;refine CNQ ?_;refine zH [some 1,some 1,some 1,some 1,some 1,some 1,some 1,some 1,some 1,some 1,some 1,some 1,some 1,some 1,some 1,some 1,some 1,some 1,some 1,some 1,some 1,some 1,some 1,some 1,none] mixed yd ?_;refine qch ?_;refine X0 (oFp zc9) ?_;refine X0 (oLb ((zcu.comp zY).comp zap) ty_3) ?_;refine X0 zcn ?_;refine qch ?_;refine X0 (oLb (zcu.comp zY) zaM) ?_;refine X0 (oCl (zjl t.b.h) rfl zwf yc) ?_;refine X0 (oLs rfl rfl rfl zbt) ?_;refine X0 (oCl (zC (zpz t)) rfl fn_191 yc) ?_;refine X0 (oCl (zl7 (zeu t) ya) rfl fn_184 yc) ?_;refine X0 mV ?_;refine X0 (oCl (zpw l hl) rfl fn_185 yc) ?_;refine X0 (oFp zdZ) ?_;refine X0 (oLb zc1 zab) ?_;refine X0 (oFp zic) ?_;refine X0 (oLb zgw zal) ?_;refine qch ?_;refine X0 (oFp zce) ?_;refine X0 (oLb ((zcu.comp zY).comp zaq) zbp) ?_;refine X0 mV ?_;refine X0 (zB rfl znd zpc (.cons zc9 zap ty_3 rfl (.cons zfv zb8 zab rfl (.cons zex zbg zab rfl (.cons zfu zcF zab rfl (.cons zft zb9 zab rfl (.cons zg7 zcT zal rfl (.cons zce zaq zbp rfl (.cons zfs zbK za9 rfl .nil)))))))) rfl) ?_;refine XK.e (x:=.idk) (fun fr' hfr kk H=>by exact zg rfl rfl rfl ((hfr 6 yd).trans rfl) rfl (Lens.self _) zaM ((hfr 34 yd).trans rfl) (zM H)) ?_;refine XK.nil' ?_;exact zF rfl rfl rfl rfl zaM (rfl)
theorem rpush_ok (t:Tip) (b:Block) (hbt:b.t.length≤4000000000000) (htp:t.p.length≤1000000):Tells P 130 [.val tipT t,.val zU b] (.tup2 (.val tipT (zht t b)) (.val i64T (zbY t b))):=by
 obtain⟨q,hw⟩:∃q,q=zbw t b.t b.h.nonce:=⟨_,rfl⟩;have hN:=rnextH_ok t b.t b.h.nonce hbt htp;rw[←hw] at hN;refine zc Tryz.func130 rfl rfl rfl (fun ext w hext=>?_);refine qa3 ?_;refine qcn ?_;refine qah ?_;refine xf ?_;refine qda ?_;refine A0 (oFp zaR) ?_;refine A0 (oFp zfs) ?_;refine A0 (oLb (zY.comp zbK) za9) ?_;refine A0 (oCl (hN) rfl fn_190 yz) ?_;refine qcm ?_;refine qaH ?_;refine CNQQR ?_;refine A0 (oFp zaR) ?_;refine A0 (oFp zc9) ?_;refine A0 (oLb (zY.comp zap) ty_3) ?_;refine qb9 ?_;refine zq (p:=48≤b.h.height) rfl yN (fun ht21=>?_) (fun ht21=>?_)
 ·
  refine qba ?_;exact zn rfl rfl (zt rfl rfl zbt (zdl (e:=3) (by rw[zbX hw,ut ht21]) yn)) (zS (za rfl (Eq.symm (a:=zbY t b) (by rw[zbX hw,ut ht21]))))
 refine CSQQR ?_;refine A0 (oFp zaR) ?_;refine A0 (oFp zc9) ?_;refine A0 (oLb (zY.comp zap) ty_3) ?_;refine qbL ?_;refine A0 zgB ?_;refine qau ?_;refine zX (d:=29) (p:=¬b.h.height=q.height) rfl yN (fun g29=>?_) (fun g29=>?_)
 ·
  refine qbc ?_;refine qc0 ?_;refine Ct ?_;refine qba ?_;exact zn rfl rfl (zt rfl rfl zbt (zdl (e:=5) (by rw[zbX hw,ur ht21,ut (fun h=>g29 h.1)]) yn)) (zS (za rfl (Eq.symm (a:=zbY t b) (by rw[zbX hw,ur ht21,ut (fun h=>g29 h.1)]))))
 refine A1 (oFp zaR) ?_;refine A1 (oFp zfv) ?_;refine A1 (oLb (zY.comp zb8) zab) ?_;refine A1 (oFp zfv) ?_;refine A1 (oLb zb8 zab) ?_;refine A1 (zgg rfl rfl rfl (zjH)) ?_;refine qaf ?_;refine zX (d:=37) (p:=¬b.h.prev=q.prev) rfl yw (fun g37=>?_) (fun g37=>?_)
 ·
  refine qbc ?_;refine qao ?_;refine Ct ?_;refine qba ?_;exact zn rfl rfl (zt rfl rfl zbt (zdl (e:=5) (by rw[zbX hw,ur ht21,ut (fun h=>g37 h.2.1)]) yn)) (zS (za rfl (Eq.symm (a:=zbY t b) (by rw[zbX hw,ur ht21,ut (fun h=>g37 h.2.1)]))))
 refine A1 (oFp zaR) ?_;refine A1 (oFp zce) ?_;refine A1 (oLb (zY.comp zaq) zbp) ?_;refine A1 (oFp zce) ?_;refine A1 (oLb zaq zbp) ?_;refine A1 zgB ?_;refine qao ?_;refine zq (p:=¬b.h.bits=q.bits) rfl (by have e:IntL.toI u32T b.h.bits=IntL.toI u32T q.bits↔b.h.bits=q.bits:=⟨fun h=>UInt32.toNat_inj.1 (Int.ofNat_inj.1 h),fun h=>by rw[h]⟩;simp[e]) (fun ht44=>?_) (fun ht44=>?_)
 ·
  refine qba ?_;exact zn rfl rfl (zt rfl rfl zbt (zdl (e:=5) (by rw[zbX hw,ur ht21,ut (fun h=>ht44 h.2.2)]) yn)) (zS (za rfl (Eq.symm (a:=zbY t b) (by rw[zbX hw,ur ht21,ut (fun h=>ht44 h.2.2)]))))
 refine CS ?_;refine qaG ?_;refine G0 (oFp zcO) ?_;refine G0 (oLb zbv zcG) ?_;refine G0 (oLs rfl rfl rfl zbt) ?_;refine G0 (oCl (zC (zpz t)) rfl fn_191 yc) ?_;refine G0 (oCl (znO b.l (zeu t)) rfl fn_99 ye) ?_;refine qaV ?_;refine qaF ?_;refine A0 oN ?_;refine qau ?_;refine zX (d:=53) (p:=¬b.l=zeu t) rfl yw (fun g53=>?_) (fun g53=>?_)
 ·
  refine qbc ?_;refine qao ?_;refine Ct ?_;refine qba ?_;exact zn rfl rfl (zt rfl rfl zbt (zdl (e:=6) yb0 yn)) (zS (za rfl (Eq.symm (a:=zbY t b) yb0)))
 refine A1 (oFp zaR) ?_;refine A1 (oFp zex) ?_;refine A1 (oLb (zY.comp zbg) zab) ?_;refine A1 (oFp zex) ?_;refine A1 (oLb zbg zab) ?_;refine A1 (zgg rfl rfl rfl (zjH)) ?_;refine qao ?_;refine zq (p:=¬b.h.links=q.links) rfl yw (fun ht60=>?_) (fun ht60=>?_)
 ·
  refine qba ?_;exact zn rfl rfl (zt rfl rfl zbt (zdl (e:=6) ybX yn)) (zS (za rfl (Eq.symm (a:=zbY t b) ybX)))
 refine CSQQR ?_;refine A0 (oFp zaR) ?_;refine A0 (oFp zfu) ?_;refine A0 (oLb (zY.comp zcF) zab) ?_;refine A0 (oFp zfu) ?_;refine A0 (oLb zcF zab) ?_;refine A0 (zgg rfl rfl rfl (zjH)) ?_;refine qau ?_;refine zX (d:=68) (p:=¬b.h.txs=q.txs) rfl yw (fun g68=>?_) (fun g68=>?_)
 ·
  refine qbc ?_;refine qc0 ?_;refine Ct ?_;refine qba ?_;exact zn rfl rfl (zt rfl rfl zbt (zdl (e:=7) ybk yn)) (zS (za rfl (Eq.symm (a:=zbY t b) ybk)))
 refine A1 (oFp zaR) ?_;refine A1 (oFp zft) ?_;refine A1 (oLb (zY.comp zb9) zab) ?_;refine A1 (oFp zft) ?_;refine A1 (oLb zb9 zab) ?_;refine A1 (zgg rfl rfl rfl (zjH)) ?_;refine qaf ?_;refine zX (d:=76) (p:=¬b.h.past=q.past) rfl yw (fun g76=>?_) (fun g76=>?_)
 ·
  refine qbc ?_;refine qao ?_;refine Ct ?_;refine qba ?_;exact zn rfl rfl (zt rfl rfl zbt (zdl (e:=7) ybe yn)) (zS (za rfl (Eq.symm (a:=zbY t b) ybe)))
 refine A1 (oFp zaR) ?_;refine A1 (oFp zg7) ?_;refine A1 (oLb (zY.comp zcT) zal) ?_;refine A1 (oFp zg7) ?_;refine A1 (oLb zcT zal) ?_;refine A1 (zgg rfl rfl rfl (zwo)) ?_;refine qao ?_;refine zq (p:=¬b.h.work=q.work) rfl yw (fun ht83=>?_) (fun ht83=>?_)
 ·
  refine qba ?_;exact zn rfl rfl (zt rfl rfl zbt (zdl (e:=7) ybd yn)) (zS (za rfl (Eq.symm (a:=zbY t b) ybd)))
 refine CSQR ?_;refine A0 (oFp zaR) ?_;refine A0 (oLb zY zaM) ?_;refine A0 (oCl (zt1 b.h) rfl fn_192 yc) ?_;refine qaj ?_;refine qaJ ?_;refine zq (p:=¬zbG b.h=true) rfl (by cases zbG b.h<;>rfl) (fun ht89=>?_) (fun ht89=>?_)
 ·
  refine qba ?_;exact zn rfl rfl (zt rfl rfl zbt (zdl (e:=4) yaP yn)) (zS (za rfl (Eq.symm (a:=zbY t b) yaP)))
 refine CSQR ?_;refine A0 (oFp zlN) ?_;refine A0 (oLb zlW zki) ?_;refine qda ?_;refine A0 (oCl (rapply_ok t.c b.t) rfl fn_193 ye) ?_;refine qb1 ?_;refine qaO ?_;refine zq (p:=¬(zK t.c b.t).2=0) rfl yN (fun ht100=>?_) (fun ht100=>?_)
 ·
  refine CQR ?_;refine xf ?_;refine qau ?_;refine qat ?_;refine qac ?_;exact zn rfl rfl (zt rfl rfl zbt (zdl (e:=(zK t.c b.t).2) yaQ ht100)) (zS (za rfl (Eq.symm (a:=zbY t b) yaQ)))
 refine CS ?_;refine CQ ?_;refine zH [some 1,some 1,some 1,some 1,some 1,some 1,some 1,some 1,some 1,none,some 1] mixed yd ?_;refine X0 (oLs rfl rfl rfl zdJ) ?_;refine X0 (oFp zg6) ?_;refine X0 (oLb zhd zmq) ?_;refine X0 (oFp zaR) ?_;refine X0 (oLb zY zaM) ?_;refine X0 (oCl (zsz b.h) rfl fn_188 yc) ?_;refine X0 (oCl (zkz t.p (zeM b.h) htp) rfl fn_187 ye) ?_;refine X0 mV ?_;refine X0 (zB rfl zjA zk4 (.cons zfr zcu zdJ rfl (.cons zg6 zhd zmq rfl (.cons zlN zlW zki rfl .nil))) rfl) ?_;refine XK.e (x:=.idk) (fun fr' hfr kk H=>by exact zg rfl rfl rfl ((hfr 4 yd).trans rfl) rfl (Lens.self _) zbt ((hfr 111 yd).trans rfl) (zM H)) ?_;refine X0 aV ?_;refine XK.nil' ?_;exact zn rfl rfl (zt rfl rfl zbt (rpush_ok0 yaN)) (zS (za rfl (Eq.symm (a:=zbY t b) yaN)))
def s2:Ab.Id:=[219,193,180,201,0,255,228,141,87,91,93,165,198,56,4,1,37,246,93,176,254,62,36,73,75,118,234,152,100,87,217,134]
def s4:Ab.Id:=[229,45,156,80,140,80,35,71,52,77,140,7,173,145,203,214,6,138,252,117,255,98,146,240,98,160,156,163,129,200,158,113]
def id0:Ab.Id:=[204,117,100,156,217,35,11,173,35,93,199,149,159,68,227,45,148,39,20,174,85,27,122,223,187,132,2,33,173,199,16,195]
def lk0:Ab.Id:=[191,122,202,251,39,175,213,3,220,82,240,192,217,1,99,0,242,60,209,156,152,127,176,94,46,148,67,11,109,16,112,47]
def zlP:Head:=⟨0,zId,s2,s2,s4,zaP,545259519,0⟩
def zuv (n:UInt64):Head:=⟨1,id0,lk0,s2,id0,[2,0,0,0],545259519,n⟩
theorem sum_s2:zfA [2]=s2:=yv
theorem sum_s4:zfA [4]=s4:=yv
theorem zqH:zfC []=s2:=by rw[zfC,ut (show([]:List Ab.Id).length=0 from rfl),sum_s2]
theorem root_one (x:Ab.Id):zfC [x]=x:=by rw[zfC,ur (show ¬[x].length=0 by simp),dif_pos (show [x].length≤1 by simp)];rfl
theorem easy_first:zio 545259519=zlP:=by
  have e1:zfR []=s2:=zqH;have e2:zpj []=s2:=zqH;have e3:(zbl []).h=s4:=sum_s4;unfold zio;rw[e1,e2,e3];rfl
theorem zut:zdo zlP=id0:=yv
theorem easy_work:zdx zlP=[2,0,0,0]:=yv
theorem easy_level:zW zlP=31:=yv
theorem zur:zbh 545259519=true:=yv
theorem easy_lk:zpN id0=lk0:=yv
theorem easy_may0:zbG (zuv 0)=false:=yv
theorem ztg:zbG (zuv 1)=true:=yv
def few (t:Tx):Bool:=decide (t.ins.length≤6∧t.outs.length≤6)
theorem few_ok (t:Tx):Tells P 73 [.val txT t] (.val zs (few t)):=by
 refine zc Tryz.func73 rfl rfl rfl (fun ext w hext=>?_);refine qae ?_;refine qah ?_;refine qa9 ?_;refine A0 zfp ?_;refine Sp (d:=6) (p:=t.ins.length≤6) (fun g6=>?_) (fun g6=>?_)
 ·
  refine qau ?_;refine qbo ?_;refine A1 zfp ?_;refine qaS ?_;exact zd rfl rfl (za rfl ya9)
 refine qau ?_;refine qdf ?_;refine qaS ?_;exact zd rfl rfl (za rfl ya9)
theorem fewAll_ok (l:List Tx) (m:Int):Tells P 30 [.val (bsl txT) l,.val i64T m] (.val zs (l.all few&&decide ((l.length:Int)≤m))):=by
 refine zc Tryz.func30 rfl rfl rfl (fun ext w hext=>?_);refine ze (d:=0) rfl zi (fun hsl0=>?_);refine ze (d:=1) rfl zu (fun hin1=>?_);refine CQR ?_;refine qcc ?_;refine Lp (ι:=Nat) 0 (fun (k:Nat)=>(((Fr.none).set 0 (.val (bsl txT) l)).set 1 (.val i64T m)).set 5 (.val i64T (k:Int))) (fun (k:Nat)=>Hp.none) (fun (k:Nat)=>k≤l.length∧(l.take k).all few=true) (fun (k:Nat)=>l.length-k) (0) (⟨uf _,rfl⟩) ?_;intro k hinv;refine qaW ?_;refine qbZ ?_;refine qav ?_;refine Cf (p:=k<l.length) (fun ht10=>?_) (fun ht10=>?_)
 ·
  obtain⟨t,ht⟩:∃t,l[k]?=some t:=⟨_,ub ht10⟩;refine qdm ?_;refine A0 (zbH rfl rfl rfl zkq yh) ?_;refine A0 (zh rfl rfl zfy) ?_;refine A0 (oCl (few_ok _) rfl fn_73 ycg) ?_;refine qaA ?_;refine qaJ ?_;refine zq (p:=¬few t=true) rfl yw (fun ht19=>?_) (fun ht19=>?_)
  ·
   refine qay ?_;exact zd rfl rfl (za rfl (by symm;rw[Bool.and_eq_false_iff];left;rw[List.all_eq_false];exact⟨t,ud ht,ht19⟩))
  refine qbN ?_;exact Nx (k+1) (⟨by omega,by rw[un,ht,List.all_append,hinv.2];simp[ua ht19]⟩) ya
 refine qcu ?_;refine qbZ ?_;refine qau ?_;refine A0 zfp ?_;refine qac ?_;exact zd rfl rfl (za rfl (by rw[uc ya] at hinv;rw[hinv.2,Bool.true_and];rfl))
def leaf0:Total:=leafT id0 [2,0,0,0]
def zfw:Tip:=⟨⟨zlP,[],[]⟩,[leaf0],[]⟩
def zdh:Block:=⟨zuv 1,[id0],[]⟩
def leaf1:Total:=zeM (zuv 1)
def zwr:Tip:=⟨zdh,zay [leaf0] leaf1,[]⟩
theorem easy_leaf:zeM zlP=leaf0:=by unfold zeM leaf0;rw[zut,easy_work]
theorem zwq:zar 545259519=zfw:=by unfold zar;rw[ut zur,easy_first,easy_leaf];rfl
theorem zlO:zeu zfw=[id0]:=by
  show zcv [] (zdo zlP) (zW zlP)=_;rw[zut];unfold zcv;rw[ur (show ¬32<([]:List Ab.Id).length by decide),ut (show([]:List Ab.Id).length=0 from rfl)]
theorem zoE (n:UInt64):zbw zfw [] n=zuv n:=by
  have e1:zfR [id0]=lk0:=(root_one _).trans easy_lk;have e2:zpj []=s2:=zqH;unfold zbw;rw[zlO,e1,e2];show(⟨_,zdo zlP,_,_,_,_,_,_⟩:Head)=_;rw[zut];rfl
theorem ztf:ziL (zuv 0) 200=some (zuv 1):=by
  unfold ziL;rw[zkK yn (by rw[easy_may0];decide)];exact ziM yn ztg
theorem zoV:zK [] []=([],0):=yv
theorem zp0:zfD zfw [] 0 200=0:=by
  unfold zfD;rw[zoE,ur yn,show(zK zfw.c []).2=0 from congrArg (·.2) zoV,ur yn,ztf];rfl
theorem easy_mineB:zsP zfw [] 0 200=zdh:=by
  unfold zsP;rw[zp0,ut rfl,zoE,ztf,zlO];rfl
theorem zpZ:zbY zfw zdh=0:=by
  unfold zbY;have e:zbw zfw zdh.t zdh.h.nonce=zdh.h:=zoE 1;rw[e,ur yn,ur yw,ur (by rw[zlO];simp[zdh]),ur yw,ur (by rw[show zbG zdh.h=true from ztg];simp)];exact congrArg (·.2) zoV
theorem easy_pushT:zht zfw zdh=zwr:=by
  unfold zht;rw[zpZ,ut rfl,show(zK zfw.c zdh.t).1=[] from congrArg (·.1) zoV];rfl
theorem ztW:zgI zdh:=by refine⟨by decide,by decide,fun t ht=>by cases ht⟩
def fewB (b:Block):Bool:=(b.t.all few&&decide ((b.t.length:Int)≤6))&&decide (b.l.length≤40)
theorem eq_u32 {x y:UInt32}:decide (IntL.toI u32T x=IntL.toI u32T y)=decide (x=y):=by rw[uo];show((x.toNat:Nat):Int)=((y.toNat:Nat):Int)↔_;rw[Int.ofNat_inj,UInt32.toNat_inj]
theorem zsG:∀(r:List Total) (x:Total),(zg4 r x).length≤r.length+1
  | [],_=>ug _
  | y::r,x=>by
    rw[zg4]
    split
    · have:=zsG r (zh2 y x);rw[List.length_cons];omega
    rw[List.length_cons];omega
theorem zq4 {p:List Total} {x:Total}:(zay p x).length≤p.length+1:=by
  unfold zay
  have:=zsG p.reverse x
  rw[List.length_reverse] at this ⊢;exact this
theorem apply_may {p:List Coin} {l:List Tx} (h:(zK p l).2=0):zaw p=true:=by
  refine Classical.byContradiction fun hn=>?_
  unfold zK at h;rw[ut hn] at h;exact absurd h (show ¬(1:Int)=0 by decide)
theorem zqN {t:Tip} {b:Block}:zbY t b=0↔b.h.height<48∧b.h=zbw t b.t b.h.nonce∧b.l=zeu t∧zbG b.h=true∧(zK t.c b.t).2=0:=by
  constructor
  · intro h
    unfold zbY at h;by_cases h1:48≤b.h.height
    · rw[ut h1] at h;exact absurd h yn
    rw[ur h1] at h;by_cases h2:¬zd6 b.h=zd6 (zbw t b.t b.h.nonce)
    · rw[ut h2] at h;exact absurd h yn
    rw[ur h2] at h;by_cases h3:¬b.h.links=(zbw t b.t b.h.nonce).links∨¬b.l=zeu t
    · rw[ut h3] at h;exact absurd h yn
    rw[ur h3] at h;by_cases h4:¬b.h=zbw t b.t b.h.nonce
    · rw[ut h4] at h;exact absurd h yn
    rw[ur h4] at h;by_cases h5:¬zbG b.h=true
    · rw[ut h5] at h;exact absurd h yn
    rw[ur h5] at h;exact⟨by omega,ua h4,ua fun hc=>h3 (.inr hc),ua h5,h⟩
  rintro ⟨h1,h2,h3,h4,h5⟩
  unfold zbY;rw[ur ya,ur (Classical.not_not.2 (congrArg zd6 h2)),ur (fun h=>h.elim (fun h=>h (congrArg (·.links) h2)) fun h=>h h3),ur (Classical.not_not.2 h2),ur (Classical.not_not.2 h4)];exact h5
theorem zh9 {a:UInt32} (h:zbh a=true):zar a=⟨⟨zio a,[],[]⟩,[zeM (zio a)],[]⟩:=by unfold zar;rw[ut h];rfl
theorem zqO {t:Tip} {b:Block} (h:zbY t b=0):zht t b=⟨b,zay t.p (zeM b.h),(zK t.c b.t).1⟩:=by unfold zht;rw[ut h]
def zhH (x:Total):Prop:=x.w.length=4∧-9223372036854775808≤x.n∧x.n≤9223372036854775807
theorem wrap_q (n:Int):∃q,IntKind.i64.wrap n=n+18446744073709551616*q∧-9223372036854775808≤IntKind.i64.wrap n∧IntKind.i64.wrap n≤9223372036854775807:=by
  have h:=zdB.1 (zjK n);refine⟨(IntKind.i64.wrap n-n)/18446744073709551616,?_,h⟩;simp only[IntKind.wrap,IntKind.signed,IntKind.bits];simp
  split<;>omega
def nS (l:List Total):Nat:=(l.map fun x=>nW x.w).sum
def iS (l:List Total):Int:=(l.map (·.n)).sum
theorem zsV {y x:Total} (hy:zhH y) (hx:zhH x):zhH (zh2 y x):=⟨za6 hy.1 hx.1,(wrap_q _).choose_spec.2⟩
theorem zvO {y x:Total} (hy:zhH y) (hx:zhH x):nW (zh2 y x).w=(nW y.w+nW x.w)%W256∧∃q,(zh2 y x).n=y.n+x.n+18446744073709551616*q:=⟨zjE hy.1 hx.1,let ⟨q,h,_⟩:=wrap_q (y.n+x.n);⟨q,h⟩⟩
theorem zl6:∀{r:List Total} {x:Total},(∀y∈r,zhH y)→zhH x→zhH (zcJ r x)∧nW (zcJ r x).w=(nS r+nW x.w)%W256∧∃q,(zcJ r x).n=iS r+x.n+18446744073709551616*q
  | [],x,_,hx=>⟨hx,by have:=zq3 hx.1;show nW x.w=(0+nW x.w)%W256;unfold W256 at *;omega,0,by show x.n=0+x.n+_;omega⟩
  | y::r,x,hr,hx=>by
    have hy:=hr y yw;obtain⟨h1,h2,q,h3⟩:=zl6 (r:=r) (fun z hz=>hr z (by simp[hz])) (zsV hy hx);obtain⟨h4,q',h5⟩:=zvO hy hx;refine⟨h1,?_,q+q',?_⟩
    · show nW (zcJ r (zh2 y x)).w=(nS (y::r)+nW x.w)%W256
      have e:nS (y::r)=nW y.w+nS r:=by unfold nS;simp
      rw[h2,h4,e];unfold W256;omega
    show(zcJ r (zh2 y x)).n=iS (y::r)+x.n+_;have e:iS (y::r)=y.n+iS r:=by unfold iS;simp
    rw[h3,h5,e];omega
theorem znR:∀{r:List Total} {x:Total},(∀y∈r,zhH y)→zhH x→(∀y∈zg4 r x,zhH y)∧nS (zg4 r x)%W256=(nS r+nW x.w)%W256∧∃q,iS (zg4 r x)=iS r+x.n+18446744073709551616*q
  | [],x,_,hx=>⟨fun y hy=>by simp[zg4] at hy;rw[hy];exact hx,by simp[zg4,nS],0,by simp[zg4,iS]⟩
  | y::r,x,hr,hx=>by
    have hy:=hr y yw;have e:nS (y::r)=nW y.w+nS r:=by unfold nS;simp
    have e':iS (y::r)=y.n+iS r:=by unfold iS;simp
    rw[zg4]
    split
    · obtain⟨h1,h2,q,h3⟩:=znR (r:=r) (fun z hz=>hr z (by simp[hz])) (zsV hy hx)
      obtain⟨h4,q',h5⟩:=zvO hy hx;refine⟨h1,?_,q+q',?_⟩
      · rw[h2,h4,e];unfold W256;omega
      rw[h3,h5,e'];omega
    refine⟨fun z hz=>?_,?_,0,?_⟩
    · rcases List.mem_cons.1 hz with h|h
      · rw[h];exact hx
      exact hr z h
    · have:nS (x::y::r)=nW x.w+(nW y.w+nS r):=by unfold nS;simp
      rw[this,e];congr 1;omega
    have:iS (x::y::r)=x.n+(y.n+iS r):=by unfold iS;simp
    rw[this,e'];omega
theorem zsw {r:List Total} (hr:∀y∈r,zhH y):zhH (zbl r.reverse)∧nW (zbl r.reverse).w=nS r%W256∧∃q,(zbl r.reverse).n=iS r+18446744073709551616*q:=by
  unfold zbl;rw[List.reverse_reverse];cases r with
  | nil=>exact⟨⟨rfl,by decide,by decide⟩,rfl,0,rfl⟩
  | cons x r =>
    obtain⟨h1,h2,q,h3⟩:=zl6 (r:=r) (fun z hz=>hr z (by simp[hz])) (hr x yw);refine⟨h1,?_,q,?_⟩
    · show nW (zcJ r x).w=_
      rw[h2];unfold nS;simp;congr 1;omega
    show(zcJ r x).n=_;rw[h3];unfold iS;simp;omega
theorem zfa (h:Head):(zdx h).length=4:=by
  unfold zdx
  split
  · unfold zlh
    split
    · refine za6 ?_ rfl
      unfold divW divP
      split
      · rfl
      simp only[]
      have:∀(b:Wide) (n:Nat) (x:Wide×Wide),x.2.length=4→(divN b n x).2.length=4:=fun b n=>by
        induction n with
        | zero=>intro x hx;exact hx
        | succ n ih =>
          intro x hx;rw[divN];refine ih _ ?_;unfold zi0
          split
          · simp only[zkG,List.length_set];exact hx
          exact hx
      exact this _ _ _ rfl
    rfl
  rfl
theorem append_sum {p:List Total} {h:Head} (hp:∀x∈p,zhH x):(zbl (zay p (zeM h))).w=addW (zbl p).w (zdx h)∧(zbl (zay p (zeM h))).n=IntKind.i64.wrap ((zbl p).n+1):=by
  have hr:∀x∈p.reverse,zhH x:=fun x hx=>hp x (by simpa using hx)
  have hx:zhH (zeM h):=⟨zfa h,by show(-9223372036854775808:Int)≤1;decide,by show(1:Int)≤9223372036854775807;decide⟩;obtain⟨a1,a2,q1,a3⟩:=znR hr hx;obtain⟨b1,b2,q2,b3⟩:=zsw a1;obtain⟨c1,c2,q3,c3⟩:=zsw hr;rw[List.reverse_reverse] at c1 c2 c3
  constructor
  · refine zhu b1.1 (za6 c1.1 (zfa h)) ?_
    rw[zjE c1.1 (zfa h),c2];show nW (zbl (zg4 p.reverse (zeM h)).reverse).w=_;rw[b2,a2];show(nS p.reverse+nW (zdx h))%W256=_;unfold W256;omega
  show(zbl (zg4 p.reverse (zeM h)).reverse).n=_;obtain⟨q4,d1,d2⟩:=wrap_q ((zbl p).n+1);have e:(zeM h).n=1:=rfl
  have:=b1.2
  omega
def zaB:Tip→List Block→Tip×Int
  | t,[]=>(t,0)
  | t,b::l=>if zbY t b=0 then zaB (zht t b) l else (zTip,zbY t b)
def zaf (l:List Block):Tip×Int :=
  match l with
  | []=>(zTip,9)
  | g::r=>if zbh g.h.bits=true∧(zar g.h.bits).b=g then zaB (zar g.h.bits) r else (zTip,12)
def zo8 (l:List Block) (t:List Tx) (nonce:UInt64):Int:=if (zaf l).2=0 then zfD (zaf l).1 t nonce 200 else (zaf l).2
def zkO (l:List Block) (t:List Tx) (nonce:UInt64):List Block:=if zo8 l t nonce=0 then l++[zsP (zaf l).1 t nonce 200] else l
def zp (l:List Block):List Int:=l.map fun b=>zW b.h
def zfU (l:List Block):List Total:=l.map fun b=>zeM b.h
def zgH (l:List Block):Prop:=l.length*232≤140737488351232∧∀b∈l,zgI b
def Chain (l:List Block) (t:Tip):Prop:=zaf l=(t,0)
theorem zk0:∀{l m:List Block} {t:Tip},zaB t (l++m)=if (zaB t l).2=0 then zaB (zaB t l).1 m else zaB t l
  | [],m,t=>by simp[zaB]
  | b::l,m,t=>by
    rw[List.cons_append,zaB,zaB];by_cases h:zbY t b=0
    · rw[ut h,ut h];exact zk0
    rw[ur h,ur h,ur h]
theorem zj8 {l m:List Block} (h:¬l=[]):zaf (l++m)=if (zaf l).2=0 then zaB (zaf l).1 m else zaf l:=by
  cases l with
  | nil=>exact absurd rfl h
  | cons g r =>
    rw[List.cons_append];unfold zaf;simp only[];by_cases h:zbh g.h.bits=true∧(zar g.h.bits).b=g
    · rw[ut h,ut h];exact zk0
    rw[ur h,ur h];rfl
theorem zm3 {l:List Block} (h:(zaf l).2=0):¬l=[]:=fun e=>by rw[e] at h;exact absurd h yn
theorem ztr {l:List Block} {b:Block} (h:(zaf l).2=0):zaf (l++[b])=if zbY (zaf l).1 b=0 then (zht (zaf l).1 b,0) else (zTip,zbY (zaf l).1 b):=by
  rw[zj8 (zm3 h),ut h];rfl
theorem zm2 {l:List Block} (h:(zaf l).2=0):Chain l (zaf l).1:=by unfold Chain;rw[←h]
theorem zoK {b:Block} {t:Tip} (h:Chain [b] t):zbh b.h.bits=true∧b=⟨zio b.h.bits,[],[]⟩∧t=zar b.h.bits:=by
  unfold Chain zaf at h;simp only[] at h;by_cases c:zbh b.h.bits=true∧(zar b.h.bits).b=b
  · rw[ut c] at h
    refine⟨c.1,?_,(congrArg (·.1) h).symm⟩
    have:=c.2
    rw[zh9 c.1] at this;exact this.symm
  rw[ur c] at h;exact absurd (congrArg (·.2) h) (by show ¬(12:Int)=0;decide)
theorem chain_snoc {l:List Block} {b:Block} {t:Tip} (hl:¬l=[]) (h:Chain (l++[b]) t):∃t',Chain l t'∧zbY t' b=0∧t=zht t' b:=by
  unfold Chain at h;rw[zj8 hl] at h;by_cases c:(zaf l).2=0
  · rw[ut c] at h
    rw[zaB] at h;by_cases d:zbY (zaf l).1 b=0
    · rw[ut d,zaB] at h
      exact⟨_,zm2 c,d,(congrArg (·.1) h).symm⟩
    rw[ur d] at h;exact absurd (congrArg (·.2) h) d
  rw[ur c] at h;exact absurd (congrArg (·.2) h) c
theorem zoM {P:List Block→Tip→Prop} (h1:∀bits,zbh bits=true→P [⟨zio bits,[],[]⟩] (zar bits)) (h2:∀l t b,Chain l t→P l t→zbY t b=0→P (l++[b]) (zht t b)):∀(n:Nat) (l:List Block) (t:Tip),l.length=n→Chain l t→P l t
  | 0,l,t,hn,h=>absurd (List.eq_nil_of_length_eq_zero hn) (zm3 (congrArg (·.2) h))
  | n+1,l,t,hn,h=>by
    have hl:¬l=[]:=fun e=>by rw[e] at hn;cases hn
    obtain⟨r,b,rfl⟩:∃r b,l=r++[b]:=⟨l.dropLast,l.getLast hl,(List.dropLast_concat_getLast hl).symm⟩;by_cases hr:r=[]
    · subst hr
      obtain⟨e1,e2,e3⟩:=zoK h;rw[e3,List.nil_append]
      have:=h1 b.h.bits e1
      rw[←e2] at this;exact this
    obtain⟨t',e1,e2,e3⟩:=chain_snoc hr h;rw[e3];exact h2 _ _ _ e1 (zoM h1 h2 n r t' (by simp at hn;omega) e1) e2
theorem zk1 {l:List Block} {t:Tip} (h:Chain l t):l.getLast?=some t.b∧t.b.h.height=(l.length:Int)-1∧l.length≤48∧t.p=(zfU l).foldl zay []∧(∃g,l[0]?=some g∧t.b.h.bits=g.h.bits):=by
  refine zoM (P:=fun l t=>l.getLast?=some t.b∧t.b.h.height=(l.length:Int)-1∧l.length≤48∧t.p=(zfU l).foldl zay []∧(∃g,l[0]?=some g∧t.b.h.bits=g.h.bits)) (fun bits hb=>?_) (fun l t b hc hi hp=>?_) l.length l t rfl h
  · rw[zh9 hb]
    exact⟨rfl,rfl,Nat.le_of_ble_eq_true rfl,rfl,_,rfl,rfl⟩
  obtain⟨i1,i2,i3,i4,g,i5,i6⟩:=hi;obtain⟨p1,p2,_⟩:=zqN.1 hp;have hne:0<l.length:=List.length_pos_iff.2 (zm3 (congrArg (·.2) hc));have e:b.h.height=IntKind.i64.wrap (t.b.h.height+1):=congrArg (·.height) p2;rw[i2,zah ya] at e;rw[zqO hp];refine⟨by simp,?_,?_,?_,g,?_,?_⟩
  · show b.h.height=_
    rw[e,ue,List.length_singleton];omega
  · rw[ue,List.length_singleton];omega
  · show zay t.p (zeM b.h)=_
    rw[i4];unfold zfU;rw[List.map_append,List.foldl_append];rfl
  · rw[List.getElem?_append_left hne];exact i5
  show b.h.bits=_;rw[show b.h.bits=t.b.h.bits from congrArg (·.bits) p2,i6]
theorem zlR {l:List Block} {t:Tip} {i:Nat} (h:Chain l t) (hi:1≤i) (hl:i≤l.length):∃t',Chain (l.take i) t'∧zaB t' (l.drop i)=(t,0):=by
  have hne:¬l.take i=[]:=fun e=>by have:=congrArg List.length e;rw[um] at this;change min i l.length=0 at this;omega
  have h0:zaf (l.take i++l.drop i)=(t,0):=by rw[List.take_append_drop];exact h
  rw[zj8 hne] at h0;by_cases c:(zaf (l.take i)).2=0
  · rw[ut c] at h0;exact⟨_,zm2 c,h0⟩
  rw[ur c] at h0;exact absurd (congrArg (·.2) h0) c
theorem chain_at {l:List Block} {t:Tip} {i:Nat} {b:Block} (h:Chain l t) (hi:1≤i) (hb:l[i]?=some b):∃t',Chain (l.take i) t'∧zbY t' b=0∧l[i-1]?=some t'.b:=by
  obtain⟨hl,e⟩:=ul.1 hb;obtain⟨t',h1,h2⟩:=zlR h hi (Nat.le_of_lt hl);rw[List.drop_eq_getElem_cons hl,e,zaB] at h2;refine⟨t',h1,?_,?_⟩
  · by_cases c:zbY t' b=0
    · exact c
    rw[ur c] at h2;exact absurd (congrArg (·.2) h2) c
  have:=(zk1 h1).1
  have h5:(l.take i)[i-1]?=l[i-1]?:=by rw[List.getElem?_take];split<;>first|rfl|omega
  rw[List.getLast?_eq_getElem?,um,Nat.min_eq_left (Nat.le_of_lt hl),h5] at this;exact this
theorem ziB {t:Tip} (h1:t.b.l=[]) (h2:t.b.t=[]) (h3:Nat.ble t.p.length 1=true) (h4:t.c=[]):zgG t:=by
  have:=Nat.le_of_ble_eq_true h3
  refine⟨⟨by rw[h1];decide,by rw[h2];decide,fun x hx=>by rw[h2] at hx;cases hx⟩,by omega,by rw[h4];decide⟩
def zpp (t:Tip) (n:Nat):Prop:=zgG t∧t.p.length≤n+1∧t.b.h.height=n
theorem zjX {t:Tip} {b:Block} {n:Nat} (ht:zpp t n) (hn:n≤1000000000000) (hb:zgI b) (h:zbY t b=0):zpp (zht t b) (n+1):=by
  obtain⟨h6,h7,_,_,h5⟩:=zqN.1 h;rw[zqO h];have h1:=zq4 (p:=t.p) (x:=zeM b.h);have h2:=zcI (zuJ (l:=b.t) (apply_may h5)).1;obtain⟨_,h3,h4⟩:=ht;have e:b.h.height=IntKind.i64.wrap (t.b.h.height+1):=congrArg (·.height) h7;rw[h4,zah ya] at e;refine⟨⟨hb,?_,?_⟩,?_,?_⟩
  · show(zay t.p (zeM b.h)).length≤1000
    omega
  · show(zK t.c b.t).1.length≤1000
    omega
  · show(zay t.p (zeM b.h)).length≤n+1+1
    omega
  show b.h.height=_;rw[e];omega
theorem zj4 {bits:UInt32}:zpp (zar bits) 0:=by
  by_cases h:zbh bits=true
  · rw[zh9 h];exact⟨ziB rfl rfl rfl rfl,Nat.le_of_ble_eq_true rfl,rfl⟩
  have:zar bits=zTip:=by unfold zar;rw[ur h]
  rw[this];exact⟨ziB rfl rfl rfl rfl,Nat.le_of_ble_eq_true rfl,rfl⟩
theorem zi7:∀{l:List Block} {t:Tip} {n:Nat},zpp t n→n+l.length≤1000000000000→(∀b∈l,zgI b)→zgG (zaB t l).1
  | [],t,n,ht,_,_=>ht.1
  | b::l,t,n,ht,hn,hl=>by
    rw[zaB];rw[List.length_cons] at hn
    split
    · rename_i h
      exact zi7 (zjX ht ya (hl b yw) h) ya fun x hx=>hl x (by simp[hx])
    exact ziB rfl rfl rfl rfl
theorem zux {l:List Block} (h:zgH l):zgG (zaf l).1:=by
  cases l with
  | nil=>exact ziB rfl rfl rfl rfl
  | cons g r =>
    unfold zaf;simp only[]
    split
    · refine zi7 zj4 ?_ fun x hx=>h.2 x (by simp[hx])
      have:=h.1
      rw[List.length_cons] at this;omega
    exact ziB rfl rfl rfl rfl
theorem zuy {l:List Block} {t:Tip} (h:Chain l t):(∀x∈t.p,zhH x)∧(zbl t.p).n=l.length:=by
  refine zoM (P:=fun l t=>(∀x∈t.p,zhH x)∧(zbl t.p).n=l.length) (fun bits hb=>?_) (fun l t b hc hi hp=>?_) l.length l t rfl h
  · rw[zh9 hb]
    refine⟨fun x hx=>?_,rfl⟩;rw[List.mem_singleton.1 hx];exact⟨zfa _,by show(-9223372036854775808:Int)≤1;decide,by show(1:Int)≤9223372036854775807;decide⟩
  have hlen:=(zk1 hc).2.2.1;rw[zqO hp];obtain⟨i1,i2⟩:=hi;refine⟨fun x hx=>?_,?_⟩
  · have hr:∀y∈t.p.reverse,zhH y:=fun y hy=>i1 y (by simpa using hy)
    have hg:zhH (zeM b.h):=⟨zfa _,by show(-9223372036854775808:Int)≤1;decide,by show(1:Int)≤9223372036854775807;decide⟩;refine(znR hr hg).1 x ?_;have hx:x∈zay t.p (zeM b.h):=hx;unfold zay at hx;simpa using hx
  show(zbl (zay t.p (zeM b.h))).n=_;rw[(append_sum i1).2,i2,zah ya,ue,List.length_singleton];omega
theorem zud {l:List Block} {i:Nat}:zfU (l.take i)=(zfU l).take i:=by unfold zfU;rw[List.map_take]
theorem zml {l:List Block} {t:Tip} {i:Nat} {b a g:Block} (h:Chain l t) (hi:1≤i) (hb:l[i]?=some b) (ha:l[i-1]?=some a) (hg:l[0]?=some g):b.h.height=i∧b.h.prev=zdo a.h∧b.h.past=(zbl (((zfU l).take i).foldl zay [])).h∧b.h.work=(zbl (((zfU l).take i).foldl zay [])).w∧(zbl (((zfU l).take i).foldl zay [])).n=i∧b.h.bits=g.h.bits∧b.h.links=zfR b.l∧zbG b.h=true:=by
  obtain⟨t',h1,h2,h3⟩:=chain_at h hi hb;obtain⟨hl,_⟩:=ul.1 hb;obtain⟨c1,c2,c3,c4,g',c5,c6⟩:=zk1 h1;obtain⟨_,p2,p3,p4,_⟩:=zqN.1 h2;have hlt:(l.take i).length=i:=yb7;rw[zud] at c4;rw[ha] at h3;injection h3 with h3;rw[List.getElem?_take,ut ya,hg] at c5;injection c5 with c5;rw[←c4];refine⟨?_,?_,congrArg (·.past) p2,congrArg (·.work) p2,?_,?_,?_,p4⟩
  · rw[show b.h.height=IntKind.i64.wrap (t'.b.h.height+1) from congrArg (·.height) p2,c2,hlt,zah ya];omega
  · rw[h3];exact congrArg (·.prev) p2
  · rw[(zuy h1).2,hlt]
  · rw[c5,←c6];exact congrArg (·.bits) p2
  rw[p3];exact congrArg (·.links) p2
def zc0:Block:=⟨zlP,[],[]⟩
theorem zie:zaf [zc0]=(zfw,0):=by
  unfold zaf;simp only[];have e:zar zc0.h.bits=zfw:=zwq;rw[e,ut ⟨zur,rfl⟩];rfl
theorem easy_growE:zo8 [zc0] [] 0=0:=by
  unfold zo8;rw[zie,ut rfl];exact zp0
theorem easy_grown:zkO [zc0] [] 0=[zc0,zdh]:=by
  unfold zkO;rw[easy_growE,ut rfl,zie,easy_mineB];rfl
theorem zuu:zaf [zc0,zdh]=(zwr,0):=by
  rw[show [zc0,zdh]=[zc0]++[zdh] from rfl,ztr (by rw[zie]),zie,zpZ,ut rfl,easy_pushT]
theorem zus:decide (0≤zW zdh.h)=true:=yv
theorem zl4:zgI zc0:=by refine⟨by decide,by decide,fun t ht=>by cases ht⟩
theorem zsg:zgH [zc0]:=⟨by decide,fun b hb=>by rw[List.mem_singleton.1 hb];exact zl4⟩
theorem znw:zgH [zc0,zdh]:=⟨by decide,fun b hb=>by
  rcases List.mem_cons.1 hb with h|h
  · rw[h];exact zl4
  rw[List.mem_singleton.1 h];exact ztW⟩
def fewC (l:List Block):Bool:=l.all fewB&&decide ((l.length:Int)≤50)
theorem zkZ {l:List Block} {g:Block} (h:l[0]?=some g) (h1:zbh g.h.bits=true) (h2:(zar g.h.bits).b=g):zaf l=zaB (zar g.h.bits) (l.drop 1):=by
  cases l with
  | nil=>cases h
  | cons x r =>
    injection h with h;subst h;unfold zaf;simp only[];rw[ut ⟨h1,h2⟩];rfl
theorem zcq {l:List Block} {g:Block} (h:l[0]?=some g) (h1:¬(zbh g.h.bits=true∧(zar g.h.bits).b=g)):zaf l=(zTip,12):=by
  cases l with
  | nil=>cases h
  | cons x r =>
    injection h with h;subst h;unfold zaf;simp only[];rw[ur h1]
theorem zp9 {r:List Block} {k:Nat} {b:Block} {t:Tip} (hb:r[k]?=some b) (h:zbY t b=0):zaB t (r.drop k)=zaB (zht t b) (r.drop (k+1)):=by
  obtain⟨hk,rfl⟩:=ul.1 hb;rw[List.drop_eq_getElem_cons hk,zaB,ut h]
theorem zjs {r:List Block} {k:Nat} {b:Block} {t:Tip} (hb:r[k]?=some b) (h:¬zbY t b=0):zaB t (r.drop k)=(zTip,zbY t b):=by
  obtain⟨hk,rfl⟩:=ul.1 hb;rw[List.drop_eq_getElem_cons hk,zaB,ur h]
theorem zkY {r:List Block} {k:Nat} {t:Tip} (h:r.length≤k):zaB t (r.drop k)=(t,0):=by
  rw[List.drop_of_length_le h];rfl
theorem zig {l:List Block} (h:l.length=0):zaf l=(zTip,9):=by rw[List.eq_nil_of_length_eq_zero h];rfl
def newOf (bits:UInt32):List Block:=if zbh bits=true then [(zar bits).b] else []
theorem zqS (t:Tx) (ht:ziC t):Tells P 180 [.val txT t] (.val txT t):=by
 refine zc Tryz.func180 rfl rfl rfl (fun ext w hext=>?_);refine qae ?_;refine z8 zrU rfl rfl rfl rfl ?_;refine CNQ ?_;refine zH [some 1,some 1,some 1,some 1,some 1,some 1,some 1,none] mixed yd ?_;refine X0 (oFp zcy) ?_;refine X0 (oLb zcS zfz) ?_;refine X0 (oCl (zC (cloneIn t.ins (by unfold ziC at ht;constructor<;>omega))) rfl fn_181 yc) ?_;refine X0 (oFp zcb) ?_;refine X0 (oLb zbJ zeO) ?_;refine X0 (oCl (zC (zwt t.outs (by unfold ziC at ht;constructor<;>omega))) rfl fn_182 yc) ?_;refine X0 (zB rfl zrU bd_133 (.cons zcy zcS zfz rfl (.cons zcb zbJ zeO rfl .nil)) rfl) ?_;refine XK.e (x:=.idk) (fun fr' hfr kk H=>by exact zg rfl rfl rfl ((hfr 2 yd).trans rfl) rfl (Lens.self _) zfy ((hfr 9 yd).trans rfl) (zM H)) ?_;refine XK.nil' ?_;exact zF rfl rfl rfl rfl zfy (rfl)
theorem toldTx_ok (l:List Tx) (hl:zsh l):Tells P 179 [.val (bsl txT) l,.clo 180 []] (.fresh 133 txT l):=by
 have hll:=hl.1;refine zc Tryz.func179 rfl rfl rfl (fun ext w hext=>?_);refine ze (d:=0) rfl zi (fun hsl0=>?_);refine qb0 ?_;refine A0 aL ?_;refine qbe ?_;refine qbZ ?_;refine qaP ?_;refine zbd (T:=txT) (d:=5) 133 rfl ?_;refine Lp (ι:=Nat) 1 (fun (k:Nat)=>((((((Fr.none).set 0 (.val (bsl txT) l)).set 1 (.clo 180 [])).set 5 (.own 0)).set 8 (.val (bsl txT) l)).set 9 (.val i64T (l.length:Int))).set 10 (.val i64T (k:Int))) (fun (k:Nat)=>(Hp.none).set 0 (.row 133 txT (l.take k))) (fun (k:Nat)=>k≤l.length) (fun (k:Nat)=>l.length-k) (0) (uf _) ?_;intro k hinv;refine qar ?_;refine Cf (p:=k<l.length) (fun ht11=>?_) (fun ht11=>?_)
 ·
  obtain⟨x,hx⟩:∃x,l[k]?=some x:=ybM;have hxm:=ud hx;refine CSQBQR ?_;refine qbz ?_;refine qcO ?_;refine CNR ?_;refine A0 mO ?_;refine A0 mC ?_;refine qbF ?_;refine A0 (zj2 (As:=[_]) (Cs:=[]) (zqS x (hl.2 x hxm)) rfl rfl fn_180 yc yJ trivial rfl) ?_;refine A0 (zag (T:=txT) (xs:=[_]) rfl zkq zvi yx rfl rfl) ?_;refine zo rfl rfl rfl rfl rfl rfl rfl zvi yy ?_;refine A0 aO ?_;refine qbK ?_;refine xC ?_;refine zl (n:=0) (y:=l.take (k+1)) rfl (by rw[un,hx];rfl) ?_;exact Nx (k+1) ya ya
 refine qa0 ?_;exact zd rfl rfl (zf rfl rfl yO)
theorem zt8 (b:Block) (hb:zgI b):Tells P 178 [.val zU b] (.val zU b):=by
 have hb1:=hb.1;refine zc Tryz.func178 rfl rfl rfl (fun ext w hext=>?_);refine qae ?_;refine z8 znc rfl rfl rfl rfl ?_;refine CNQR ?_;refine A0 (oFp zcO) ?_;refine A0 (oLb zbv zcG) ?_;refine A0 (oCl (zC (zlQ b.l yap)) rfl fn_74 yc) ?_;refine A0 (oFp zcO) ?_;refine zg rfl rfl rfl rfl rfl zbv zcG rfl ?_;refine CNQR ?_;refine qda ?_;refine A0 (oCl (zC (toldTx_ok b.t hb.2)) rfl fn_179 ⟨yj,(by first|exact zeI (Cs:=[]) rfl fn_180 yJ trivial rfl (fun x=>zqS _ yh)|exact zeH (Cs:=[]) rfl fn_180 yJ trivial rfl (fun x y=>zqS _ yh)|exact zeJ rfl),trivial⟩) ?_;refine A0 (oFp zgn) ?_;refine zg rfl rfl rfl rfl rfl zdU znn rfl ?_;refine CNQR ?_;refine A0 (oLs rfl rfl rfl zdJ) ?_;refine qbM ?_;refine CN ?_;exact zF rfl rfl rfl rfl zdJ (rfl)
theorem zr7 (l:List Block) (hl:zgH l):Tells P 177 [.val (bsl zU) l,.clo 178 []] (.fresh 58 zU l):=by
 have hll:=hl.1;refine zc Tryz.func177 rfl rfl rfl (fun ext w hext=>?_);refine ze (d:=0) rfl zi (fun hsl0=>?_);refine qb0 ?_;refine A0 aL ?_;refine qbe ?_;refine qcC ?_;refine qaP ?_;refine zbd (T:=zU) (d:=5) 58 rfl ?_;refine Lp (ι:=Nat) 1 (fun (k:Nat)=>((((((Fr.none).set 0 (.val (bsl zU) l)).set 1 (.clo 178 [])).set 5 (.own 0)).set 8 (.val (bsl zU) l)).set 9 (.val i64T (l.length:Int))).set 10 (.val i64T (k:Int))) (fun (k:Nat)=>(Hp.none).set 0 (.row 58 zU (l.take k))) (fun (k:Nat)=>k≤l.length) (fun (k:Nat)=>l.length-k) (0) (uf _) ?_;intro k hinv;refine qar ?_;refine Cf (p:=k<l.length) (fun ht11=>?_) (fun ht11=>?_)
 ·
  obtain⟨x,hx⟩:∃x,l[k]?=some x:=ybM;have hxm:=ud hx;refine CSQBQR ?_;refine A0 (zbH rfl rfl rfl zf6 yh) ?_;refine qdd ?_;refine CNR ?_;refine A0 mO ?_;refine A0 mC ?_;refine A0 (oLs rfl rfl rfl zdJ) ?_;refine A0 (zj2 (As:=[_]) (Cs:=[]) (zt8 x (hl.2 x hxm)) rfl rfl fn_178 yc yJ trivial rfl) ?_;refine A0 (zag (T:=zU) (xs:=[_]) rfl zf6 zsu yx rfl rfl) ?_;refine zo rfl rfl rfl rfl rfl rfl rfl zsu yy ?_;refine A0 aO ?_;refine qbK ?_;refine xC ?_;refine zl (n:=0) (y:=l.take (k+1)) rfl (by rw[un,hx];rfl) ?_;exact Nx (k+1) ya ya
 refine qa0 ?_;exact zd rfl rfl (zf rfl rfl yO)
theorem ownC_ok (l:List Block) (hl:zgH l):Tells P 126 [.val (bsl zU) l] (.fresh 58 zU l):=by
 refine zc Tryz.func126 rfl rfl rfl (fun ext w hext=>?_);refine ze (d:=0) rfl zi (fun hsl0=>?_);refine qb0 ?_;refine qau ?_;refine zaH (zr7 l hl) rfl fn_177 ⟨yj,(by first|exact zeI (Cs:=[]) rfl fn_178 yJ trivial rfl (fun x=>zt8 _ yh)|exact zeH (Cs:=[]) rfl fn_178 yJ trivial rfl (fun x y=>zt8 _ yh)|exact zeJ rfl),trivial⟩ rfl rfl rfl ?_;refine qbJ ?_;exact zd rfl rfl (zf rfl rfl rfl)
theorem zsR (b:Block):Tells P 61 [.val zU b] (.val i64T (zW b.h)):=by
 refine zc Tryz.func61 rfl rfl rfl (fun ext w hext=>?_);refine qae ?_;refine qah ?_;refine A0 (oFp zaR) ?_;refine A0 (oLb zY zaM) ?_;refine A0 (oCl (ziQ _) rfl fn_104 yc) ?_;refine qac ?_;exact zd rfl rfl yG
theorem toldInt_ok (l:List Block) (f:Block→Int) (hl:l.length≤1000000000000):Tells P 60 [.val (bsl zU) l,.fn1 P zU i64T f] (.fresh 3 i64T (l.map f)):=by
 refine zc Tryz.func60 rfl rfl rfl (fun ext w hext=>?_);refine ze (d:=0) rfl zi (fun hsl0=>?_);refine qb0 ?_;refine A0 aL ?_;refine qbe ?_;refine qcC ?_;refine qaP ?_;refine zbd (T:=i64T) (d:=5) 3 rfl ?_;refine Lp (ι:=Nat) 1 (fun (k:Nat)=>((((((Fr.none).set 0 (.val (bsl zU) l)).set 1 (.fn1 P zU i64T f)).set 5 (.own 0)).set 8 (.val (bsl zU) l)).set 9 (.val i64T (l.length:Int))).set 10 (.val i64T (k:Int))) (fun (k:Nat)=>(Hp.none).set 0 (.row 3 i64T ((l.take k).map f))) (fun (k:Nat)=>k≤l.length) (fun (k:Nat)=>l.length-k) (0) (uf _) ?_;intro k hinv;refine qar ?_;refine Cf (p:=k<l.length) (fun ht11=>?_) (fun ht11=>?_)
 ·
  obtain⟨x,hx⟩:∃x,l[k]?=some x:=ybM;have hxm:=ud hx;refine CSQBQR ?_;refine A0 (zbH rfl rfl rfl zf6 yh) ?_;refine qdd ?_;refine CNR ?_;refine A0 mO ?_;refine A0 mF ?_;refine A0 (oLs rfl rfl rfl zdJ) ?_;refine A0 (zkR rfl rfl yj) ?_;refine qcj ?_;refine A0 aO ?_;refine qbK ?_;refine xC ?_;refine zl (n:=0) (y:=(l.take (k+1)).map f) rfl (by rw[un,hx];simp) ?_;exact Nx (k+1) ya ya
 refine qa0 ?_;exact zd rfl rfl (zf rfl rfl yO)
theorem zsQ (l:List Block) (hl:l.length≤1000000000000):Tells P 25 [.val (bsl zU) l] (.fresh 3 i64T (zp l)):=by
 refine zc Tryz.func25 rfl rfl rfl (fun ext w hext=>?_);refine ze (d:=0) rfl zi (fun hsl0=>?_);refine qb0 ?_;refine qau ?_;refine zaH (toldInt_ok l (fun b=>zW b.h) hl) rfl fn_60 ⟨yj,(by first|exact zeI (Cs:=[]) rfl fn_61 yJ trivial rfl (fun x=>zsR x)|exact zeH (Cs:=[]) rfl fn_61 yJ trivial rfl (fun x y=>zsR x)|exact zeJ rfl),trivial⟩ rfl rfl rfl ?_;refine qbJ ?_;exact zd rfl rfl (zf rfl rfl rfl)
theorem zrB (l:List Block) (hl:zgH l):Tells P 26 [.val (bsl zU) l] (.tup2 (.val tipT (zaf l).1) (.val i64T (zaf l).2)):=by
 have hll:=hl.1;refine zc Tryz.func26 rfl rfl rfl (fun ext w hext=>?_);refine ze (d:=0) rfl zi (fun hsl0=>?_);refine CQR ?_;refine qcn ?_;refine qac ?_;refine zrF (ι:=Block) 2 0 rfl rfl rfl (fun (g:Block)=>((((Fr.none).set 0 (.val (bsl zU) l)).set 2 (.ptr 0 0)).set 4 (.ptr 1 0)).set 6 (.val i64T 0)) (fun (g:Block)=>((Hp.none).set 0 (.box 65 tipT zTip)).set 1 (.box 65 tipT (zar g.h.bits))) (fun (g:Block)=>l[0]?=some g∧zbh g.h.bits=true∧(zar g.h.bits).b=g) (fun (g:Block)=>0) ?_ (fun hreach=>?_)
 ·
  intro g hinv;have hl1:=(ul.1 hinv.1).1;refine qaF ?_;refine A0 (ziT rfl rfl rfl zf6 yg) ?_;refine qcC ?_;refine qaP ?_;refine Lp (ι:=Nat×Tip) 2 (fun(k,t)=>((((((Fr.none.set 0 (.val (bsl zU) l)).set 2 (.ptr 0 0)).set 4 (.ptr 1 0)).set 6 (.val i64T 0)).set 35 (.val (bsl zU) (l.drop 1))).set 36 (.val i64T ((l.drop 1).length:Int))).set 37 (.val i64T (k:Int))) (fun(k,t)=>(Hp.none.set 0 (.box 65 tipT zTip)).set 1 (.box 65 tipT t)) (fun(k,t)=>k≤(l.drop 1).length∧zpp t k∧zaf l=zaB t ((l.drop 1).drop k)) (fun(k,t)=>(l.drop 1).length-k) ((0,zar g.h.bits)) (⟨uf _,zj4,zkZ hinv.1 hinv.2.1 hinv.2.2⟩) ?_;intro⟨k,t⟩ hin;dsimp only at hin;refine qar ?_;refine Cf (p:=k<(l.drop 1).length) (fun ht38=>?_) (fun ht38=>?_)
  ·
   have hk38:k<l.length:=by rw[List.length_drop] at ht38;omega
   obtain⟨b,hb⟩:∃b,(l.drop 1)[k]?=some b:=⟨_,ub ht38⟩;have hbm:=hl.2 b (List.mem_of_mem_drop (ud hb));refine CSQBQR ?_;refine A0 (zr (i:=k) rfl rfl rfl ya zf6 yh) ?_;refine qdd ?_;refine CNQR ?_;refine xf ?_;refine A0 (oLs rfl rfl rfl zdJ) ?_;refine A0 (oCl (push_ok t b hin.2.1.1 hbm) rfl fn_64 ye) ?_;refine qa6 ?_;refine qat ?_;refine qaA ?_;refine qaO ?_;refine zq (p:=¬zbY t b=0) rfl yN (fun ht48=>?_) (fun ht48=>?_)
   ·
    refine CE ?_;refine qaF ?_;refine qaO ?_;refine zkb rfl (by simpa [IntL.toI] using ht48) ?_;refine CQR ?_;refine xF ?_;refine qau ?_;refine qat ?_;refine qac ?_;exact zn rfl rfl (zt rfl rfl zbt (by rw[hin.2.2,zjs hb ht48])) (zS (za rfl (by rw[hin.2.2,zjs hb ht48])))
   refine qcp ?_;refine zj (d:=6) (y:=(0:Int)) rfl (ua ht48) ?_;exact Nx ((k+1,zht t b)) (⟨by omega,zjX hin.2.1 (by rw[List.length_drop] at ht38;omega) hbm (ua ht48),hin.2.2.trans (zp9 hb (ua ht48))⟩) (by show(l.drop 1).length-(k+1)<(l.drop 1).length-k;omega)
  refine CE ?_;refine qaF ?_;refine qaO ?_;refine Cg ?_;refine CSQR ?_;refine xf ?_;refine qat ?_;refine qac ?_;exact zn rfl rfl (zt rfl rfl zbt (by rw[hin.2.2,zkY ya])) (zS (za rfl (by rw[hin.2.2,zkY ya])))
 refine qaF ?_;refine qcC ?_;refine A0 zbZ ?_;refine CN ?_;refine Cf (p:=l.length=0) (fun ht11=>?_) (fun ht11=>?_)
 ·
  refine CQR ?_;refine xF ?_;refine qat ?_;refine qac ?_;exact zn rfl rfl (zt rfl rfl zbt (by rw[zig ht11])) (zS (za rfl (by rw[zig ht11])))
 obtain⟨g,hg⟩:∃g,l[0]?=some g:=yq;refine qbw ?_;refine A0 (zr (i:=0) rfl rfl rfl ya zf6 yh) ?_;refine A0 (oFr zaR zY) ?_;refine A0 (oFr zce zaq) ?_;refine A0 (zh rfl rfl zbp) ?_;refine A0 (oCl (zow g.h.bits) rfl fn_62 ycg) ?_;refine qa6 ?_;refine qcn ?_;refine qat ?_;refine qaY ?_;refine qaG ?_;refine G0 mV ?_;refine G0 oN ?_;refine G0 mV ?_;refine zbW (d:=24) (p:=¬zbh g.h.bits=true) rfl (by cases zbh g.h.bits<;>rfl) (fun g24=>?_) (fun g24=>?_)
 ·
  refine qal ?_;refine G2 ?_;refine qcg ?_;refine Ct ?_;refine CQR ?_;refine xF ?_;refine qat ?_;refine qac ?_;exact zn rfl rfl (zt rfl rfl zbt (by rw[zcq hg fun h=>g24 h.1])) (zS (za rfl (by rw[zcq hg fun h=>g24 h.1])))
 refine G1 (oFp zfr) ?_;refine G1 (oLb zcu zdJ) ?_;refine G1 mV ?_;refine G1 (zr (i:=0) rfl rfl rfl ya zf6 yh) ?_;refine G1 (zh rfl rfl zdJ) ?_;refine G1 (oCl (sameB_ok _ _) rfl fn_63 ycj) ?_;refine G1 oN ?_;refine qcg ?_;refine zq (p:=¬(zar g.h.bits).b=g) rfl yw (fun ht32=>?_) (fun ht32=>?_)
 ·
  refine CQR ?_;refine xF ?_;refine qat ?_;refine qac ?_;exact zn rfl rfl (zt rfl rfl zbt (by rw[zcq hg fun h=>ht32 h.2])) (zS (za rfl (by rw[zcq hg fun h=>ht32 h.2])))
 refine CSQR ?_;refine qaY ?_;exact zrI hreach (g) rfl (⟨hg,ua g24,ua ht32⟩) rfl (by (repeat refine Fr.le_set ?_ ybn);exact Fr.le_none _) (by (repeat refine Hp.le_set ?_ rfl);exact Hp.le_none _) (by (repeat refine Fr.below_setB ?_ rfl);exact Fr.below_none _) (by (repeat refine Hp.below_set ?_ yn);exact Hp.below_none _)
theorem newC_ok (bits:UInt32):Tells P 71 [.val u32T bits] (.tup2 (.val (sl zU) (newOf bits)) (.val zs (zbh bits))):=by
 refine zc Tryz.func71 rfl rfl rfl (fun ext w hext=>?_);refine qap ?_;refine qaA ?_;refine A0 (oCl (zow bits) rfl fn_62 yc) ?_;refine qa6 ?_;refine qcn ?_;refine qat ?_;refine qaj ?_;refine qaJ ?_;refine zq (p:=¬zbh bits=true) rfl (by cases zbh bits<;>rfl) (fun ht12=>?_) (fun ht12=>?_)
 ·
  refine qaT ?_;exact zx rfl rfl (by unfold newOf;rw[ur ht12];exact zcK rfl) (za rfl (by simpa using ht12))
 refine CSQR ?_;refine A0 (oFp zfr) ?_;refine A0 (oLb zcu zdJ) ?_;refine A0 (zag (T:=zU) (xs:=[_]) rfl zf6 zsu yx rfl rfl) ?_;refine qaI ?_;exact zx rfl rfl (za rfl (by unfold newOf;rw[ut (ua ht12)])) (za rfl (ua ht12).symm)
theorem growC_ok (l:List Block) (t:List Tx) (nonce:UInt64) (hl:zgH l) (ht:zsh t):Tells P 72 [.val (bsl zU) l,.val (sl txT) t,.val u64T nonce] (.tup2 (.fresh 58 zU (zkO l t nonce)) (.val i64T (zo8 l t nonce))):=by
 have hll:=hl.1;refine zc Tryz.func72 rfl rfl rfl (fun ext w hext=>?_);refine ze (d:=0) rfl zi (fun hsl0=>?_);refine ze (d:=1) rfl zi (fun hsl1=>?_);refine qap ?_;refine qaA ?_;refine zaH (ownC_ok l hl) rfl fn_126 yc rfl rfl rfl ?_;refine A0 aO ?_;refine qcZ ?_;refine A0 (oCl (zrB l hl) rfl fn_26 yc) ?_;refine qa6 ?_;refine qcn ?_;refine qat ?_;refine qaj ?_;refine qaO ?_;refine zq (p:=¬(zaf l).2=0) rfl yN (fun ht20=>?_) (fun ht20=>?_)
 ·
  have hE:zo8 l t nonce=(zaf l).2:=by unfold zo8;rw[ur ht20]
  have hG:zkO l t nonce=l:=by unfold zkO;rw[hE,ur ht20]
  refine qcb ?_;refine qau ?_;refine qcl ?_;exact zx rfl rfl (zf rfl rfl (by rw[hG])) (za rfl hE.symm)
 refine CSQR ?_;refine xf ?_;refine qad ?_;refine A0 (oCl (mineB_ok (zaf l).1 t nonce 200 (zux hl) ht) rfl fn_127 y5) ?_;refine qa6 ?_;refine z8 znc rfl rfl rfl rfl ?_;refine qbM ?_;refine qaj ?_;refine qaO ?_;refine zq (p:=¬zfD (zaf l).1 t nonce 200=0) rfl yN (fun ht31=>?_) (fun ht31=>?_)
 ·
  have hE:zo8 l t nonce=zfD (zaf l).1 t nonce 200:=by unfold zo8;rw[ut (ua ht20)]
  have hG:zkO l t nonce=l:=by unfold zkO;rw[hE,ur ht31]
  refine qcb ?_;refine qau ?_;refine qcl ?_;exact zx rfl rfl (zf rfl rfl (by rw[hG])) (za rfl hE.symm)
 have hE:zo8 l t nonce=0:=by unfold zo8;rw[ut (ua ht20)];exact ua ht31
 have hG:zkO l t nonce=l++[zsP (zaf l).1 t nonce 200]:=by unfold zkO;rw[ut hE]
 refine CSQR ?_;refine A0 mO ?_;refine A0 (oLs rfl rfl rfl zdJ) ?_;refine A0 (zag (T:=zU) (xs:=[_]) rfl zf6 zsu yx rfl rfl) ?_;refine zo rfl rfl rfl rfl rfl rfl rfl zsu yy ?_;refine qcl ?_;exact zx rfl rfl (zf rfl rfl (by rw[hG])) (za rfl hE.symm)
theorem zpA (l:List Block) (hl:l.length≤1000000000000):Tells P 39 [.val (bsl zU) l] (.fresh 3 i64T (zp l)):=by
 refine zc Tryz.func39 rfl rfl rfl (fun ext w hext=>?_);refine ze (d:=0) rfl zi (fun hsl0=>?_);refine qb0 ?_;refine A0 aL ?_;refine qaw ?_;refine zbd (T:=i64T) (d:=3) 3 rfl ?_;refine Lp (ι:=Nat) 1 (fun (k:Nat)=>(((Fr.none).set 0 (.val (bsl zU) l)).set 3 (.own 0)).set 4 (.val i64T (k:Int))) (fun (k:Nat)=>(Hp.none).set 0 (.row 3 i64T (zp (l.take k)))) (fun (k:Nat)=>k≤l.length) (fun (k:Nat)=>l.length-k) (0) (uf _) ?_;intro k hinv;refine qaW ?_;refine qcC ?_;refine qav ?_;refine Cf (p:=k<l.length) (fun ht8=>?_) (fun ht8=>?_)
 ·
  obtain⟨x,hx⟩:∃x,l[k]?=some x:=⟨_,ub ht8⟩;refine qa8 ?_;refine qbE ?_;refine qad ?_;refine A0 (zr (i:=k) rfl rfl rfl ya zf6 yh) ?_;refine A0 (oFr zaR zY) ?_;refine A0 (zh rfl rfl zaM) ?_;refine A0 (oCl (zhS x.h) rfl fn_83 ycg) ?_;refine qaC ?_;refine zo rfl rfl rfl rfl rfl rfl rfl zeQ (by simp[zp];omega) ?_;refine qcH ?_;refine qbx ?_;refine zl (n:=0) (y:=zp (l.take (k+1))) rfl (by unfold zp;rw[un,hx];simp) ?_;exact Nx (k+1) ya ya
 refine qa0 ?_;exact zd rfl rfl (zf rfl rfl yO)
theorem rcheck_ok (l:List Block) (hl:zgH l):Tells P 75 [.val (bsl zU) l] (.tup2 (.val tipT (zaf l).1) (.val i64T (zaf l).2)):=by
 have hll:=hl.1;refine zc Tryz.func75 rfl rfl rfl (fun ext w hext=>?_);refine ze (d:=0) rfl zi (fun hsl0=>?_);refine CQR ?_;refine qcn ?_;refine qaj ?_;refine qcC ?_;refine A0 zbZ ?_;refine CN ?_;refine Cf (p:=l.length=0) (fun ht12=>?_) (fun ht12=>?_)
 ·
  refine CQR ?_;refine xF ?_;refine qat ?_;refine qac ?_;exact zn rfl rfl (zt rfl rfl zbt (by rw[zig ht12])) (zS (za rfl (by rw[zig ht12])))
 obtain⟨g,hg⟩:∃g,l[0]?=some g:=yq;refine qbw ?_;refine A0 (zr (i:=0) rfl rfl rfl ya zf6 yh) ?_;refine A0 (oFr zaR zY) ?_;refine A0 (oFr zce zaq) ?_;refine A0 (zh rfl rfl zbp) ?_;refine A0 (oCl (zsC g.h.bits) rfl fn_128 ycg) ?_;refine qa6 ?_;refine qcn ?_;refine qat ?_;refine qcU ?_;refine G0 (oFp zfr) ?_;refine G0 (oLb zcu zdJ) ?_;refine G0 mV ?_;refine G0 (zr (i:=0) rfl rfl rfl ya zf6 yh) ?_;refine G0 (zh rfl rfl zdJ) ?_;refine G0 (oCl (refB_ok (zar g.h.bits).b g) rfl fn_129 ycj) ?_;refine qaV ?_;refine qaF ?_;refine A0 oN ?_;refine qau ?_;refine zX (d:=31) (p:=¬zbh g.h.bits=true) rfl (by cases zbh g.h.bits<;>rfl) (fun g31=>?_) (fun g31=>?_)
 ·
  refine qbB ?_;refine qao ?_;refine Ct ?_;refine CQR ?_;refine xF ?_;refine qat ?_;refine qac ?_;exact zn rfl rfl (zt rfl rfl zbt (by rw[zcq hg fun h=>g31 h.1])) (zS (za rfl (by rw[zcq hg fun h=>g31 h.1])))
 refine A1 mV ?_;refine A1 oN ?_;refine qao ?_;refine zq (p:=¬(zar g.h.bits).b=g) rfl yw (fun ht34=>?_) (fun ht34=>?_)
 ·
  refine CQR ?_;refine xF ?_;refine qat ?_;refine qac ?_;exact zn rfl rfl (zt rfl rfl zbt (by rw[zcq hg fun h=>ht34 h.2])) (zS (za rfl (by rw[zcq hg fun h=>ht34 h.2])))
 refine CSQQR ?_;refine qbQ ?_;refine Lp (ι:=Nat×Tip) 2 (fun (i:Nat×Tip)=>match i with|(k,t)=>((((Fr.none).set 0 (.val (bsl zU) l)).set 2 (.ptr 0 0)).set 4 (.ptr 1 0)).set 7 (.val i64T ((k+1:Nat):Int))) (fun (i:Nat×Tip)=>match i with|(k,t)=>((Hp.none).set 0 (.box 65 tipT zTip)).set 1 (.box 65 tipT t)) (fun (i:Nat×Tip)=>match i with|(k,t)=>k+1≤l.length∧zpp t k∧zaf l=zaB t ((l.drop 1).drop k)) (fun (i:Nat×Tip)=>match i with|(k,t)=>l.length-k) ((0,zar g.h.bits)) (⟨by omega,zj4,zkZ hg (ua g31) (ua ht34)⟩) ?_;intro⟨k,t⟩ hin;dsimp only at hin;refine qaW ?_;refine qcC ?_;refine qav ?_;refine Cf (p:=k+1<l.length) (fun ht39=>?_) (fun ht39=>?_)
 ·
  have hb0:∃b,l[k+1]?=some b:=⟨_,ub ht39⟩;obtain⟨b,hb0⟩:=hb0;have hb:(l.drop 1)[k]?=some b:=by rw[List.getElem?_drop,Nat.add_comm];exact hb0
  have hbm:=hl.2 b (ud hb0);have hbt:=hbm.2.1;have hpl:=hin.2.1.2.1;have hpl2:=hin.2.1.1.2.1;refine qa8 ?_;refine CQ ?_;refine zH [some 1000001,some 1000001,some 1000001,some 1000001,some 1000001,some 1000001,some 1000001,some 1000001,some 1000001,none,none,some 1] mixed yd ?_;refine XK.gf (t:=4) rfl rfl (fun _ he=>zy rfl rfl he (Lens.self _) zbt) ⟨rfl,trivial⟩ rfl rfl rfl ?_;refine XK.ga (fun _=>g_mv (.inl rfl) rfl) rfl rfl rfl ?_;refine XK.ga (fun _=>g_mv (.inl rfl) rfl) rfl rfl rfl ?_;refine XK.ga (fun _=>zr (i:=k+1) rfl rfl rfl ya zf6 yh) rfl rfl rfl ?_;refine XK.ga (fun _=>zh rfl rfl zdJ) rfl rfl rfl ?_;refine XK.ga (fun _=>zdC (rpush_ok t b ya ya) rfl fn_130 ycj rfl) rfl rfl rfl ?_;refine XK.ga yo rfl rfl rfl ?_;refine XK.ga yaj rfl rfl rfl ?_;refine xy ?_;refine XK.e (fun fr' hfr kk H=>by exact z8 zjA rfl rfl rfl rfl (zM H)) ?_;refine XK.e (x:=.idk) (fun fr' hfr kk H=>by exact zg rfl rfl rfl ((hfr 8 yd).trans rfl) rfl (Lens.self _) zbt ((hfr 49 yd).trans rfl) (zM H)) ?_;refine X0 aV ?_;refine XK.nilp ⟨yx,trivial⟩ ?_;refine qaF ?_;refine qaO ?_;refine zq (p:=¬zbY t b=0) rfl yN (fun ht52=>?_) (fun ht52=>?_)
  ·
   refine CQR ?_;refine xF ?_;refine qau ?_;refine qat ?_;refine qac ?_;exact zn rfl rfl (zt rfl rfl zbt (by rw[hin.2.2,zjs hb ht52])) (zS (za rfl (by rw[hin.2.2,zjs hb ht52])))
  refine CS ?_;refine CR ?_;refine xf ?_;refine qat ?_;refine qaK ?_;exact Nx ((k+1,zht t b)) (⟨by omega,zjX hin.2.1 ya hbm (ua ht52),hin.2.2.trans (zp9 hb (ua ht52))⟩) yao
 refine CE ?_;refine qba ?_;exact zn rfl rfl (zt rfl rfl zbt (by rw[hin.2.2,zkY yaF])) (zS (za rfl (by rw[hin.2.2,zkY yaF])))
def sortI_ren:Go.Shelf.Ren:=⟨fun|189=>102|125=>155|257=>154|128=>214|129=>215|294=>206|295=>207|296=>208|297=>209|298=>210|299=>211|216=>77|300=>212|301=>213|328=>263|329=>264|330=>265|331=>266|332=>267|215=>132|343=>307|n=>n,fun|28=>41|3=>3|46=>135|0=>0|51=>50|53=>47|4=>4|183=>250|182=>249|131=>79|5=>5|9=>9|218=>286|222=>290|228=>326|229=>327|n=>n,fun|n=>n⟩
theorem sortI:Go.Proofs.Lays.n189 P sortI_ren:={
  mixed:=by kernel_rfl,
  f125:=Tryz.func155.trans (congrArg some yv),
  f128:=Tryz.func214.trans (congrArg some yv),
  f129:=Tryz.func215.trans (congrArg some yv),
  f189:=Tryz.func102.trans (congrArg some yv),
  f215:=Tryz.func132.trans (congrArg some yv),
  f216:=Tryz.func77.trans (congrArg some yv),
  f257:=Tryz.func154.trans (congrArg some yv),
  f294:=Tryz.func206.trans (congrArg some yv),
  f295:=Tryz.func207.trans (congrArg some yv),
  f296:=Tryz.func208.trans (congrArg some yv),
  f297:=Tryz.func209.trans (congrArg some yv),
  f298:=Tryz.func210.trans (congrArg some yv),
  f299:=Tryz.func211.trans (congrArg some yv),
  f300:=Tryz.func212.trans (congrArg some yv),
  f301:=Tryz.func213.trans (congrArg some yv),
  f328:=Tryz.func263.trans (congrArg some yv),
  f329:=Tryz.func264.trans (congrArg some yv),
  f330:=Tryz.func265.trans (congrArg some yv),
  f331:=Tryz.func266.trans (congrArg some yv),
  f332:=Tryz.func267.trans (congrArg some yv),
  f343:=Tryz.func307.trans (congrArg some yv),
  t0:=Tryz.underlying0,
  a0:=Tryz.isAgg0,
  z0:=Tryz.sizeOf0,
  v0:=Tryz.zeroValue0,
  t3:=Tryz.underlying3,
  a3:=Tryz.isAgg3,
  z3:=Tryz.sizeOf3,
  v3:=Tryz.zeroValue3,
  t4:=Tryz.underlying4,
  a4:=Tryz.isAgg4,
  z4:=Tryz.sizeOf4,
  v4:=Tryz.zeroValue4,
  t5:=Tryz.underlying5,
  a5:=Tryz.isAgg5,
  z5:=Tryz.sizeOf5,
  v5:=Tryz.zeroValue5,
  t9:=Tryz.underlying9,
  a9:=Tryz.isAgg9,
  z9:=Tryz.sizeOf9,
  v9:=Tryz.zeroValue9,
  t28:=Tryz.underlying41,
  a28:=Tryz.isAgg41,
  z28:=Tryz.sizeOf41,
  v28:=Tryz.zeroValue41,
  t46:=Tryz.underlying135,
  a46:=Tryz.isAgg135,
  z46:=Tryz.sizeOf135,
  v46:=Tryz.zeroValue135,
  t51:=Tryz.underlying50,
  a51:=Tryz.isAgg50,
  z51:=Tryz.sizeOf50,
  v51:=Tryz.zeroValue50,
  t53:=Tryz.underlying47,
  a53:=Tryz.isAgg47,
  z53:=Tryz.sizeOf47,
  v53:=Tryz.zeroValue47,
  t131:=Tryz.underlying79,
  a131:=Tryz.isAgg79,
  z131:=Tryz.sizeOf79,
  v131:=Tryz.zeroValue79,
  t182:=Tryz.underlying249,
  a182:=Tryz.isAgg249,
  z182:=Tryz.sizeOf249,
  v182:=Tryz.zeroValue249,
  t183:=Tryz.underlying250,
  a183:=Tryz.isAgg250,
  z183:=Tryz.sizeOf250,
  v183:=Tryz.zeroValue250,
  t218:=Tryz.underlying286,
  a218:=Tryz.isAgg286,
  z218:=Tryz.sizeOf286,
  v218:=Tryz.zeroValue286,
  t222:=Tryz.underlying290,
  a222:=Tryz.isAgg290,
  z222:=Tryz.sizeOf290,
  v222:=Tryz.zeroValue290,
  t228:=Tryz.underlying326,
  a228:=Tryz.isAgg326,
  z228:=Tryz.sizeOf326,
  v228:=Tryz.zeroValue326,
  t229:=Tryz.underlying327,
  a229:=Tryz.isAgg327,
  z229:=Tryz.sizeOf327,
  v229:=Tryz.zeroValue327 }
theorem zpo (l:List Int) (hn:l.length<1000000000):zfl P 102 (.row 3 i64T l) [.own 0] (.lit (.tuple #[])) (.row 3 i64T (za4 l)):=ztU sortI hn
def mayV (v:List Int):Bool:=decide (0<v.length∧v.length≤200∧v[0]?=some 31) && !(v.any fun n=>decide (n<0∨31<n))
def mayP (v:List Int) (m k:Int):Bool:=mayV v&&decide (1≤m∧1≤k∧k<v.length)
def upR (v:List Int) (n:Int) (a i:Nat):List Int:=((List.range' a (i-a)).filter fun j:Nat=>decide (n≤v.getD j 0)).map fun j:Nat=>(j:Int)
def upOf (v:List Int) (a b n:Int):List Int:=upR v n (max a 0).toNat (min b v.length).toNat
theorem zpi (v:List Int) (n:Int) (a i:Nat):(upR v n a i).length≤i-a:=by
  unfold upR;rw[List.length_map];exact Nat.le_trans (List.length_filter_le _ _) yw
theorem znl (v:List Int) (a b n:Int):(upOf v a b n).length≤v.length:=Nat.le_trans (zpi ..) ya
theorem zuZ (v:List Int) (n:Int) (a:Nat):upR v n a a=[]:=by unfold upR;simp
theorem zuY {v:List Int} {n x:Int} {a i:Nat} (hx:v[i]?=some x) (ha:a≤i):upR v n a (i+1)=upR v n a i++(if n≤x then [(i:Int)] else []):=by
  unfold upR;rw[show i+1-a=(i-a)+1 by omega,List.range'_1_concat,show a+(i-a)=i by omega,List.filter_append,List.map_append];congr 1
  have:v.getD i 0=x:=by simp[hx]
  by_cases c:n≤x<;>simp[c,hx]
theorem upR_yes {v:List Int} {n x:Int} {a i:Nat} (hx:v[i]?=some x) (ha:a≤i) (h:n≤x):upR v n a (i+1)=upR v n a i++[(i:Int)]:=by rw[zuY hx ha,ut h]
theorem upR_no {v:List Int} {n x:Int} {a i:Nat} (hx:v[i]?=some x) (ha:a≤i) (h:¬n≤x):upR v n a (i+1)=upR v n a i:=by rw[zuY hx ha,ur h,List.append_nil]
theorem zr1 {v:List Int} {n:Int} {a i:Nat} (h:i≤a):upR v n a i=[]:=by unfold upR;rw[show i-a=0 by omega];rfl
theorem upOf_end {v:List Int} {a b n:Int} {i:Nat} (h1:(max a 0).toNat≤i) (h2:(i:Int)≤min b v.length∨i=(max a 0).toNat) (h3:¬(i:Int)<min b v.length):upR v n (max a 0).toNat i=upOf v a b n:=by
  unfold upOf;by_cases c:(i:Int)=min b v.length
  · rw[show(min b v.length).toNat=i by omega]
  rw[zr1 ya,zr1 ya]
theorem mem_upR {v:List Int} {n:Int} {a i:Nat} {x:Int}:x∈upR v n a i↔∃j:Nat,x=j∧a≤j∧j<i∧n≤v.getD j 0:=by
  unfold upR;simp only[List.mem_map,List.mem_filter,List.mem_range'_1,uj]
  constructor
  · rintro ⟨j,⟨h1,h2⟩,rfl⟩;exact⟨j,rfl,h1.1,by omega,h2⟩
  rintro ⟨j,rfl,h1,h2,h3⟩;exact⟨j,⟨⟨h1,by omega⟩,h3⟩,rfl⟩
theorem zec {v:List Int} {a b n x:Int}:x∈upOf v a b n↔∃j:Nat,x=j∧a≤j∧(j:Int)<b∧j<v.length∧n≤v.getD j 0:=by
  unfold upOf;rw[mem_upR]
  constructor
  · rintro ⟨j,rfl,h1,h2,h3⟩;exact⟨j,rfl,by omega,by omega,by omega,h3⟩
  rintro ⟨j,rfl,h1,h2,h3,h4⟩;exact⟨j,rfl,by omega,by omega,h4⟩
def zaA (v:List Int) (m k:Int):Nat→Int×List Int
  | 0=>(0,[])
  | i+1 =>
    (if m<(upOf v (zaA v m k i).1 ((v.length:Int)-k) (31-(i:Int))).length then (upOf v (zaA v m k i).1 ((v.length:Int)-k) (31-(i:Int))).getD ((upOf v (zaA v m k i).1 ((v.length:Int)-k) (31-(i:Int))).length-m.toNat) 0 else (zaA v m k i).1,
      (upOf v (zaA v m k i).1 ((v.length:Int)-k) (31-(i:Int))).foldl zdA (zaA v m k i).2)
def zai (v:List Int) (m k:Int):List Int×Bool:=if mayP v m k=true then (za4 (zaA v m k 32).2,true) else ([],false)
theorem zdP {v L:List Int} {m k c:Int} {i:Nat} (hL:L=upOf v (zaA v m k i).1 ((v.length:Int)-k) (31-(i:Int))) (hc:L[L.length-m.toNat]?=some c) (h:m<L.length):c=(zaA v m k (i+1)).1:=by
  show c=if _ then _ else _
  rw[←hL,ut h];simp[hc]
theorem zeC {v L:List Int} {m k:Int} {i:Nat} (hL:L=upOf v (zaA v m k i).1 ((v.length:Int)-k) (31-(i:Int))) (h:¬m<L.length):(zaA v m k i).1=(zaA v m k (i+1)).1:=by
  show _=if _ then _ else _
  rw[←hL,ur h]
theorem zgk:∀(L K:List Int) (x:Int),x∈L.foldl zdA K↔x∈K∨x∈L
  | [],K,x=>by simp
  | y::L,K,x=>by rw[List.foldl_cons,zgk L,mem_setAdd,List.mem_cons];exact⟨fun h=>by rcases h with (h|h)|h<;>simp[h],fun h=>by rcases h with h|h|h<;>simp[h]⟩
theorem zpT:∀(L K:List Int),K.Nodup→(L.foldl zdA K).Nodup
  | [],K,h=>h
  | y::L,K,h=>zpT L _ (zsj h)
theorem zcY {v:List Int} {m k:Int} (h:mayP v m k=true):mayV v=true∧1≤m∧1≤k∧k<v.length:=by
  unfold mayP at h;rw[uk,uj] at h;exact h
theorem zet {v:List Int} (h:mayV v=true):0<v.length∧v.length≤200∧v[0]?=some 31∧∀n∈v,0≤n∧n≤31:=by
  unfold mayV at h;rw[uk,uj,Bool.not_eq_true',List.any_eq_false] at h;refine⟨h.1.1,h.1.2.1,h.1.2.2,fun n hn=>?_⟩
  have:=h.2 n hn
  rw[uj] at this;omega
theorem zfQ {v:List Int} {m k:Int} (h:mayP v m k=true):1≤m∧1≤k∧k<v.length∧v.length≤200:=⟨(zcY h).2.1,(zcY h).2.2.1,(zcY h).2.2.2,(zet (zcY h).1).2.1⟩
theorem zjr {v:List Int} {m k:Int} (h:mayP v m k=true):∀i:Nat,i≤32→(0≤(zaA v m k i).1∧(zaA v m k i).1<v.length)∧(zaA v m k i).2.Nodup∧∀x∈(zaA v m k i).2,0≤x∧x<(v.length:Int)-k
  | 0,_=>by
    have:=zfQ h
    exact⟨⟨Int.le_refl _,by show(0:Int)<_;omega⟩,List.nodup_nil,fun x hx=>by cases hx⟩
  | i+1,hi=>by
    obtain⟨h1,h2,h3⟩:=zjr h i ya;have hl:=zfQ h;obtain⟨L,hL⟩:∃L,L=upOf v (zaA v m k i).1 ((v.length:Int)-k) (31-(i:Int)):=⟨_,rfl⟩;have hm:∀x∈L,0≤x∧x<(v.length:Int)-k:=fun x hx=>by
      rw[hL] at hx;obtain⟨j,rfl,_,h5,_⟩:=zec.1 hx;omega
    refine⟨?_,?_,?_⟩
    · by_cases c:m<L.length
      · obtain⟨z,hz⟩:∃z,L[L.length-m.toNat]?=some z:=yq
        rw[←zdP hL hz c]
        have:=hm z (ud hz)
        omega
      rw[←zeC hL c];exact h1
    · show(List.foldl zdA _ _).Nodup
      exact zpT _ _ h2
    intro x hx;have hx:x∈(upOf v (zaA v m k i).1 ((v.length:Int)-k) (31-(i:Int))).foldl zdA (zaA v m k i).2:=hx;rw[←hL,zgk] at hx;exact hx.elim (h3 x) (hm x)
theorem zlK {α:Type} (p:α→Bool):∀l:List α,l.length=(l.filter p).length+(l.filter fun x=>!p x).length
  | []=>rfl
  | x::l=>by
    have:=zlK p l
    cases h:p x<;>simp[h,this]<;>omega
theorem zmT:∀{n:Nat} {l:List Nat},l.Nodup→(∀i∈l,i<n)→l.length≤n
  | 0,[],_,_=>ug _
  | 0,x::l,_,h=>absurd (h x (List.mem_cons_self ..)) (Nat.not_lt_zero _)
  | n+1,l,hd,h=>by
    have h1:(l.filter fun i=>decide (i≠n)).length≤n:=zmT (hd.sublist List.filter_sublist) (fun i hi=>by
      rw[List.mem_filter] at hi
      have:=h i hi.1
      have:=of_decide_eq_true hi.2
      omega)
    have h2:(l.filter fun i=>!decide (i≠n)).length≤1:=by
      have hs:(l.filter fun i=>!decide (i≠n)).Nodup:=hd.sublist List.filter_sublist
      match hf:l.filter (fun i=>!decide (i≠n)) with
      | []=>simp
      | [_]=>simp
      | a::b::_ =>
        rw[hf] at hs;have ha:a∈l.filter fun i=>!decide (i≠n):=by rw[hf];simp
        have hb:b∈l.filter fun i=>!decide (i≠n):=by rw[hf];simp
        simp only[List.mem_filter,Bool.not_eq_true',decide_eq_false_iff_not,Decidable.not_not] at ha hb;simp[ha.2,hb.2] at hs
    have h3:=zlK (fun i=>decide (i≠n)) l;omega
theorem seen_step {K:List Int} {seen:List Nat} {i:Nat} {v:Int} (hs:seen.Nodup∧∀i∈seen,i<K.length) (hv:K[i]?=some v) (hi:i∉seen) :
    ((seen++[i]).Nodup∧∀j∈seen++[i],j<K.length)∧K.length-(seen++[i]).length<K.length-seen.length∧seen.length<K.length:=by
  have h1:(seen++[i]).Nodup∧∀j∈seen++[i],j<K.length:=⟨List.nodup_append.2 ⟨hs.1,by simp,fun a ha b hb=>by simp at hb;subst hb;exact fun e=>hi (e▸ha)⟩,fun j hj=>by
    rcases List.mem_append.1 hj with h|h
    · exact hs.2 j h
    simp at h;subst h;exact(ul.1 hv).1⟩
  have h2:=zmT h1.1 h1.2;simp only[ue,List.length_cons,List.length_nil] at h2;exact⟨h1,by simp;omega,by omega⟩
theorem seen_all {K:List Int} {seen:List Nat} (hs:seen.Nodup∧∀i∈seen,i<K.length) (h:∀i,i<K.length→i∈seen):(seen.map fun i=>K.getD i 0).Perm K:=by
  have h1:seen.Perm (List.range K.length):=(List.perm_ext_iff_of_nodup hs.1 List.nodup_range).2 fun i=>by rw[List.mem_range];exact⟨hs.2 i,h i⟩
  refine(h1.map _).trans ?_
  have:(List.range K.length).map (fun i=>K.getD i 0)=K:=by
    apply List.ext_getElem?;intro i;rw[List.getElem?_map];by_cases c:i<K.length
    · rw[List.getElem?_range c,ub c];simp[c]
    rw[List.getElem?_eq_none yb5,List.getElem?_eq_none ya];rfl
  rw[this]
theorem zmC {l:List Int} {x:Int}:x∈za4 l↔x∈l:=(List.mergeSort_perm l _).mem_iff
theorem zhO (l:List Int):(za4 l).Pairwise fun a b=>a≤b:=by
  have:=List.pairwise_mergeSort (le:=fun x y:Int=>decide (x≤y)) (fun a b c h1 h2=>by simp at *;omega) (fun a b=>by simp;omega) l
  exact this.imp fun h=>of_decide_eq_true h
theorem sort_perm {l r:List Int} (h:l.Perm r):za4 l=za4 r :=
  (((List.mergeSort_perm l _).trans h).trans (List.mergeSort_perm r _).symm).eq_of_pairwise (fun a b _ _ h1 h2=>Int.le_antisymm h1 h2) (zhO l) (zhO r)
theorem zmk {v K:List Int} {m k a:Int} (h:(0≤a∧a<v.length)∧K.Nodup∧∀x∈K,0≤x∧x<(v.length:Int)-k) (hl:1≤m∧1≤k∧k<v.length∧v.length≤200):K.length≤200:=by
  have h1:(K.map Int.toNat).length≤v.length:=zmT (by
    rw[List.Nodup,List.pairwise_map];exact h.2.1.imp_of_mem fun {a b} ha hb hne=>by
      have:=h.2.2 a ha
      have:=h.2.2 b hb
      omega) (fun i hi=>by
    obtain⟨x,hx,rfl⟩:=List.mem_map.1 hi
    have:=h.2.2 x hx
    omega)
  rw[List.length_map] at h1;omega
theorem zsY (l:List Int) (p:Int→Bool):Tells P 194 [.val (bsl i64T) l,.fn1 P i64T zs p] (.val i64T (idx p l)):=by
 refine zc Tryz.func194 rfl rfl rfl (fun ext w hext=>?_);refine ze (d:=0) rfl zi (fun hsl0=>?_);refine CQR ?_;refine qaj ?_;refine qbt ?_;refine qaP ?_;refine Lp (ι:=Nat) 0 (fun (k:Nat)=>(((((Fr.none).set 0 (.val (bsl i64T) l)).set 1 (.fn1 P i64T zs p)).set 6 (.val (bsl i64T) l)).set 7 (.val i64T (l.length:Int))).set 8 (.val i64T (k:Int))) (fun (k:Nat)=>Hp.none) (fun (k:Nat)=>k≤l.length∧idx p l=shift k (idx p (l.drop k))) (fun (k:Nat)=>l.length-k) (0) (⟨uf _,zjh p l⟩) ?_;intro k hinv;refine qar ?_;refine Cf (p:=k<l.length) (fun ht9=>?_) (fun ht9=>?_)
 ·
  obtain⟨x,hx⟩:∃x,l[k]?=some x:=ybF;refine qbh ?_;refine qah ?_;refine A0 mF ?_;refine qad ?_;refine A0 (zbH rfl rfl rfl zba yh) ?_;refine qaR ?_;refine qck ?_;refine zq (p:=p x=true) rfl yw (fun ht16=>?_) (fun ht16=>?_)
  ·
   refine qa7 ?_;refine qac ?_;exact zd rfl rfl (za rfl (hinv.2.trans (zoe hx ht16)).symm)
  refine qcp ?_;exact Nx (k+1) (⟨by omega,hinv.2.trans (zs0 hx ht16)⟩) ya
 refine qcT ?_;exact zd rfl rfl (za rfl (hinv.2.trans (zog ya)).symm)
theorem zoG (l:List Int) (p:Int→Bool):Tells P 134 [.val (bsl i64T) l,.fn1 P i64T zs p] (.val zs (l.any p)):=by
 refine zc Tryz.func134 rfl rfl rfl (fun ext w hext=>?_);refine ze (d:=0) rfl zi (fun hsl0=>?_);refine qdt ?_;refine A0 mF ?_;refine A0 (oCl (zsY _ _) rfl fn_194 ⟨yj,(zaa rfl rfl),trivial⟩) ?_;refine A0 zer ?_;refine qac ?_;exact zd rfl rfl (za rfl (zoh p l))
theorem mayN_ok (n:Int):Tells P 133 [.val i64T n] (.val zs (decide (n<0∨31<n))):=by
 refine zc Tryz.func133 rfl rfl rfl (fun ext w hext=>?_);refine ze (d:=0) rfl zu (fun hin0=>?_);refine qdt ?_;refine A0 zbb ?_;refine qau ?_;refine Sp (d:=5) (p:=n<0) (fun g5=>?_) (fun g5=>?_)
 ·
  refine qbB ?_;refine qaS ?_;exact zd rfl rfl (za rfl ((ui (.inl g5)).symm))
 refine A1 mV ?_;refine qdo ?_;refine qaS ?_;exact zd rfl rfl (za rfl yax)
theorem mayV_ok (v:List Int):Tells P 79 [.val (bsl i64T) v] (.val zs (mayV v)):=by
 refine zc Tryz.func79 rfl rfl rfl (fun ext w hext=>?_);refine ze (d:=0) rfl zi (fun hsl0=>?_);refine CQR ?_;refine qah ?_;refine A0 aC ?_;refine qcZ ?_;refine qbt ?_;refine A0 zjC ?_;refine qau ?_;refine Sp (d:=7) (p:=0<v.length) (fun g7=>?_) (fun g7=>?_)
 ·
  refine A1 mV ?_;refine A1 (zat rfl rfl zdc) ?_;refine A1 zfp ?_;refine qaf ?_;refine Sp (d:=12) (p:=v.length≤200) (fun g12=>?_) (fun g12=>?_)
  ·
   obtain⟨x,hx⟩:∃x,v[0]?=some x:=⟨_,ub g7⟩;refine A1 mV ?_;refine A1 (zr (i:=0) rfl rfl rfl ya zba yh) ?_;refine qcQ ?_;refine A1 zbZ ?_;refine qaf ?_;refine Sp (d:=18) (p:=x=31) (fun g18=>?_) (fun g18=>?_)
   ·
    refine A1 mV ?_;refine A1 mC ?_;refine A1 (oCl (zoG v (fun n=>decide (n<0∨31<n))) rfl fn_134 ⟨yj,(by first|exact zeI (Cs:=[]) rfl fn_133 yJ trivial rfl (fun x=>mayN_ok x)|exact zeH (Cs:=[]) rfl fn_133 yJ trivial rfl (fun x y=>mayN_ok x)|exact zeJ rfl),trivial⟩) ?_;refine A1 oN ?_;refine qaS ?_;exact zd rfl rfl (za rfl ((by unfold mayV;rw[ui ⟨g7,g12,by rw[hx,g18]⟩];rfl)))
   refine qdf ?_;refine qaS ?_;exact zd rfl rfl (za rfl ((by unfold mayV;rw[uh (fun h=>g18 (by have:=h.2.2;rw[hx] at this;exact Option.some.inj this))];rfl)))
  refine qdf ?_;refine qas ?_;refine qaS ?_;exact zd rfl rfl (za rfl ((by unfold mayV;rw[uh (fun h=>g12 h.2.1)];rfl)))
 refine qab ?_;refine qas ?_;refine qas ?_;refine qaS ?_;exact zd rfl rfl (za rfl ((by unfold mayV;rw[uh (fun h=>g7 h.1)];rfl)))
theorem mayP_ok (v:List Int) (m k:Int):Tells P 55 [.val (bsl i64T) v,.val i64T m,.val i64T k] (.val zs (mayP v m k)):=by
 refine zc Tryz.func55 rfl rfl rfl (fun ext w hext=>?_);refine ze (d:=0) rfl zi (fun hsl0=>?_);refine ze (d:=1) rfl zu (fun hin1=>?_);refine ze (d:=2) rfl zu (fun hin2=>?_);refine qdt ?_;refine A0 (oCl (mayV_ok v) rfl fn_79 yc) ?_;refine qau ?_;refine Sp (d:=9) (p:=mayV v=true) (fun g9=>?_) (fun g9=>?_)
 ·
  refine A1 mV ?_;refine A1 zer ?_;refine qaf ?_;refine Sp (d:=13) (p:=1≤m) (fun g13=>?_) (fun g13=>?_)
  ·
   refine A1 mV ?_;refine A1 zer ?_;refine qaf ?_;refine Sp (d:=17) (p:=1≤k) (fun g17=>?_) (fun g17=>?_)
   ·
    refine A1 mV ?_;refine A1 (zat rfl rfl zdc) ?_;refine A1 mV ?_;refine qdo ?_;refine qaS ?_;exact zd rfl rfl (za rfl ((by unfold mayP;rw[g9,Bool.true_and,uo];simp only[IntL.toI,id_eq];omega)))
   refine qdf ?_;refine qaS ?_;exact zd rfl rfl (za rfl ((by unfold mayP;rw[uh (fun h=>g17 h.2.1),Bool.and_false])))
  refine qbB ?_;refine qas ?_;refine qaS ?_;exact zd rfl rfl (za rfl ((by unfold mayP;rw[uh (fun h=>g13 h.1),Bool.and_false])))
 refine qaE ?_;refine qas ?_;refine qaS ?_;exact zd rfl rfl (za rfl ((by unfold mayP;rw[Bool.eq_false_iff.2 g9];rfl)))
theorem up_ok (v:List Int) (a b n:Int) (hl:v.length≤1000000000000):Tells P 100 [.val (bsl i64T) v,.val i64T a,.val i64T b,.val i64T n] (.fresh 3 i64T (upOf v a b n)):=by
 refine zc Tryz.func100 rfl rfl rfl (fun ext w hext=>?_);refine ze (d:=0) rfl zi (fun hsl0=>?_);refine ze (d:=1) rfl zu (fun hin1=>?_);refine ze (d:=2) rfl zu (fun hin2=>?_);refine ze (d:=3) rfl zu (fun hin3=>?_);refine qb0 ?_;refine A0 aL ?_;refine qbe ?_;refine A0 (g_max rfl rfl rfl) ?_;refine qbQ ?_;refine zj (d:=10) (y:=(((max a 0).toNat:Nat):Int)) rfl (by first|omega|(simp only[IntL.toI,id_eq];omega)) ?_;refine zbd (T:=i64T) (d:=9) 3 rfl ?_;refine zl (n:=0) (y:=upR v n (max a 0).toNat (max a 0).toNat) rfl (zuZ v n _).symm ?_;refine Lp (ι:=Nat) 1 (fun i=>((((Fr.none.set 0 (.val (bsl i64T) v)).set 2 (.val i64T b)).set 3 (.val i64T n)).set 9 (.own 0)).set 10 (.val i64T (i:Int))) (fun i=>Hp.none.set 0 (.row 3 i64T (upR v n (max a 0).toNat i))) (fun i=>(max a 0).toNat≤i∧((i:Int)≤min b v.length∨i=(max a 0).toNat)) (fun i=>v.length-i) ((max a 0).toNat) (⟨ug _,.inr rfl⟩) ?_;intro i hinv;refine qaW ?_;refine qau ?_;refine qbt ?_;refine A0 (g_min rfl rfl rfl) ?_;refine qav ?_;refine Cf (p:=(i:Int)<min b v.length) (fun ht18=>?_) (fun ht18=>?_)
 ·
  obtain⟨x,hx⟩:∃x,v[i]?=some x:=yq;refine qdm ?_;refine xN ?_;refine qaR ?_;refine qau ?_;refine qb9 ?_;refine Cf (p:=n≤x) (fun ht26=>?_) (fun ht26=>?_)
  ·
   refine qbE ?_;refine qau ?_;refine qaC ?_;refine zo rfl rfl rfl rfl rfl rfl rfl zeQ (by have:=zpi v n (max a 0).toNat i;simp;omega) ?_;refine qcH ?_;refine qbx ?_;refine zl (n:=0) (y:=upR v n (max a 0).toNat (i+1)) rfl (upR_yes hx hinv.1 ht26).symm ?_;exact Nx (i+1) (⟨by omega,by omega⟩) ya
  refine qbN ?_;refine zl (n:=0) (y:=upR v n (max a 0).toNat (i+1)) rfl (upR_no hx hinv.1 ht26).symm ?_;exact Nx (i+1) (⟨by omega,by omega⟩) ya
 refine qa0 ?_;exact zd rfl rfl (zf rfl rfl (upOf_end hinv.1 hinv.2 ht18))
theorem zsH (v:List Int) (m k:Int):Tells P 24 [.val (bsl i64T) v,.val i64T m,.val i64T k] (.tup2 (.fresh 3 i64T (zai v m k).1) (.val zs (zai v m k).2)):=by
 refine zc Tryz.func24 rfl rfl rfl (fun ext w hext=>?_);refine ze (d:=0) rfl zi (fun hsl0=>?_);refine ze (d:=1) rfl zu (fun hin1=>?_);refine ze (d:=2) rfl zu (fun hin2=>?_);refine qap ?_;refine qc8 ?_;refine qad ?_;refine qau ?_;refine A0 (oCl (mayP_ok v m k) rfl fn_55 yz) ?_;refine qaJ ?_;refine zq (p:=¬mayP v m k=true) rfl yw (fun ht13=>?_) (fun ht13=>?_)
 ·
  refine qaT ?_;exact zx rfl rfl (by unfold zai;rw[ur ht13];exact zm rfl) (za rfl (by unfold zai;rw[ur ht13]))
 have hmp:mayP v m k=true:=Classical.byContradiction ht13;have hcl:=zjr hmp;have hvl:=zfQ hmp;refine CSQR ?_;refine aw_mkmap rfl rfl rfl rfl (fun b0=>?_);refine zjx zp_102 rfl rfl rfl rfl rfl rfl ?_;refine zaG rfl rfl rfl rfl rfl rfl rfl rfl rfl rfl zno ?_;refine CNQR ?_;refine qad ?_;refine qau ?_;refine qdr ?_;refine zak rfl rfl rfl rfl Tryz.func56 fn_56 rfl rfl (fun ia2 iok2=>?_);refine qdt ?_;refine CNB ?_;refine Lp (ι:=Nat) 2 (fun (i:Nat)=>((((((Fr.none).set 0 (.val (bsl i64T) v)).set 1 (.val i64T m)).set 2 (.val i64T k)).set 3 (.clo 57 [1])).set 8 (.val i64T (zaA v m k i).1)).set 12 (.val i64T (i:Int))) (fun (i:Nat)=>((Hp.none).set 0 (.objAt b0 (setO (zaA v m k i).2))).set 1 (.parts 102 [.lit (.map (some b0))])) (fun (i:Nat)=>i≤32) (fun (i:Nat)=>32-i) (0) (uf _) ?_;intro i hi;refine qar ?_;refine Cf (p:=i<32) (fun ht13=>?_) (fun ht13=>?_)
 ·
  have hci:=hcl i ya;have hup:=zC (up_ok v (zaA v m k i).1 ((v.length:Int)-k) (31-(i:Int)) ya);obtain⟨L,hL⟩:∃L,L=upOf v (zaA v m k i).1 ((v.length:Int)-k) (31-(i:Int)):=⟨_,rfl⟩;rw[←hL] at hup;have hLl:L.length≤200:=by rw[hL];have:=znl v (zaA v m k i).1 ((v.length:Int)-k) (31-(i:Int));omega
  refine qbh ?_;refine qaA ?_;refine A0 za5 ?_;refine qbr ?_;refine qau ?_;refine qbt ?_;refine qbS ?_;refine qau ?_;refine A0 (oCl (hup) rfl fn_100 y5) ?_;refine qah ?_;refine A0 mC ?_;refine qad ?_;refine qau ?_;refine zlT rfl rfl rfl rfl rfl Tryz.func57 fn_57 rfl rfl yaa (fun ia3 iok3=>?_);refine qa7 ?_;refine qbt ?_;refine qaP ?_;refine Lp (ι:=Nat) 2 (fun (j:Nat)=>((((Fr.none).set 3 (.ptr 1 0)).set 9 (.val (sl i64T) L)).set 10 (.val i64T (L.length:Int))).set 11 (.val i64T (j:Int))) (fun (j:Nat)=>((Hp.none).set 0 (.objAt b0 (setO ((L.take j).foldl zdA (zaA v m k i).2)))).set 1 (.parts 102 [.lit (.map (some b0))])) (fun (j:Nat)=>j≤L.length) (fun (j:Nat)=>L.length-j) (0) (uf _) ?_;intro j hj;refine qar ?_;refine Cf (p:=j<L.length) (fun ht12=>?_) (fun ht12=>?_)
  ·
   obtain⟨x,hx⟩:∃x,L[j]?=some x:=⟨_,ub ht12⟩;refine CSQBQR ?_;refine A0 (zbH rfl rfl rfl zba yh) ?_;refine qaR ?_;refine A0 aX ?_;refine CNR ?_;refine A0 yaS ?_;refine A0 mX ?_;refine A0 (zv0 rfl zu_104 su_104) ?_;refine aw_mapput (n:=0) rfl rfl rfl rfl rfl rfl rfl mp_102 ui_3 ?_;refine qbK ?_;refine zk6 0 (setO ((L.take (j+1)).foldl zdA (zaA v m k i).2)) rfl (by rw[un,hx,List.foldl_append];rfl) ?_;exact Nx (j+1) ya ya
  refine CE ?_;refine zi9 rfl ?_;refine CNQ ?_;refine zk6 0 (setO (L.foldl zdA (zaA v m k i).2)) rfl yO ?_;refine CR ?_;refine qau ?_;refine qbt ?_;refine qau ?_;refine qbT ?_;refine Cf (p:=m<L.length) (fun ht33=>?_) (fun ht33=>?_)
  ·
   obtain⟨c,hc⟩:∃c,L[L.length-m.toNat]?=some c:=yq;refine CR ?_;refine qad ?_;refine qbt ?_;refine qbS ?_;refine A0 (zr (i:=L.length-m.toNat) rfl rfl rfl ya zba yh) ?_;refine qaR ?_;refine A0 aX ?_;refine qbK ?_;refine zj (d:=8) (y:=(zaA v m k (i+1)).1) rfl (zdP hL hc ht33) ?_;refine zk6 0 (setO (zaA v m k (i+1)).2) rfl (by rw[hL];rfl) ?_;exact Nx (i+1) ya ya
  refine qcp ?_;refine zj (d:=8) (y:=(zaA v m k (i+1)).1) rfl (zeC hL ht33) ?_;refine zk6 0 (setO (zaA v m k (i+1)).2) rfl (by rw[hL];rfl) ?_;exact Nx (i+1) ya ya
 refine CE ?_;refine zi9 rfl ?_;refine CNQ ?_;have hi32:i=32:=ya;subst hi32;obtain⟨K,hK⟩:∃K,K=(zaA v m k 32).2:=⟨_,rfl⟩;have hck:=hcl 32 ya;rw[←hK] at hck;refine zk6 0 (setO K) rfl (by rw[hK]) ?_;have hkeys:∀x∈K,-9223372036854775808≤x∧x≤9223372036854775807:=fun x hx=>by have:=hck.2.2 x hx;omega
 have hKl:=zmk hck hvl;refine CR ?_;refine A0 yaS ?_;refine zak rfl rfl rfl rfl Tryz.func59 fn_59 rfl rfl (fun ia4 iok4=>?_);refine CQR ?_;refine zwD rfl rfl rfl rfl rfl rfl rfl ?_;refine A0 aL ?_;refine CNQR ?_;refine qdr ?_;refine A0 aC ?_;refine CN ?_;refine zeG rfl ?_;refine zak rfl rfl rfl rfl Tryz.func58 fn_58 rfl rfl (fun ia6 iok6=>?_);refine qb0 ?_;refine A0 mC ?_;refine zak rfl rfl rfl rfl Tryz.func101 fn_101 rfl rfl (fun ia7 iok7=>?_);refine qb0 ?_;refine A0 mC ?_;refine zak rfl rfl rfl rfl Tryz.func153 fn_153 rfl rfl (fun ia8 iok8=>?_);refine CQR ?_;refine zwD rfl rfl rfl rfl rfl rfl rfl ?_;refine A0 aL ?_;refine CN ?_;refine aw_nilpart 3 3 i64T rfl ?_;refine CQQR ?_;refine A0 mC ?_;refine CNB ?_;refine zk7 rfl rfl rfl Tryz.func103 fn_103 rfl rfl yaa (fun fid11 ca11 lN11 DN11 cok11 rc11 hrc11=>?_);refine CQR ?_;refine A0 yaS ?_;refine zuE (n:=0) rfl rfl rfl rfl rfl rfl mp_102 (fun it0=>?_);refine CNB ?_;refine zbc 4 8 9 rfl rfl rfl rfl rfl rfl ?_;refine Lp (ι:=List Nat) 9 (fun (seen:List Nat)=>((Fr.none).set 0 (.lit (.func (.yield lN11) #[] #[]))).set 5 (.ptr 7 0)) (fun (seen:List Nat)=>((((((Hp.none).set 0 (.objAt b0 (setO K))).set 3 (.parts 41 [.own 8])).set 8 (.row 3 i64T (seen.map fun i=>K.getD i 0))).set 5 (.objAt DN11 (.deferred (some [])))).set 6 (.objAt lN11 (rc11 .ready none))).set 7 (.objAt it0 (itO b0 K.length seen))) (fun (seen:List Nat)=>seen.Nodup∧∀i∈seen,i<K.length) (fun (seen:List Nat)=>K.length-seen.length) ([]) (⟨List.nodup_nil,fun i h=>by cases h⟩) ?_;intro seen hs;refine CQR ?_;refine aw_nextmap (n1:=0) (n2:=7) rfl rfl rfl rfl rfl (hkeys) rfl rfl (fun hall=>?_) (fun i v hiv his=>?_)
 ·
  refine A0 (g_x1f rfl rfl) ?_;refine CNQ ?_;refine Cg ?_;refine CE ?_;refine zgZ (nL:=6) rfl hrc11 rfl yn ?_;refine CI ?_;refine CQR ?_;refine A0 yca ?_;refine qbJ ?_;refine zaX (zds (nD:=5) rfl rfl rfl (ar_back1 rfl ?_));refine qbJ ?_;refine zeG rfl ?_;refine qby ?_;refine zij (zpo (seen.map fun i=>K.getD i 0) (by rw[List.length_map];have:=zmT hs.1 hs.2;omega)) rfl fn_102 rfl trivial trivial rfl ⟨yk,trivial⟩ rfl rfl rfl ?_;refine CNQR ?_;refine A0 mO ?_;refine qbJ ?_;refine zeG rfl ?_;refine qcl ?_;exact zx rfl rfl (zf rfl rfl (by unfold zai;rw[ut hmp,←hK];exact sort_perm (seen_all hs hall))) (za rfl (by unfold zai;rw[ut hmp]))
 obtain⟨hs1,hs2,hs3⟩:=seen_step hs hiv his;refine A0 e30 ?_;refine CNQ ?_;refine Ct ?_;refine CS ?_;refine CB ?_;refine CQR ?_;refine aw_entry (n1:=0) (n2:=7) (v:=v) (i:=i) rfl rfl rfl rfl rfl (by exact rfl) (by exact rfl) yh (hkeys) ?_;refine qco ?_;refine A0 aX ?_;refine CNQR ?_;refine A0 mL ?_;refine A0 mX ?_;refine zk5 (nL:=6) rfl rfl rfl rfl rfl hrc11 rfl rfl rfl (fun ya12 yok12=>?_);refine CR ?_;refine qbg ?_;refine zk8 (nL:=6) hrc11 rfl ?_;refine CB ?_;refine CR ?_;refine A0 yca ?_;refine A0 mX ?_;refine qcj ?_;refine zaG rfl rfl rfl rfl rfl rfl rfl rfl rfl rfl zgA ?_;refine CN ?_;refine CI ?_;refine zfg (nL:=6) hrc11 rfl ?_;refine qaJ ?_;refine Cg ?_;refine CS ?_;refine CI ?_;refine zbc 9 8 10 rfl rfl rfl rfl rfl rfl ?_;refine zl (n:=8) (y:=(seen++[i]).map fun i=>K.getD i 0) rfl (by rw[List.map_append];simp[hiv]) ?_;exact Nx (seen++[i]) (hs1) (hs2)
def proverN:GoT (List Block×Int×Int×List Int×Unit):=zcs (bsl zU) (zcs i64T (zcs i64T (zcs (sl i64T) nilT)))
def zvu:GoT (Int×Int×Unit):=zcs i64T (zcs i64T nilT)
theorem zrR:za7 P 82 proverN ([],0,0,[],()):=zau (zam zeS (zam zda (zam zda (zam zeS zkf)))) yv
theorem zfF:za7 P 25 zvu (0,0,()):=zau (zam zda (zam zda zkf)) yv
theorem zl2 {l:List Block} {m k:Int} {v:List Int}:zhc proverN (l,m,k,v,()) [.val (bsl zU) l,.val i64T m,.val i64T k,.val (sl i64T) v,.lit (.slice none 0 0)]:=zcA zcV (zcA zcV (zcA zcV (zcA zcV zns)))
theorem zf4 {m k:Int}:zhc zvu (m,k,()) [.val i64T m,.val i64T k,.lit (.slice none 0 0)]:=zcA zcV (zcA zcV zns)
theorem zhw {m k:Int} {l:List Part}:zlc zax (⟨m,k,l⟩:Proof) [.val i64T m,.val i64T k] zbL l:=zvN (zge (zge zoc))
def zR (l:List Block) (m k:Int):List Int:=(zai (zp l) m k).1++(List.range k.toNat).map fun j:Nat=>(l.length:Int)-k+(j:Int)
def zcW (l:List Block) (i:Int):Part:=⟨(l.getD i.toNat default).h,(l.getD i.toNat default).l⟩
def prE (l:List Block) (m k:Int):Int:=if ¬(zaf l).2=0 then (zaf l).2 else if m<1∨20<m∨k<1∨20<k∨l.length≤k then 1 else 0
def prOf (l:List Block) (m k:Int):Proof:=if prE l m k=0 then ⟨m,k,(zR l m k).map (zcW l)⟩ else zdI
theorem zly {v:List Int} {m k x:Int} (h:x∈(zai v m k).1):0≤x∧x<(v.length:Int)-k:=by
  unfold zai at h
  split at h
  · rename_i c
    exact(zjr c 32 (ug _)).2.2 x (zmC.1 h)
  cases h
theorem zfM (v:List Int) (m k:Int):(zai v m k).1.length≤200:=by
  unfold zai
  split
  · rename_i c
    have:=zmk (zjr c 32 (ug _)) (zfQ c)
    simpa [za4] using this
  simp
theorem zfT (l:List Block):(zp l).length=l.length:=by unfold zp;simp
theorem zeb {l:List Block} {m k x:Int} (hk:1≤k∧k<l.length) (h:x∈zR l m k):0≤x∧x<l.length:=by
  unfold zR at h;rcases List.mem_append.1 h with h|h
  · have:=zly h
    rw[zfT] at this;omega
  obtain⟨j,hj,rfl⟩:=List.mem_map.1 h;rw[List.mem_range] at hj;omega
theorem zfO {l:List Block} {m k:Int} (hk:k≤20):(zR l m k).length≤220:=by
  unfold zR
  have:=zfM (zp l) m k
  simp;omega
theorem zpG (l:List Block) (m k:Int) (hl:zgH l):Tells P 14 [.val (bsl zU) l,.val i64T m,.val i64T k] (.tup2 (.val zax (prOf l m k)) (.val i64T (prE l m k))):=by
 have hll:=hl.1;refine zc Tryz.func14 rfl rfl rfl (fun ext w hext=>?_);refine ze (d:=0) rfl zi (fun hsl0=>?_);refine ze (d:=1) rfl zu (fun hin1=>?_);refine ze (d:=2) rfl zu (fun hin2=>?_);refine CQR ?_;refine qb6 ?_;refine qbr ?_;refine qau ?_;refine zak rfl rfl rfl rfl Tryz.func31 fn_31 rfl rfl (fun ia1 iok1=>?_);refine qap ?_;refine qaj ?_;refine A0 (oCl (zrB l hl) rfl fn_26 yc) ?_;refine qa6 ?_;refine qcn ?_;refine qat ?_;refine qaA ?_;refine qaO ?_;refine zq (p:=¬(zaf l).2=0) rfl yN (fun ht18=>?_) (fun ht18=>?_)
 ·
  refine qa7 ?_;refine A0 aL ?_;refine qac ?_;refine zdf rfl ?_;refine A0 yr ?_;refine qaa ?_;refine qaD ?_;refine zkb rfl (by simp;exact ht18) ?_;refine CQR ?_;refine xO ?_;refine qct ?_;exact zn rfl rfl (zt rfl rfl zbD (by unfold prOf;rw[ur (by unfold prE;rw[ut ht18];exact ht18)])) (zS (za rfl (by unfold prE;rw[ut ht18])))
 refine qbP ?_;refine A0 zbb ?_;refine qau ?_;refine Sp (d:=22) (p:=m<1) (fun g22=>?_) (fun g22=>?_)
 ·
  refine qaE ?_;refine qaf ?_;refine qbB ?_;refine qbu ?_;refine Ct ?_;refine qaT ?_;refine zdf rfl ?_;refine A0 yr ?_;refine qaa ?_;refine qaD ?_;refine Ct ?_;refine CQR ?_;refine xO ?_;refine qct ?_;exact zn rfl rfl (zt rfl rfl zbD y7) (zS (za rfl yU))
 refine A1 mV ?_;refine qdo ?_;refine qaf ?_;refine Sp (d:=26) (p:=20<m) (fun g26=>?_) (fun g26=>?_)
 ·
  refine qaE ?_;refine qbu ?_;refine Ct ?_;refine qaT ?_;refine zdf rfl ?_;refine A0 yr ?_;refine qaa ?_;refine qaD ?_;refine Ct ?_;refine CQR ?_;refine xO ?_;refine qct ?_;exact zn rfl rfl (zt rfl rfl zbD y7) (zS (za rfl yU))
 refine A1 mV ?_;refine A1 zbb ?_;refine qaf ?_;refine Sp (d:=30) (p:=k<1) (fun g30=>?_) (fun g30=>?_)
 ·
  refine qbB ?_;refine qbu ?_;refine Ct ?_;refine qaT ?_;refine zdf rfl ?_;refine A0 yr ?_;refine qaa ?_;refine qaD ?_;refine Ct ?_;refine CQR ?_;refine xO ?_;refine qct ?_;exact zn rfl rfl (zt rfl rfl zbD y7) (zS (za rfl yU))
 refine A1 mV ?_;refine qdo ?_;refine qaf ?_;refine Sp (d:=34) (p:=20<k) (fun g34=>?_) (fun g34=>?_)
 ·
  refine qdf ?_;refine qao ?_;refine Ct ?_;refine qaT ?_;refine zdf rfl ?_;refine A0 yr ?_;refine qaa ?_;refine qaD ?_;refine Ct ?_;refine CQR ?_;refine xO ?_;refine qct ?_;exact zn rfl rfl (zt rfl rfl zbD y7) (zS (za rfl yU))
 refine A1 mV ?_;refine A1 (zat rfl rfl zpP) ?_;refine A1 mV ?_;refine A1 zfp ?_;refine qao ?_;refine Cf (p:=l.length≤k) (fun ht39=>?_) (fun ht39=>?_)
 ·
  refine qaT ?_;refine zdf rfl ?_;refine A0 yr ?_;refine qaa ?_;refine qaD ?_;refine Ct ?_;refine CQR ?_;refine xO ?_;refine qct ?_;exact zn rfl rfl (zt rfl rfl zbD y7) (zS (za rfl yU))
 have hpl:=zfM (zp l) m k;refine qcz ?_;refine qad ?_;refine A0 (oCl (zC (zsQ l ya)) rfl fn_25 yc) ?_;refine A0 (zB rfl zrR bd_82 (.cons zun (Lens.fst _ _) ty_22 rfl (.cons zoz ((Lens.snd _ _).comp (Lens.fst _ _)) ty_3 rfl (.cons zoy ((Lens.snd _ _).comp ((Lens.snd _ _).comp (Lens.fst _ _))) ty_3 rfl (.cons zlM ((Lens.snd _ _).comp ((Lens.snd _ _).comp ((Lens.snd _ _).comp (Lens.fst _ _)))) zgA rfl .nil)))) rfl) ?_;refine xb ?_;refine A0 aP ?_;refine CN ?_;refine zdQ 2 (x:=(l,m,k,zp l,())) zl2 rfl ?_;refine zcR 2 3 i64T [.val (bsl zU) l,.val i64T m,.val i64T k,.val (sl i64T) (zp l)] rfl ybm ?_;refine CQR ?_;refine A0 mP ?_;refine A0 mP ?_;refine xc ?_;refine A0 (oFp zlM) ?_;refine A0 (zae rfl rfl rfl rfl rfl zgA) ?_;refine qad ?_;refine zgu (zsH (zp l) m k) rfl fn_24 yz zgm rfl rfl rfl ?_;refine A0 yr ?_;refine qaa ?_;refine qcv ?_;refine CNQQR ?_;refine qad ?_;refine CNB ?_;refine zl (n:=4) (y:=(zai (zp l) m k).1++(List.range 0).map fun j:Nat=>(l.length:Int)-k+(j:Int)) rfl yw ?_;refine Lp (ι:=Nat) 5 (fun i=>((((Fr.none.set 0 (.val (bsl zU) l)).set 2 (.val i64T k)).set 10 (.ptr 2 0)).set 60 (.val i64T k)).set 61 (.val i64T (i:Int))) (fun i=>((Hp.none.set 0 (.box 25 zax zdI)).set 2 (.parts 82 ([.val (bsl zU) l,.val i64T m,.val i64T k,.val (sl i64T) (zp l)]++[.own 4]))).set 4 (.row 3 i64T ((zai (zp l) m k).1++(List.range i).map fun j:Nat=>(l.length:Int)-k+(j:Int)))) (fun i=>(i:Int)≤k) (fun i=>k.toNat-i) (0) yy ?_;intro i hi;refine qar ?_;refine Cf (p:=(i:Int)<k) (fun ht62=>?_) (fun ht62=>?_)
 ·
  refine qbh ?_;refine qbX ?_;refine A0 mP ?_;refine qbk ?_;refine qau ?_;refine qcC ?_;refine qbS ?_;refine qc2 ?_;refine qcj ?_;refine qcv ?_;refine qbK ?_;refine zbc 5 4 6 rfl rfl rfl rfl rfl rfl ?_;refine zl (n:=4) (y:=(zai (zp l) m k).1++(List.range (i+1)).map fun j:Nat=>(l.length:Int)-k+(j:Int)) rfl ybQ ?_;exact Nx (i+1) ya ya
 refine CE ?_;refine CQ ?_;obtain⟨PL,hPL⟩:∃PL,PL=zR l m k:=⟨_,rfl⟩;refine zl (n:=4) (y:=PL) rfl (by rw[hPL];unfold zR;rw[show k.toNat=i by omega]) ?_;have hpm:∀x∈PL,0≤x∧x<l.length:=fun x hx=>zeb ya (hPL▸hx)
 have hpn:PL.length≤220:=hPL▸zfO ya;refine CR ?_;refine A0 mP ?_;refine A0 aP ?_;refine qac ?_;refine zdf rfl ?_;refine A0 yr ?_;refine qaa ?_;refine A0 aP ?_;refine A0 aX ?_;refine CNQQR ?_;refine A0 mX ?_;refine qaO ?_;refine Cg ?_;refine CSQR ?_;refine A0 mP ?_;refine zak rfl rfl rfl rfl Tryz.func32 fn_32 rfl rfl (fun ia3 iok3=>?_);refine CQR ?_;refine qb6 ?_;refine CNQ ?_;refine xP ?_;refine XK.ga (fun _=>g_mp (.inl rfl) rfl) rfl rfl rfl ?_;refine XK.ga (fun _=>g_nc rfl rfl) rfl rfl rfl ?_;refine XK.ga (fun _=>ziU rfl rfl zoz rfl) rfl rfl rfl ?_;refine XK.gf (t:=8) rfl rfl (fun _ he=>zae rfl rfl he rfl rfl ty_3) ⟨rfl,trivial⟩ rfl rfl rfl ?_;refine XK.ga (fun _=>g_mp (.inl rfl) rfl) rfl rfl rfl ?_;refine XK.ga (fun _=>g_nc rfl rfl) rfl rfl rfl ?_;refine XK.ga (fun _=>ziU rfl rfl zoy rfl) rfl rfl rfl ?_;refine XK.gf (t:=12) rfl rfl (fun _ he=>zae rfl rfl he rfl rfl ty_3) ⟨rfl,trivial⟩ rfl rfl rfl ?_;refine XK.ga (fun _=>zB rfl zfF zdi (.cons zcQ (Lens.fst _ _) ty_3 rfl (.cons zey ((Lens.snd _ _).comp (Lens.fst _ _)) ty_3 rfl .nil)) rfl) rfl rfl rfl ?_;refine XK.e (fun fr' hfr kk H=>by exact z8 zfF rfl rfl rfl rfl (zM H)) ?_;refine XK.e (x:=.idk) (fun fr' hfr kk H=>by exact zg rfl rfl rfl ((hfr 3 yd).trans rfl) rfl (Lens.self _) zbD ((hfr 14 yd).trans rfl) (zM H)) ?_;refine XK.nilp ⟨yx,yx,trivial⟩ ?_;refine zdQ 6 (x:=(m,k,())) zf4 rfl ?_;refine zcR 6 55 zbL [.val i64T m,.val i64T k] rfl yT ?_;refine CQQR ?_;refine qbk ?_;refine A0 (zbV rfl rfl rfl zdc) ?_;refine qaP ?_;refine Lp (ι:=Nat) 8 (fun i=>(((((Fr.none.set 0 (.ptr 2 0)).set 2 (.ptr 5 0)).set 3 (.ptr 6 0)).set 18 (.own 4)).set 19 (.val i64T (PL.length:Int))).set 20 (.val i64T (i:Int))) (fun i=>(((((Hp.none.set 0 (.box 25 zax zdI)).set 2 (.parts 82 ([.val (bsl zU) l,.val i64T m,.val i64T k,.val (sl i64T) (zp l)]++[.own 4]))).set 4 (.row 3 i64T PL)).set 5 (.box 25 zax zdI)).set 6 (.parts 25 [.val i64T m,.val i64T k,.own 7])).set 7 (.row 55 zbL ((PL.take i).map (zcW l)))) (fun i=>i≤PL.length) (fun i=>PL.length-i) (0) (uf _) ?_;intro i hi2;refine qar ?_;refine Cf (p:=i<PL.length) (fun ht21=>?_) (fun ht21=>?_)
 ·
  obtain⟨x,hx⟩:∃x,PL[i]?=some x:=⟨_,ub ht21⟩;have hxb:=hpm x (ud hx);obtain⟨b,hb⟩:∃b,l[x.toNat]?=some b:=yq;refine CSQBQR ?_;refine A0 (zaQ (i:=i) rfl rfl rfl rfl yi zba yg) ?_;refine A0 (zcw rfl rfl rfl rfl yh (Lens.self _) ty_3) ?_;refine qac ?_;refine xQ ?_;refine X0 (oFp zcC) ?_;refine X0 (zae rfl rfl rfl rfl rfl zhi) ?_;refine qbl ?_;refine X0 mV ?_;refine xR ?_;refine X0 (oFr zaR zY) ?_;refine X0 (zh rfl rfl zaM) ?_;refine qbl ?_;refine X0 mV ?_;refine xR ?_;refine X0 (oFr zcO zbv) ?_;refine X0 (zh rfl rfl zcG) ?_;refine X0 (oCl (zC (zlQ b.l ybJ)) rfl fn_74 ycg) ?_;refine xS ?_;refine qdg ?_;refine XK.e (fun fr' hfr kk H=>by exact zo rfl rfl rfl rfl ((hfr 25 yd).trans rfl) rfl ((hfr 44 yd).trans rfl) znG yy (zM H)) ?_;refine X0 (oFp zcC) ?_;refine XK.e (x:=.idk) (fun fr' hfr kk H=>by exact zaG rfl rfl rfl ((hfr 46 yd).trans rfl) rfl rfl ((hfr 45 yd).trans rfl) rfl rfl rfl zhi (zM H)) ?_;refine qaX ?_;refine qan ?_;refine zbc 8 7 9 rfl rfl rfl rfl rfl rfl ?_;refine zl (n:=7) (y:=(PL.take (i+1)).map (zcW l)) rfl ya0 ?_;exact Nx (i+1) ya ya
 refine CE ?_;refine CQ ?_;refine zl (n:=7) (y:=PL.map (zcW l)) rfl yO ?_;refine zgY 6 7 [.val i64T m,.val i64T k] (z:=(⟨m,k,PL.map (zcW l)⟩:Proof)) (R:=zax) rfl rfl rfl zhw ?_;refine CR ?_;refine qbC ?_;refine qam ?_;refine CN ?_;refine zk9 rfl rfl rfl zbD ?_;refine qcw ?_;exact zn rfl rfl (zt rfl rfl zbD (by unfold prOf;rw[ut ybN,hPL])) (zS (za rfl ybN))
def leadsB (l:List Ab.Id) (prev id:Ab.Id):Bool:=decide (prev=id)||l.any fun x=>decide (id=x)
def prevF (y z:Part) (last:Prop) [Decidable last] (d:Ab.Id):Int :=
  if y.h.height≤z.h.height∨¬y.h.bits=z.h.bits∨last∧(¬y.h.height=IntKind.i64.wrap (z.h.height+1)∨¬y.h.prev=d) then 5 else 0
def linkF (y:Part) (c d:Ab.Id):Int :=
  if y.l.length=0∨32<y.l.length∨¬y.l.getD 0 zId=c∨leadsB y.l y.h.prev d=false∨¬zfR y.l=y.h.links then 6 else 0
def workF (y:Part):Int:=if ¬zbG y.h=true then 4 else 0
def zPartD:Part:=⟨zmp,[]⟩
def dOf (x:CTrial):Ab.Id:=x.ids.getD (x.at_.toNat-1) zId
def three:List (Option Nat):=[some 68,some 69,some 70]
def zum (p:Proof):Bool:=p.p.all (fun x=>decide (x.l.length≤40))&&decide (p.p.length≤110)
theorem zwl (p:Proof):Tells P 13 [.val zax p] (.val zs (zum p)):=by
 refine zc Tryz.func13 rfl rfl rfl (fun ext w hext=>?_);refine qae ?_;refine qcc ?_;refine Lp (ι:=Nat) 1 (fun (k:Nat)=>((Fr.none).set 1 (.ptr 0 0)).set 3 (.val i64T (k:Int))) (fun (k:Nat)=>(Hp.none).set 0 (.box 25 zax p)) (fun (k:Nat)=>k≤p.p.length∧(p.p.take k).all (fun x=>decide (x.l.length≤40))=true) (fun (k:Nat)=>p.p.length-k) (0) (⟨uf _,rfl⟩) ?_;intro k hinv;refine qaF ?_;refine qc9 ?_;refine ze (d:=6) rfl zi (fun hsl6=>?_);refine xT ?_;refine qav ?_;refine Cf (p:=k<p.p.length) (fun ht8=>?_) (fun ht8=>?_)
 ·
  obtain⟨x,hx⟩:∃x,p.p[k]?=some x:=⟨_,ub ht8⟩;refine CSQBQR ?_;refine qc9 ?_;refine qau ?_;refine A0 (zbH rfl rfl rfl zkr yh) ?_;refine A0 (oFr zcP zdg) ?_;refine A0 (zh rfl rfl zcG) ?_;refine qc4 ?_;refine qbT ?_;refine Cf (p:=40<x.l.length) (fun ht18=>?_) (fun ht18=>?_)
  ·
   refine qay ?_;exact zd rfl rfl (za rfl ((by symm;unfold zum;rw[Bool.and_eq_false_iff];left;rw[List.all_eq_false];exact⟨x,ud hx,by simp;omega⟩)))
  refine qbN ?_;exact Nx (k+1) (⟨by omega,by rw[un,hx,List.all_append,hinv.2];simp;omega⟩) ya
 refine qdl ?_;refine qc9 ?_;refine xT ?_;refine A0 zfp ?_;refine qac ?_;exact zd rfl rfl (za rfl ((by have h:=hinv.2;rw[uc ya] at h;unfold zum;rw[h,Bool.true_and,uo];simp only[IntL.toI,id_eq];omega)))
theorem fewC_no {l:List Block} {k:Nat} {x:Block} (hx:l[k]?=some x) (h:¬fewB x=true):fewC l=false:=by
  unfold fewC;rw[Bool.and_eq_false_iff]
  left
  rw[List.all_eq_false];exact⟨x,ud hx,h⟩
theorem fewB_all {x:Block} (h:¬(x.t.all few&&decide ((x.t.length:Int)≤6))=true):¬fewB x=true:=fun h2=>by unfold fewB at h2;rw[uk] at h2;exact h h2.1
theorem fewB_links {x:Block} (h:40<x.l.length):¬fewB x=true:=fun h2=>by unfold fewB at h2;rw[uk,uj] at h2;omega
theorem fewB_yes {x:Block} (h:(x.t.all few&&decide ((x.t.length:Int)≤6))=true) (h2:¬40<x.l.length):fewB x=true:=by unfold fewB;rw[h,Bool.true_and];exact ui ya
theorem zrO {α:Type} {p:α→Bool} {l:List α} {k:Nat} {x:α} (h:(l.take k).all p=true) (hx:l[k]?=some x) (hp:p x=true):(l.take (k+1)).all p=true:=by
  rw[un,hx,List.all_append,h];simp[hp]
theorem fewC_end {l:List Block} {k:Nat} (h:(l.take k).all fewB=true) (hk:l.length≤k):fewC l=decide ((l.length:Int)≤50):=by
  rw[uc hk] at h;unfold fewC;rw[h,Bool.true_and]
theorem easy_newOf:newOf 545259519=[zc0]:=by unfold newOf;rw[ut zur,zwq];rfl
theorem fewC_ok (l:List Block):Tells P 12 [.val (bsl zU) l] (.val zs (fewC l)):=by
 refine zc Tryz.func12 rfl rfl rfl (fun ext w hext=>?_);refine ze (d:=0) rfl zi (fun hsl0=>?_);refine CQR ?_;refine qcc ?_;refine Lp (ι:=Nat) 0 (fun (k:Nat)=>((Fr.none).set 0 (.val (bsl zU) l)).set 3 (.val i64T (k:Int))) (fun (k:Nat)=>Hp.none) (fun (k:Nat)=>k≤l.length∧(l.take k).all fewB=true) (fun (k:Nat)=>l.length-k) (0) (⟨uf _,by simp⟩) ?_;intro k hinv;refine qaW ?_;refine qcC ?_;refine qav ?_;refine Cf (p:=k<l.length) (fun ht8=>?_) (fun ht8=>?_)
 ·
  obtain⟨x,hx⟩:∃x,l[k]?=some x:=⟨_,ub ht8⟩;refine qdm ?_;refine A0 (zr (i:=k) rfl rfl rfl ya zf6 yh) ?_;refine A0 (oFr zgn zdU) ?_;refine A0 (zh rfl rfl znn) ?_;refine A0 (oCl (fewAll_ok _ _) rfl fn_30 yci) ?_;refine qaA ?_;refine A0 oN ?_;refine qau ?_;refine zX (d:=19) (p:=¬(x.t.all few&&decide ((x.t.length:Int)≤6))=true) rfl (by cases (x.t.all few&&decide ((x.t.length:Int)≤6))<;>rfl) (fun g19=>?_) (fun g19=>?_)
  ·
   refine qbc ?_;refine A2 ?_;refine qao ?_;refine Ct ?_;refine qay ?_;exact zd rfl rfl (za rfl (fewC_no hx (fewB_all g19)).symm)
  refine A1 mV ?_;refine A1 mV ?_;refine A1 (zr (i:=k) rfl rfl rfl ya zf6 yh) ?_;refine A1 (oFr zcO zbv) ?_;refine A1 (zh rfl rfl zcG) ?_;refine A1 yb1 ?_;refine qdo ?_;refine qao ?_;refine Cf (p:=40<x.l.length) (fun ht27=>?_) (fun ht27=>?_)
  ·
   refine qay ?_;exact zd rfl rfl (za rfl (fewC_no hx (fewB_links ht27)).symm)
  refine qbN ?_;exact Nx (k+1) (⟨by omega,zrO hinv.2 hx (fewB_yes (ua g19) ht27)⟩) ya
 refine qcu ?_;refine qcC ?_;refine A0 zfp ?_;refine qac ?_;exact zd rfl rfl (za rfl (by rw[fewC_end hinv.2 ya,uo];rfl))
def ziZ:Proof:=⟨1,1,[⟨zlP,[]⟩,⟨zdh.h,[id0]⟩]⟩
theorem zp8 (y:Int):∀i:Nat,i≤32→zaA [31,y] 1 1 i=(0,if i=0 then [] else [0])
  | 0,_=>rfl
  | i+1,h=>by
    have ih:=zp8 y i ya;have hu:upOf [31,y] 0 ((([31,y]:List Int).length:Int)-1) (31-(i:Int))=[0]:=by
      show upR [31,y] (31-(i:Int)) 0 (0+1)=[0];rw[upR_yes (v:=[31,y]) (n:=31-(i:Int)) (x:=31) (a:=0) (i:=0) rfl (ug _) ya,zuZ];rfl
    have e1:(zaA [31,y] 1 1 i).1=0:=by rw[ih]
    have e2:(zaA [31,y] 1 1 i).2=if i=0 then [] else [0]:=by rw[ih]
    show(if _ then _ else _,_)=_;have h0:(if i+1=0 then ([]:List Int) else [0])=[0]:=ur ya;rw[e1,e2,hu,h0,ur yn];by_cases c:i=0<;>simp[c,zdA]
theorem easy_lvs:zp [zc0,zdh]=[31,zW zdh.h]:=by
  show [zW zlP,zW zdh.h]=_;rw[easy_level]
theorem easy_le1:decide (zW zdh.h≤31)=true:=yv
theorem easy_mayP:mayP [31,zW zdh.h] 1 1=true:=by
  have h1:=of_decide_eq_true zus;have h2:=of_decide_eq_true easy_le1;unfold mayP mayV;generalize zW zdh.h=y at h1 h2;simp;omega
theorem zoD:zai (zp [zc0,zdh]) 1 1=([0],true):=by
  unfold zai;rw[easy_lvs,ut easy_mayP,zp8 _ 32 (ug _),ur yn];simp[za4]
theorem zkW:prE [zc0,zdh] 1 1=0:=by
  unfold prE;rw[zuu,ur yn,ur yn]
theorem easy_pr:prOf [zc0,zdh] 1 1=ziZ:=by
  unfold prOf;rw[ut zkW];unfold zR;rw[zoD];rfl
def yAt (p:Proof) (i:Nat):Part:=p.p.getD i zPartD
def stepOk (p:Proof) (i:Nat):Prop :=
  prevF (yAt p i) (yAt p (i-1)) ((p.p.length:Int)-p.k≤(i:Int)) (zdo (yAt p (i-1)).h)=0∧linkF (yAt p i) (zdo (yAt p 0).h) (zdo (yAt p (i-1)).h)=0∧workF (yAt p i)=0
def beginOk (a:Part):Prop:=zbh a.h.bits=true∧a.l.length=0∧a.h=(zar a.h.bits).b.h
structure HoldsP (p:Proof):Prop where
  m1:1≤p.m
  m2:p.m≤20
  k1:1≤p.k
  k2:p.k≤20
  l1:p.k<p.p.length
  l2:p.p.length≤100
  fst:beginOk (yAt p 0)
  steps:∀i,1≤i→i<p.p.length→stepOk p i
theorem prevF_zero {y z:Part} {last:Prop} [Decidable last] {d:Ab.Id}:prevF y z last d=0↔z.h.height<y.h.height∧y.h.bits=z.h.bits∧(last→y.h.height=IntKind.i64.wrap (z.h.height+1)∧y.h.prev=d):=by
  unfold prevF
  constructor
  · intro h
    have hn:¬(y.h.height≤z.h.height∨¬y.h.bits=z.h.bits∨last∧(¬y.h.height=IntKind.i64.wrap (z.h.height+1)∨¬y.h.prev=d)):=fun c=>by rw[ut c] at h;cases h
    refine⟨Int.not_le.1 fun c=>hn (.inl c),ua fun c=>hn (.inr (.inl c)),fun hl=>⟨ua fun c=>hn (.inr (.inr ⟨hl,.inl c⟩)),ua fun c=>hn (.inr (.inr ⟨hl,.inr c⟩))⟩⟩
  rintro ⟨h1,h2,h3⟩
  rw[ur]
  rintro (c|c|⟨hl,c|c⟩)
  · omega
  · exact c h2
  · exact c (h3 hl).1
  exact c (h3 hl).2
theorem at_ (p:Proof) {i:Nat} (h:i<p.p.length):p.p[i]?=some (yAt p i):=by unfold yAt;rw[ub h];simp[h]
theorem HoldsP.step {p:Proof} (h:HoldsP p) {i:Nat} (h1:1≤i) (h2:i<p.p.length) :
    (yAt p (i-1)).h.height<(yAt p i).h.height∧(yAt p i).h.bits=(yAt p (i-1)).h.bits∧((p.p.length:Int)-p.k≤(i:Int)→(yAt p i).h.height=IntKind.i64.wrap ((yAt p (i-1)).h.height+1)∧(yAt p i).h.prev=zdo (yAt p (i-1)).h):=prevF_zero.1 (h.steps i h1 h2).1
theorem ztc (bits:UInt32):(zar bits).b.h.height=0:=by
  unfold zar
  split<;>rfl
theorem HoldsP.zero {p:Proof} (h:HoldsP p):(yAt p 0).h.height=0:=by rw[h.fst.2.2];exact ztc _
theorem HoldsP.rise {p:Proof} (h:HoldsP p):∀i,i<p.p.length→0≤(yAt p i).h.height
  | 0,_=>by rw[h.zero];exact Int.le_refl _
  | i+1,hi=>by
    have:=h.rise i ya
    have:=(h.step (i:=i+1) ya hi).1
    rw[Nat.add_sub_cancel] at this;omega
theorem HoldsP.bits {p:Proof} (h:HoldsP p):∀i,i<p.p.length→(yAt p i).h.bits=(yAt p 0).h.bits
  | 0,_=>rfl
  | i+1,hi=>by
    have:=(h.step (i:=i+1) ya hi).2.1
    rw[Nat.add_sub_cancel] at this;rw[this];exact h.bits i ya
theorem two_ok:Tells P 29 [] (.val (sl zU) [zc0,zdh]):=by
 refine zc Tryz.func29 rfl rfl rfl (fun ext w hext=>?_);refine qb0 ?_;refine A0 (oCl (newC_ok 545259519) rfl fn_71 yc) ?_;refine A0 mX ?_;refine qco ?_;refine zj (d:=7) (y:=[zc0]) rfl easy_newOf ?_;refine qc5 ?_;refine A0 aV ?_;refine qaA ?_;refine A0 (oCl (zbo (growC_ok [zc0] [] 0 zsg ⟨by decide,fun t ht=>by cases ht⟩)) rfl fn_72 ⟨yj,yb,yj,trivial⟩) ?_;refine A0 mX ?_;refine qco ?_;refine zj (d:=12) (y:=[zc0,zdh]) rfl easy_grown ?_;refine qc5 ?_;refine A0 aV ?_;refine qaA ?_;refine qac ?_;exact zd rfl rfl (za rfl (rfl))
theorem mayH_ok {h:Head} (hm:zbG h=true):hOk h=true:=by
  unfold zbG zW at hm;by_cases c:zbh h.bits=true∧hOk h=true
  · exact c.2
  rw[ur c] at hm;exact absurd hm yn
theorem zuz {l:List Block} {t:Tip} {k:Nat} {c:Block} (h:Chain l t) (hc:l[k]?=some c):c.h.height=k∧hOk c.h=true∧(k=0→c.l=[])∧(1≤k→c.h.links=zfR c.l):=by
  obtain⟨hk,_⟩:=ul.1 hc;by_cases k0:k=0
  · subst k0
    obtain⟨t',h1,_⟩:=zlR h (i:=1) (ug _) ya;have e:l.take 1=[c]:=by rw[show(1:Nat)=0+1 from rfl,un,hc];rfl
    rw[e] at h1;obtain⟨_,hb,_⟩:=zoK h1;rw[hb];exact⟨rfl,rfl,fun _=>rfl,fun c=>by omega⟩
  obtain⟨g,hg⟩:∃g,l[0]?=some g:=yq;obtain⟨a,ha⟩:∃a,l[k-1]?=some a:=yq;obtain⟨s1,_,_,_,_,_,s7,s8⟩:=zml h ya hc ha hg;exact⟨s1,mayH_ok s8,fun c=>absurd c k0,fun _=>s7⟩
theorem zwv (n:UInt64) {k:Nat} (hk:k≤64):(zaL (IntL.toI u64T (zaF n k))).toNat=n.toNat/2^k%256:=by
  unfold zaL;show(UInt8.ofNat ((((zaF n k).toNat:Nat):Int)%256).toNat).toNat=_;rw[zdK n hk,UInt8.toNat_ofNat_of_lt' ybP];omega
theorem zkH (n:UInt64) (s:Nat):zD n (s+1)=zaL (IntL.toI u64T (zaF n (8*s)))::zD n s:=by
  unfold zD;rw[List.range_succ_eq_map,List.map_cons,List.map_map];have e1:s+1-1-0=s:=ya;rw[e1];congr 1;apply List.map_congr_left;intro j _;show zaL (IntL.toI u64T (zaF n (8*(s+1-1-(j+1)))))=_;rw[show s+1-1-(j+1)=s-1-j by omega]
theorem zmb {n m:UInt64}:∀s:Nat,s≤8→zD n s=zD m s→n.toNat%2^(8*s)=m.toNat%2^(8*s)
  | 0,_,_=>by simp[Nat.mod_one]
  | s+1,hs,h=>by
    rw[zkH,zkH] at h;injection h with h1 h2;have ih:=zmb s ya h2;have h1:=congrArg UInt8.toNat h1;rw[zwv n ya,zwv m ya] at h1;rw[Nat.mul_add,Nat.pow_add,Nat.mod_mul,Nat.mod_mul (x:=m.toNat),ih,show 2^(8*1)=256 from rfl,h1]
theorem zgN {n m:UInt64} (h:zD n 8=zD m 8):n=m:=by
  have h1:=zmb 8 (ug _) h;have hn:n.toNat<18446744073709551616:=n.toNat_lt;have hm:m.toNat<18446744073709551616:=m.toNat_lt;rw[show(2:Nat)^(8*8)=18446744073709551616 from rfl,Nat.mod_eq_of_lt hn,Nat.mod_eq_of_lt hm] at h1;exact UInt64.toNat_inj.1 h1
theorem zj9 (a b c d:UInt64):zeR [a,b,c,d]=zD d 8++(zD c 8++(zD b 8++zD a 8)):=by rfl
theorem bytesW_inj {a b:Wide} (ha:a.length=4) (hb:b.length=4) (h:zeR a=zeR b):a=b:=by
  match a,ha with
  | [a0,a1,a2,a3],_=>match b,hb with
    | [b0,b1,b2,b3],_ =>
      rw[zj9,zj9] at h;obtain⟨h3,h⟩:=List.append_inj h (by rw[zE,zE]);obtain⟨h2,h⟩:=List.append_inj h (by rw[zE,zE]);obtain⟨h1,h0⟩:=List.append_inj h (by rw[zE,zE]);rw[zgN h0,zgN h1,zgN h2,zgN h3]
def HW (h:Head):Prop:=h.prev.length=32∧h.links.length=32∧h.txs.length=32∧h.past.length=32∧h.work.length=4
theorem zdt {n:Int} (h0:0≤n) (h1:n<4294967296):(zL n).toNat=n.toNat:=by
  unfold zL;rw[UInt64.toNat_ofNat_of_lt' yV];omega
theorem hOk_iff {h:Head}:hOk h=true↔0≤h.height∧h.height≤1048576:=by unfold hOk;rw[uj]
theorem zn8 (h:Head):-1≤zW h∧zW h≤31:=by
  unfold zW
  split
  · split
    · exact⟨by omega,by omega⟩
    have:=zku (f:=zgR (ze8 (zdo h)) (tgtW h.bits)) 0 32 yn
    unfold zn9;exact⟨by omega,by omega⟩
  exact⟨by omega,by omega⟩
theorem mayH_level {h:Head} (hm:zbG h=true):0≤zW h:=by
  have:=(zn8 h).1
  unfold zbG at hm;rw[Bool.not_eq_true',decide_eq_false_iff_not] at hm;omega
theorem lvl_at {l:List Block} {k:Nat} {b:Block} (hb:l[k]?=some b):(zp l)[k]?=some (zW b.h):=by unfold zp;rw[List.getElem?_map,hb];rfl
theorem zoL {l:List Block} {t:Tip} {k:Nat} {b:Block} (h:Chain l t) (hb:l[k]?=some b):0≤zW b.h∧(k=0→zW b.h=31):=by
  obtain⟨hk,_⟩:=ul.1 hb;by_cases k0:k=0
  · subst k0
    obtain⟨t',h1,_⟩:=zlR h (i:=1) (ug _) ya;have e:l.take 1=[b]:=by rw[show(1:Nat)=0+1 from rfl,un,hb];rfl
    rw[e] at h1;obtain⟨ht,hb,_⟩:=zoK h1;have e2:zW b.h=31:=by
      rw[hb];unfold zW;rw[ut ⟨ht,rfl⟩];rfl
    exact⟨by omega,fun _=>e2⟩
  obtain⟨g,hg⟩:∃g,l[0]?=some g:=yq;obtain⟨a,ha⟩:∃a,l[k-1]?=some a:=yq;exact⟨mayH_level (zml h ya hb ha hg).2.2.2.2.2.2.2,fun c=>absurd c k0⟩
theorem chain_mayV {l:List Block} {t:Tip} (h:Chain l t):mayV (zp l)=true:=by
  have hlen:=(zk1 h).2.2.1;have hpos:0<l.length:=List.length_pos_iff.2 (zm3 (congrArg (·.2) h));obtain⟨g,hg⟩:∃g,l[0]?=some g:=⟨_,ub hpos⟩;have hl:(zp l).length=l.length:=zfT l;unfold mayV;rw[uk,uj,Bool.not_eq_true',List.any_eq_false];refine⟨⟨by omega,by omega,?_⟩,fun n hn=>?_⟩
  · rw[lvl_at hg,(zoL h hg).2 rfl]
  unfold zp at hn;obtain⟨b,hb,rfl⟩:=List.mem_map.1 hn;obtain⟨k,hk⟩:=List.getElem?_of_mem hb;have h1:=(zoL h hk).1;have h2:=(zn8 b.h).2;rw[uj];omega
theorem ztp {v:List Int} {m k:Int} (h:mayP v m k=true):∀i:Nat,i≤32→∀n,n≤i→(zaA v m k n).1≤(zaA v m k i).1
  | 0,_,n,hn=>by rw[show n=0 by omega];exact Int.le_refl _
  | i+1,hi,n,hn=>by
    by_cases e:n=i+1
    · rw[e];exact Int.le_refl _
    refine Int.le_trans (ztp h i ya n ya) ?_;obtain⟨L,hL⟩:∃L,L=upOf v (zaA v m k i).1 ((v.length:Int)-k) (31-(i:Int)):=⟨_,rfl⟩;have hl:=zfQ h;by_cases c:m<L.length
    · obtain⟨z,hz⟩:∃z,L[L.length-m.toNat]?=some z:=yq
      rw[←zdP hL hz c];have hm:=ud hz;rw[hL] at hm;obtain⟨j,rfl,h4,_⟩:=zec.1 hm;exact h4
    rw[←zeC hL c];exact Int.le_refl _
theorem zp6 {v:List Int} {m k:Int}:∀i:Nat,∀n,n≤i→∀x∈(zaA v m k n).2,x∈(zaA v m k i).2
  | 0,n,hn,x,hx=>by rw[show n=0 by omega] at hx;exact hx
  | i+1,n,hn,x,hx=>by
    by_cases e:n=i+1
    · rw[e] at hx;exact hx
    have:=zp6 i n ya x hx
    show x∈List.foldl zdA _ _;rw[zgk];exact .inl this
theorem climb_zero {v:List Int} {m k:Int} (h:mayP v m k=true):(0:Int)∈(zaA v m k 32).2:=by
  refine zp6 32 1 ya 0 ?_;show(0:Int)∈List.foldl zdA _ _;rw[zgk];refine .inr (zec.2 ⟨0,rfl,Int.le_refl _,?_,?_,?_⟩)
  · have:=zfQ h;omega
  · have:=zfQ h;omega
  have h0:=(zet (zcY h).1).2.2.1;simp[h0]
theorem upR_rising (v:List Int) (n:Int) (a i:Nat):(upR v n a i).Pairwise (· < ·):=by
  unfold upR;rw[List.pairwise_map];refine List.Pairwise.imp (R:=fun a b:Nat=>a<b) (fun h=>by omega) ?_;exact(List.pairwise_lt_range' ..).sublist List.filter_sublist
theorem ze1 (v:List Int) (a b n:Int):(upOf v a b n).Pairwise (· < ·):=upR_rising ..
theorem ztV {l:List Int} (h:l.Nodup):(za4 l).Pairwise (· < ·):=by
  have h1:=zhO l;have h2:(za4 l).Nodup:=(List.mergeSort_perm l _).symm.nodup h;exact(h1.and h2).imp fun h=>by have:=h.1;have:=h.2;omega
theorem zhW (v:List Int) (m k:Int):(zai v m k).1.Pairwise (· < ·):=by
  unfold zai
  split
  · rename_i c;exact ztV (zjr c 32 (ug _)).2.1
  exact List.Pairwise.nil
theorem zt7 {v:List Int} {m k:Int} (h:mayP v m k=true):(0:Int)∈(zai v m k).1:=by
  unfold zai;rw[ut h];exact zmC.2 (climb_zero h)
theorem zsA {L M:List Int} (hL:L.Pairwise (· < ·)) (hM:M.Pairwise (· < ·)) (hsub:∀x∈M,x∈L):M.length≤L.length:=by
  induction L generalizing M with
  | nil =>
    match M with
    | []=>exact ug _
    | x::_=>exact absurd (hsub x (List.mem_cons_self ..)) yw
  | cons a L ih =>
    rw[List.pairwise_cons] at hL;have hf:(M.filter fun x=>decide (x≠a)).length≤L.length:=ih hL.2 (hM.sublist List.filter_sublist) (fun x hx=>by
      rw[List.mem_filter] at hx;have h1:=hsub x hx.1;have h2:=of_decide_eq_true hx.2;exact(List.mem_cons.1 h1).resolve_left h2)
    have h1:(M.filter fun x=>!decide (x≠a)).length≤1:=by
      have hs:=hM.sublist (List.filter_sublist (p:=fun x=>!decide (x≠a)))
      match he:M.filter (fun x=>!decide (x≠a)) with
      | []=>simp
      | [_]=>simp
      | b::c::r =>
        rw[he,List.pairwise_cons] at hs;have hb:b∈M.filter (fun x=>!decide (x≠a)):=by rw[he];simp
        have hc:c∈M.filter (fun x=>!decide (x≠a)):=by rw[he];simp
        simp only[List.mem_filter,Bool.not_eq_true',decide_eq_false_iff_not,Decidable.not_not] at hb hc
        have:=hs.1 c yw
        omega
    have:=zlK (fun x=>decide (x≠a)) M
    rw[List.length_cons];omega
theorem zdm {L:List Int} (hL:L.Pairwise (· < ·)) {i j:Nat} {x y:Int} (hi:L[i]?=some x) (hj:L[j]?=some y):x<y↔i<j:=by
  obtain⟨h1,e1⟩:=ul.1 hi;obtain⟨h2,e2⟩:=ul.1 hj;have hp:=List.pairwise_iff_getElem.1 hL
  constructor
  · intro h
    rcases Nat.lt_trichotomy i j with c|c|c
    · exact c
    · subst c;omega
    have:=hp j i h2 h1 c;omega
  intro h
  have:=hp i j h1 h2 h;omega
structure BuildOk (l:List Block) (m k:Int):Prop where
  c:(zaf l).2=0
  m1:1≤m
  m2:m≤20
  k1:1≤k
  k2:k≤20
  kl:k<l.length
theorem zm5 {l:List Block} {m k:Int} (h:prE l m k=0):BuildOk l m k:=by
  unfold prE at h;by_cases hc:(zaf l).2=0
  · rw[ur (fun q=>q hc)] at h
    by_cases q:m<1∨20<m∨k<1∨20<k∨(l.length:Int)≤k
    · rw[ut q] at h;cases h
    exact⟨hc,by omega,by omega,by omega,by omega,by omega⟩
  rw[ut hc] at h;exact absurd h hc
section
variable {l:List Block} {m k:Int}
theorem build_may (h:BuildOk l m k):mayP (zp l) m k=true:=by
  have h1:=h.m1;have h2:=h.k1;have h3:=h.kl;unfold mayP;rw[chain_mayV (zm2 h.c),ui (by rw[zfT];omega)];rfl
theorem build_is {l:List Block} {m k:Int} (h:prE l m k=0):prOf l m k=⟨m,k,(zR l m k).map (zcW l)⟩:=by unfold prOf;rw[ut h]
theorem zsT (l:List Block) (k:Int):((List.range k.toNat).map fun j:Nat=>(l.length:Int)-k+(j:Int)).Pairwise (· < ·):=by
  rw[List.pairwise_map];exact(List.pairwise_lt_range ..).imp fun h=>by omega
theorem zfN (h:BuildOk l m k):(zR l m k).Pairwise (· < ·):=by
  have hl:=zfT l;unfold zR;rw[List.pairwise_append];refine⟨zhW ..,zsT ..,fun a ha b hb=>?_⟩;have h1:=(zly ha).2;obtain⟨j,_,rfl⟩:=List.mem_map.1 hb;rw[hl] at h1;omega
theorem places_at (h:BuildOk l m k) {i:Nat} {x:Int} (hx:(zR l m k)[i]?=some x) :
    (0≤x∧x<l.length)∧((i<(zai (zp l) m k).1.length∧(zai (zp l) m k).1[i]?=some x)∨((zai (zp l) m k).1.length≤i∧(l.length:Int)-k≤x)):=by
  refine⟨zeb ⟨h.k1,h.kl⟩ (ud hx),?_⟩;unfold zR at hx;by_cases c:i<(zai (zp l) m k).1.length
  · rw[List.getElem?_append_left c] at hx
    exact .inl ⟨c,hx⟩
  rw[List.getElem?_append_right ya] at hx;obtain⟨j,_,rfl⟩:=List.mem_map.1 (ud hx);exact .inr ⟨by omega,by omega⟩
theorem places_len (h:BuildOk l m k):(zR l m k).length=(zai (zp l) m k).1.length+k.toNat:=by unfold zR;simp
theorem zl9 (h:BuildOk l m k):(zR l m k)[0]?=some 0:=by
  have h0:=zt7 (build_may h);have hs:=zhW (zp l) m k;unfold zR
  match hp:(zai (zp l) m k).1 with
  | []=>rw[hp] at h0;cases h0
  | a::r =>
    rw[hp] at h0 hs;have ha:=(zly (v:=zp l) (m:=m) (k:=k) (x:=a) (by rw[hp];exact List.mem_cons_self ..)).1;rcases List.mem_cons.1 h0 with e|e
    · rw[←e];rfl
    have:=(List.pairwise_cons.1 hs).1 0 e
    omega
theorem znS (h:BuildOk l m k):(zR l m k)[(zR l m k).length-1]?=some ((l.length:Int)-1):=by
  have h1:=h.k1;rw[places_len h];unfold zR;rw[List.getElem?_append_right ya,List.getElem?_map,List.getElem?_range ya];simp only[Option.map_some,Option.some.injEq];omega
theorem zqQ (h:BuildOk l m k) {i:Nat} {x:Int} (hx:(zR l m k)[i]?=some x) :
    ∃b:Block,l[x.toNat]?=some b∧b.h.height=x∧((zR l m k).map (zcW l))[i]?=some ⟨b.h,b.l⟩:=by
  have hr:=(places_at h hx).1;obtain⟨b,hb⟩:∃b,l[x.toNat]?=some b:=yq;refine⟨b,hb,?_,?_⟩
  · have:=(zuz (zm2 h.c) hb).1
    omega
  rw[List.getElem?_map,hx];have e:l.getD x.toNat default=b:=by rw[uq,hb];rfl
  show some (zcW l x)=_;unfold zcW;rw[e]
end
set_option maxRecDepth 20000
theorem zko {α:Type} {p:List α→Prop} (h0:p []) (h1:∀l x,p l→p (l++[x])):∀l,p l:=fun l=>by
  have:∀r:List α,p r.reverse:=fun r=>by
    induction r with
    | nil=>exact h0
    | cons x r ih=>rw[List.reverse_cons];exact h1 _ _ ih
  have:=this l.reverse
  rwa [List.reverse_reverse] at this
theorem i64_sub (x y:Int):decide (x<y)=decide (x-y<0):=by rw[uo];omega
def cstep (out:List Int) (x:Int):List Int:=if out.getLast?=some x then out else out++[x]
def zZ (l:List Int):List Int:=l.foldl cstep []
theorem zfe (l:List Int) (x:Int):zZ (l++[x])=cstep (zZ l) x:=by unfold zZ;rw[List.foldl_append];rfl
theorem ztl {l:List Int} {k:Nat} {x:Int} (h:l[k]?=some x):zZ (l.take (k+1))=cstep (zZ (l.take k)) x:=by
  rw[un,h];exact zfe _ x
theorem zmj:∀l:List Int,(zZ l).getLast?=l.getLast?:=fun l=>by
  refine zko (p:=fun l=>(zZ l).getLast?=l.getLast?) rfl (fun l x ih=>?_) l
  · show(zZ (l++[x])).getLast?=(l++[x]).getLast?
    rw[zfe];unfold cstep
    split
    · rename_i c;rw[c];simp
    simp
theorem zj7 (l:List Int):(zZ l).length≤l.length:=by
  refine zko (p:=fun l=>(zZ l).length≤l.length) (ug _) (fun l x ih=>?_) l
  · show(zZ (l++[x])).length≤(l++[x]).length
    rw[zfe];unfold cstep
    split<;>simp<;>omega
theorem last_take {l:List Int} {k:Nat} {x:Int} (h:l[k]?=some x):(l.take (k+1)).getLast?=some x:=by
  rw[un,h];simp
theorem zf2 {l:List Int} {k:Nat} {x y:Int} (hx:l[k]?=some x) (hy:l[k+1]?=some y):zZ (l.take (k+2))=if x=y then zZ (l.take (k+1)) else zZ (l.take (k+1))++[y]:=by
  rw[ztl (k:=k+1) hy];unfold cstep;rw[zmj,last_take hx];simp only[Option.some.injEq]
def swpI {α:Type} [Inhabited α] (l:List α) (k:Nat):List α:=(List.range l.length).map fun j=>if j<k∨l.length-k≤j then l.getD (l.length-1-j) default else l.getD j default
theorem zhM {α:Type} [Inhabited α] {l:List α} {k:Nat}:(swpI l k).length=l.length:=by unfold swpI;simp
theorem zlm {α:Type} [Inhabited α] {l:List α} {k j:Nat} (h:j<l.length):(swpI l k)[j]?=some (if j<k∨l.length-k≤j then l.getD (l.length-1-j) default else l.getD j default):=by
  unfold swpI;rw[List.getElem?_map,List.getElem?_range h];rfl
theorem swpI_zero {α:Type} [Inhabited α] {l:List α}:swpI l 0=l:=by
  apply List.ext_getElem?;intro j;by_cases h:j<l.length
  · rw[zlm h,ur ya,uq,ub h];rfl
  rw[List.getElem?_eq_none (by rw[zhM];omega),List.getElem?_eq_none ya]
theorem swpI_step {α:Type} [Inhabited α] {l:List α} {k:Nat} {x y:α} (hk:2*(k+1)≤l.length) (hx:(swpI l k)[k]?=some x) (hy:(swpI l k)[l.length-1-k]?=some y):((swpI l k).set k y).set (l.length-1-k) x=swpI l (k+1):=by
  rw[zlm ya,ur ya] at hx;rw[zlm ya,ur ya] at hy;injection hx with hx;injection hy with hy;apply List.ext_getElem?;intro j;by_cases h:j<l.length
  · rw[zlm h,List.getElem?_set]
    by_cases c:l.length-1-k=j
    · rw[ut c,ut (by rw[List.length_set,zhM];omega),ut ya,←hx]
      congr 2;omega
    rw[ur c,List.getElem?_set];by_cases d:k=j
    · rw[ut d,ut (by rw[zhM];omega),ut ya,←hy]
      congr 2;omega
    rw[ur d,zlm h];by_cases e:j<k∨l.length-k≤j
    · rw[ut e,ut ya]
    rw[ur e,ur ya]
  rw[List.getElem?_eq_none (by rw[List.length_set,List.length_set,zhM];omega),List.getElem?_eq_none (by rw[zhM];omega)]
theorem swpI_end {α:Type} [Inhabited α] {l:List α} {k:Nat} (h1:2*k≤l.length) (h2:¬(k:Int)<(l.length:Int)-1-k):swpI l k=l.reverse:=by
  apply List.ext_getElem?;intro j;by_cases h:j<l.length
  · rw[zlm h,List.getElem?_reverse h,ub ya]
    congr 1
    split
    · rw[uq,ub ya];rfl
    have e:j=l.length-1-j:=ya;rw[uq,ub ya];show l[j]=_;congr 1
  rw[List.getElem?_eq_none (by rw[zhM];omega),List.getElem?_eq_none (by rw[List.length_reverse];omega)]
def Fresh (l:List Int) (k:Nat):Prop:=zZ (l.take k)=l.take k
theorem fresh_one (l:List Int) (h:1≤l.length):Fresh l 1:=by
  cases l with
  | nil=>simp at h
  | cons x l=>rfl
theorem fresh_go {l:List Int} {k:Nat} {x y:Int} (h:Fresh l (k+1)) (hx:l[k]?=some x) (hy:l[k+1]?=some y) (hn:¬y=x):Fresh l (k+2):=by
  unfold Fresh at h ⊢;rw[zf2 hx hy,ur (fun e=>hn e.symm),h];have e:l.take (k+1+1)=l.take (k+1)++(l[k+1]?).toList:=un;rw[hy] at e;exact e.symm
theorem fresh_dup {l:List Int} {k:Nat} {x y:Int} (h:Fresh l (k+1)) (hx:l[k]?=some x) (hy:l[k+1]?=some y) (hn:y=x):zZ (l.take (k+2))=l.take (k+1):=by
  rw[zf2 hx hy,ut hn.symm,h]
def zhq (l:List Int) (i:Nat):List Int:=zZ (l.take i)++l.drop (zZ (l.take i)).length
theorem rowAt_len {l:List Int} {i:Nat} (h:i≤l.length):(zhq l i).length=l.length:=by
  unfold zhq
  have:=zj7 (l.take i)
  rw[um] at this;rw[ue,List.length_drop];omega
theorem zsv {l:List Int} {i j:Nat} (h:(zZ (l.take i)).length≤j):(zhq l i)[j]?=l[j]?:=by
  unfold zhq;rw[List.getElem?_append_right h,List.getElem?_drop];congr 1;omega
theorem rowAt_same {l:List Int} {i:Nat} {x y:Int} (hx:l[i]?=some x) (hy:l[i+1]?=some y) (h:x=y):zhq l (i+2)=zhq l (i+1):=by
  unfold zhq;rw[zf2 hx hy,ut h]
theorem set_app {α:Type} (a b:List α) (y:α) (h:0<b.length):(a++b).set a.length y=a++[y]++b.drop 1:=by
  cases b with
  | nil=>simp at h
  | cons z b=>rw[List.set_append_right _ _ (ug _),Nat.sub_self];simp
theorem rowAt_new {l:List Int} {i:Nat} {x y:Int} (hx:l[i]?=some x) (hy:l[i+1]?=some y) (h:¬x=y) (hc:(zZ (l.take (i+1))).length<l.length):(zhq l (i+1)).set (zZ (l.take (i+1))).length y=zhq l (i+2):=by
  unfold zhq;rw[zf2 hx hy,ur h,set_app _ _ _ yaF,List.drop_drop,ue];rfl
theorem ztZ {l:List Int} {k:Nat} (h:zZ (l.take (k+2))=l.take (k+1)) (hk:k+1≤l.length):zhq l (k+2)=l:=by
  unfold zhq;rw[h,um,Nat.min_eq_left hk,List.take_append_drop]
theorem zry {l:List Int} (h:l.length<2):zZ l=l:=by
  match l,h with
  | [],_=>rfl
  | [x],_=>rfl
theorem sNaN_ok (x:Int):Tells P 78 [.val i64T x] (.val zs false):=by
 refine zc Tryz.func78 rfl rfl rfl (fun ext w hext=>?_);refine ze (d:=0) rfl zu (fun hin0=>?_);refine CQR ?_;refine qbr ?_;refine A0 zgB ?_;refine qac ?_;exact zd rfl rfl (zdn (by simp[Fr.set]))
theorem lessInt_ok (x y:Int):Tells P 77 [.val i64T x,.val i64T y] (.val zs (decide (x<y))):=by
 refine zc Tryz.func77 rfl rfl rfl (fun ext w hext=>?_);refine ze (d:=0) rfl zu (fun hin0=>?_);refine ze (d:=1) rfl zu (fun hin1=>?_);refine qdt ?_;refine A0 (oCl (zrf x) rfl fn_132 yc) ?_;refine qau ?_;refine zgs (d:=7) rfl (rfl) ?_;refine qab ?_;refine qbA ?_;refine A1 mV ?_;refine A1 zbb ?_;refine qaS ?_;exact zd rfl rfl (za rfl (rfl))
theorem growInt (n:Nat) (hn:n≤1000000000):Tells P 195 [.lit (.slice none 0 0),.val i64T (n:Int)] (.fresh 3 i64T []):=by
 refine zc Tryz.func195 rfl rfl rfl (fun ext w hext=>?_);refine ze (d:=1) rfl zu (fun hin1=>?_);refine qap ?_;refine qbe ?_;refine qav ?_;refine zha rfl (uh (by show ¬((n:Int)<0);omega)) ?_;refine qbP ?_;refine A0 mL ?_;refine A0 (zhz rfl rfl zdc) ?_;refine A0 mL ?_;refine A0 yaL ?_;refine A0 za5 ?_;refine A0 za5 ?_;refine qaA ?_;refine qbT ?_;refine zq (p:=0<n) rfl yax (fun ht16=>?_) (fun ht16=>?_)
 ·
  refine CR ?_;refine A0 mL ?_;refine A0 mL ?_;refine A0 (zhz rfl rfl zdc) ?_;refine A0 (by first|exact zfV rfl rfl rfl yaC zba|exact zkQ rfl rfl rfl zba yg) ?_;refine qau ?_;refine zlV (T:=i64T) (n:=n) rfl rfl rfl rfl rfl rfl yaC zeQ ze_3 (ui_3) (⟨by assumption,by omega,by omega⟩) ?_;refine A0 mL ?_;refine A0 yaL ?_;refine A0 (zop (q:=0) rfl rfl rfl rfl zba yi yg) ?_;refine A0 aS ?_;refine CNQR ?_;refine A0 mS ?_;refine A0 aS ?_;refine CN ?_;exact zd rfl rfl (zjT rfl rfl yy rfl)
 refine CSQR ?_;refine A0 mL ?_;refine A0 aL ?_;refine CN ?_;exact zd rfl rfl (zm rfl)
theorem concatInt (ls:List (List Int)) (hl:ls.flatten.length≤1000000000):Tells P 136 [.val (bsl (bsl i64T)) ls] (.fresh 3 i64T ls.flatten):=by
 refine zc Tryz.func136 rfl rfl rfl (fun ext w hext=>?_);refine ze (d:=0) rfl zi (fun hsl0=>?_);refine qb0 ?_;refine qaj ?_;refine A0 (zat rfl rfl isl_239) ?_;refine qaP ?_;refine Lp (ι:=Nat) 0 (fun (k:Nat)=>(((((Fr.none).set 0 (.val (bsl (bsl i64T)) ls)).set 3 (.val i64T ((ls.take k).flatten.length:Int))).set 9 (.val (bsl (bsl i64T)) ls)).set 10 (.val i64T (ls.length:Int))).set 11 (.val i64T (k:Int))) (fun (k:Nat)=>Hp.none) (fun (k:Nat)=>k≤ls.length) (fun (k:Nat)=>ls.length-k) (0) (uf _) ?_;intro k hinv;refine qar ?_;refine Cf (p:=k<ls.length) (fun ht12=>?_) (fun ht12=>?_)
 ·
  obtain⟨x,hx⟩:∃x,ls[k]?=some x:=⟨_,ub ht12⟩;have hle:=zeg ls (k+1);rw[zaO hx,ue] at hle;refine CSQBQR ?_;refine A0 (zbH rfl rfl rfl sl_239 yh) ?_;refine A0 (zh rfl rfl zgA) ?_;refine A0 aX ?_;refine qcZ ?_;refine A0 mX ?_;refine A0 yaL ?_;refine A0 zcn ?_;refine qaA ?_;refine qav ?_;refine zha rfl (uh yal) ?_;refine qcp ?_;refine zj (d:=3) (y:=((ls.take (k+1)).flatten.length:Int)) rfl (by rw[zaO hx,ue];omega) ?_;exact Nx (k+1) ya ya
 refine zj (d:=3) (y:=((ls.flatten.length:Nat):Int)) rfl yO ?_;refine qcu ?_;refine zaH (growInt ls.flatten.length hl) rfl fn_195 yci rfl rfl rfl ?_;refine A0 aO ?_;refine qbe ?_;refine A0 (zat rfl rfl isl_239) ?_;refine qaP ?_;refine Lp (ι:=Nat) 1 (fun k=>(((Fr.none.set 6 (.own 0)).set 25 (.val (bsl (bsl i64T)) ls)).set 26 (.val i64T (ls.length:Int))).set 27 (.val i64T (k:Int))) (fun k=>Hp.none.set 0 (.row 3 i64T (ls.take k).flatten)) (fun k=>k≤ls.length) (fun k=>ls.length-k) (0) (uf _) ?_;intro k hinv;refine qar ?_;refine Cf (p:=k<ls.length) (fun ht28=>?_) (fun ht28=>?_)
 ·
  obtain⟨x,hx⟩:∃x,ls[k]?=some x:=⟨_,ub ht28⟩;have hle:=zeg ls (k+1);rw[zaO hx,ue] at hle;refine CSQBQR ?_;refine A0 (zbH rfl rfl rfl sl_239 yh) ?_;refine A0 (zh rfl rfl zgA) ?_;refine A0 aX ?_;refine CNR ?_;refine A0 mO ?_;refine A0 mX ?_;refine zo rfl rfl rfl rfl rfl rfl rfl zeQ ya ?_;refine A0 aO ?_;refine qbK ?_;refine qbx ?_;refine zl (n:=0) rfl (zaO hx).symm ?_;exact Nx (k+1) ya ya
 refine qa0 ?_;exact zd rfl rfl (zf rfl rfl yO)
theorem revInt (l:List Int) (hl:l.length≤1000000000000):zfl P 81 (.row 3 i64T l) [.own 0] (.lit (.tuple #[])) (.row 3 i64T l.reverse):=by
 refine zgl trivial Tryz.func81 rfl rfl ⟨Nat.one_pos,trivial⟩ (fun ext pg w hext hgr=>?_);refine zjw (n:=0) rfl (fun hrl=>?_);refine qcb ?_;refine A0 (zbV rfl rfl rfl zdc) ?_;refine A0 za5 ?_;refine A0 aV ?_;refine qbQ ?_;refine zl (n:=0) (y:=swpI l 0) rfl swpI_zero.symm ?_;refine zj (d:=3) (y:=(l.length:Int)-1-((0:Nat):Int)) rfl ya ?_;refine Lp (ι:=Nat) 1 (fun (k:Nat)=>(((Fr.none).set 0 (.own 0)).set 2 (.val i64T (k:Int))).set 3 (.val i64T ((l.length:Int)-1-k))) (fun (k:Nat)=>(Hp.none).set 0 (.row 3 i64T (swpI l k))) (fun (k:Nat)=>2*k≤l.length) (fun (k:Nat)=>l.length-k) (0) (uf _) ?_;intro k hinv;refine qaW ?_;refine qav ?_;refine Cf (p:=(k:Int)<(l.length:Int)-1-k) (fun ht9=>?_) (fun ht9=>?_)
 ·
  have hsl:=zhM (l:=l) (k:=k);obtain⟨x,hx⟩:∃x,(swpI l k)[k]?=some x:=yq;obtain⟨y,hy⟩:∃y,(swpI l k)[l.length-1-k]?=some y:=yq;have hsl2:((swpI l k).set k y).length=l.length:=by rw[List.length_set,hsl]
  have hy2:((swpI l k).set k y)[l.length-1-k]?=some y:=by rw[List.getElem?_set_ne ya];exact hy
  refine qa8 ?_;refine zH [some 1,some 1,some 1000001,some 1000001,some 1,some 1,some 1,some 1,some 1,some 1,some 1,some 1,some 1,none,some 1,none] mixed yd ?_;refine qcR ?_;refine XK.ga (fun _=>g_mo (.inl rfl) rfl) rfl rfl rfl ?_;refine XK.ga (fun _=>g_mv (.inl rfl) rfl) rfl rfl rfl ?_;refine qcR ?_;refine X0 (zaQ (i:=l.length-1-k) rfl rfl rfl rfl yi zba yg) ?_;refine X0 (zcw rfl rfl rfl rfl yh (Lens.self _) ty_3) ?_;refine qcR ?_;refine X0 (zaQ (i:=k) rfl rfl rfl rfl yi zba yg) ?_;refine X0 (zcw rfl rfl rfl rfl yh (Lens.self _) ty_3) ?_;refine X0 (zaQ (i:=k) rfl rfl rfl rfl yi zba yg) ?_;refine XK.e (x:=.idk) (fun fr' hfr kk H=>by exact zc6 rfl rfl rfl ((hfr 26 yd).trans rfl) rfl rfl yh (Lens.self _) ty_3 ((hfr 21 yd).trans rfl) (zM H)) ?_;refine X0 (zaQ (i:=l.length-1-k) rfl rfl rfl rfl yi zba yg) ?_;refine XK.e (x:=.idk) (fun fr' hfr kk H=>by exact zc6 rfl rfl rfl ((hfr 27 yd).trans rfl) rfl rfl yh (Lens.self _) ty_3 ((hfr 25 yd).trans rfl) (zM H)) ?_;refine qaX ?_;refine qc2 ?_;refine qbS ?_;refine qaI ?_;refine zl (n:=0) (y:=swpI l (k+1)) rfl (swpI_step ya hx hy) ?_;refine zj (d:=3) (y:=(l.length:Int)-1-((k+1:Nat):Int)) rfl ya ?_;exact Nx (k+1) ya ya
 refine CE ?_;exact ztD rfl rfl rfl rfl rfl (give_row rfl (swpI_end hinv ht9))
theorem bsInt_ok (l:List Int) (y:Int) (hl:l.length<4611686018427387904):Tells P 36 [.val (bsl i64T) l,.val i64T y] (.tup2 (.val i64T (halves (fun x=>x-y) l 0 l.length:Nat)) (.val zs (zfq (fun x=>x-y) l (halves (fun x=>x-y) l 0 l.length)))):=by
 refine zc Tryz.func36 rfl rfl rfl (fun ext w hext=>?_);refine ze (d:=0) rfl zi (fun hsl0=>?_);refine ze (d:=1) rfl zu (fun hin1=>?_);refine CQR ?_;refine A0 aV ?_;refine qaA ?_;refine qbt ?_;refine qaA ?_;refine A0 aV ?_;refine qaY ?_;refine CB ?_;refine Lp (ι:=Nat×Nat) 0 (fun (i:Nat×Nat)=>match i with|(lo,hi)=>(((((Fr.none).set 0 (.val (bsl i64T) l)).set 1 (.val i64T y)).set 6 (.val i64T (l.length:Int))).set 7 (.val i64T (lo:Int))).set 8 (.val i64T (hi:Int))) (fun (i:Nat×Nat)=>match i with|(lo,hi)=>Hp.none) (fun (i:Nat×Nat)=>match i with|(lo,hi)=>lo≤hi∧hi≤l.length∧halves (fun x=>x-y) l 0 l.length=halves (fun x=>x-y) l lo hi) (fun (i:Nat×Nat)=>match i with|(lo,hi)=>hi-lo) ((0,l.length)) (⟨uf _,ug _,rfl⟩) ?_;intro⟨lo,hi⟩ hinv;dsimp only at hinv;refine qaW ?_;refine qav ?_;refine Cf (p:=lo<hi) (fun ht15=>?_) (fun ht15=>?_)
 ·
  obtain⟨x,hx⟩:∃x,l[(lo+hi)/2]?=some x:=yq;refine qdu ?_;refine xi ?_;refine A0 (zhy rfl (ui_3) (zuX) rfl (mid_eq ya)) ?_;refine qbr ?_;refine A0 (zr (i:=(lo+hi)/2) rfl rfl rfl ya zba yh) ?_;refine qaR ?_;refine qau ?_;refine A0 (oCl (lessInt_ok x y) rfl fn_77 yci) ?_;refine CN ?_;refine zq (p:=x-y<0) rfl ((i64_sub _ _)) (fun ht27=>?_) (fun ht27=>?_)
  ·
   refine CR ?_;refine qak ?_;refine CI ?_;exact Nx (((lo+hi)/2+1,hi)) yaW yaH
  refine CR ?_;refine qau ?_;refine qac ?_;refine CI ?_;exact Nx ((lo,(lo+hi)/2)) yaW yaH
 refine qdl ?_;refine qad ?_;refine qau ?_;refine A0 zbb ?_;refine Sp (d:=34) (p:=lo<l.length) (fun g34=>?_) (fun g34=>?_)
 ·
  obtain⟨x,hx⟩:∃x,l[lo]?=some x:=⟨_,ub g34⟩;refine qbR ?_;refine A1 mV ?_;refine A1 (zr (i:=lo) rfl rfl rfl ya zba yh) ?_;refine qcQ ?_;refine A1 mV ?_;refine A1 zbZ ?_;refine Sp (d:=41) (p:=x=y) (fun g41=>?_) (fun g41=>?_)
  ·
   refine A1 mV ?_;refine qbc ?_;refine A3 ?_;refine A3 ?_;refine A2 ?_;refine A1 oK ?_;refine A0 oK ?_;refine qaI ?_;exact zx rfl rfl (za rfl yaK) (za rfl (by rw[hinv.2.2,show hi=lo by omega,zcB];unfold zfq;rw[hx];symm;exact ui (show x-y=0 by omega)))
  refine A1 mV ?_;refine A1 mV ?_;refine A1 mV ?_;refine A1 (zr (i:=lo) rfl rfl rfl ya zba yh) ?_;refine qcQ ?_;refine A1 (oCl (sNaN_ok x) rfl fn_78 ycg) ?_;refine zgs (d:=47) rfl (rfl) ?_;refine A1 mV ?_;refine qbB ?_;refine A1 oK ?_;refine A1 oK ?_;refine A0 oK ?_;refine qaI ?_;exact zx rfl rfl (za rfl yaK) (za rfl (by rw[hinv.2.2,show hi=lo by omega,zcB];unfold zfq;rw[hx];symm;exact uh (show ¬x-y=0 by omega)))
 refine qau ?_;refine qbc ?_;refine A2 ?_;refine qci ?_;refine A3 ?_;refine A3 ?_;refine A3 ?_;refine A3 ?_;refine A2 ?_;refine A0 oK ?_;refine qaI ?_;exact zx rfl rfl (za rfl yaK) (za rfl (by rw[hinv.2.2,show hi=lo by omega,zcB];unfold zfq;rw[List.getElem?_eq_none ya]))
theorem compactInt (l:List Int) (hl:l.length≤1000000000):zfl P 137 (.row 3 i64T l) [.own 0] (.fresh 3 i64T (zZ l)) (.none_):=by
 refine zgl trivial Tryz.func137 rfl rfl ⟨Nat.one_pos,trivial⟩ (fun ext pg w hext hgr=>?_);refine zjw (n:=0) rfl (fun hrl=>?_);refine qap ?_;refine CNQQR ?_;refine A0 mO ?_;refine A0 (zbV rfl rfl rfl zdc) ?_;refine qav ?_;refine Cf (p:=l.length<2) (fun ht8=>?_) (fun ht8=>?_)
 ·
  refine qcb ?_;refine qbJ ?_;exact zd1 rfl rfl rfl rfl rfl zdp (zlv zdp (fun h=>h.elim) rfl rfl (zry ht8).symm)
 refine CSQQR ?_;refine qbQ ?_;refine Lp (ι:=Nat) 1 (fun (k:Nat)=>((Fr.none).set 0 (.own 0)).set 3 (.val i64T ((k:Int)+1))) (fun (k:Nat)=>(Hp.none).set 0 (.row 3 i64T l)) (fun (k:Nat)=>k+1≤l.length∧Fresh l (k+1)) (fun (k:Nat)=>l.length-k) (0) (⟨by omega,fresh_one l ya⟩) ?_;intro k hinv;refine qaF ?_;refine A0 mO ?_;refine A0 (zbV rfl rfl rfl zdc) ?_;refine qav ?_;refine Cf (p:=k+1<l.length) (fun ht13=>?_) (fun ht13=>?_)
 ·
  obtain⟨x,hx⟩:∃x,l[k]?=some x:=yq;obtain⟨y,hy⟩:∃y,l[k+1]?=some y:=⟨_,ub ht13⟩;refine qdi ?_;refine G0 mO ?_;refine G0 mV ?_;refine G0 (zaQ (i:=k+1) rfl rfl rfl rfl yi zba yg) ?_;refine xU ?_;refine qdk ?_;refine G0 (zaQ (i:=k) rfl rfl rfl rfl yi zba yg) ?_;refine xU ?_;refine G0 zbZ ?_;refine GK.nil ?_;refine Cf (p:=y=x) (fun ht25=>?_) (fun ht25=>?_)
  ·
   have hdup:=fresh_dup hinv.2 hx hy ht25;have hdl:(zZ (l.take (k+2))).length=k+1:=by rw[hdup,um];omega
   refine qcb ?_;refine qau ?_;refine A0 (zvX (p:=k+1) rfl rfl rfl rfl zba yi yg) ?_;refine A0 aS ?_;refine qaw ?_;refine zl (n:=0) (y:=zhq l (k+1+1)) rfl (ztZ hdup ya).symm ?_;refine zj (d:=3) (y:=((zZ (l.take (k+1+1))).length:Int)) rfl (by rw[hdl];omega) ?_;refine zj (d:=5) (y:=((k+1:Nat):Int)-k) rfl ya ?_;refine Lp (ι:=Nat) 1 (fun j=>(((Fr.none.set 0 (.own 0)).set 3 (.val i64T ((zZ (l.take (j+1))).length:Int))).set 4 (.osub 0 i64T.size (k+1) (l.length-(k+1)))).set 5 (.val i64T ((j:Int)-k))) (fun j=>Hp.none.set 0 (.row 3 i64T (zhq l (j+1)))) (fun j=>k+1≤j∧j<l.length∧(zZ (l.take (j+1))).length≤j) (fun j=>l.length-j) (k+1) (⟨ug _,by omega,by rw[hdl];omega⟩) ?_;intro j hj;refine qaF ?_;refine A0 mS ?_;refine A0 (g_len_s rfl rfl ya zdc) ?_;refine qav ?_;refine Cf (p:=j+1<l.length) (fun ht32=>?_) (fun ht32=>?_)
   ·
    have hrw:=rowAt_len (l:=l) (i:=j+1) ya;obtain⟨x2,hx2⟩:∃x,l[j]?=some x:=yq;obtain⟨y2,hy2⟩:∃y,l[j+1]?=some y:=⟨_,ub ht32⟩;have hxr:(zhq l (j+1))[k+1+(j-k-1)]?=some x2:=by rw[show k+1+(j-k-1)=j by omega,zsv hj.2.2];exact hx2
    have hyr:(zhq l (j+1))[k+1+(j-k)]?=some y2:=by rw[show k+1+(j-k)=j+1 by omega,zsv ya];exact hy2
    refine qdi ?_;refine G0 mS ?_;refine G0 mV ?_;refine G0 (g_ia_s (i:=j-k) rfl rfl rfl yi zba yg) ?_;refine xU ?_;refine G0 mS ?_;refine G0 mV ?_;refine G0 za5 ?_;refine G0 (g_ia_s (i:=j-k-1) rfl rfl rfl yi zba yg) ?_;refine xU ?_;refine G0 zgB ?_;refine GK.nil ?_;refine Cf (p:=¬y2=x2) (fun ht44=>?_) (fun ht44=>?_)
    ·
     obtain⟨z,hz⟩:∃z,(zhq l (j+1))[(zZ (l.take (j+1))).length]?=some z:=yq;have hcl:(zZ (l.take (j+1+1))).length=(zZ (l.take (j+1))).length+1:=by rw[zf2 hx2 hy2,ur (fun e=>ht44 e.symm),ue];rfl
     refine qcb ?_;refine qau ?_;refine A0 mS ?_;refine qau ?_;refine A0 (g_ia_s (i:=j-k) rfl rfl rfl yi zba yg) ?_;refine A0 (zcw rfl rfl rfl rfl yh (Lens.self _) ty_3) ?_;refine A0 (zaQ (i:=(zZ (l.take (j+1))).length) rfl rfl rfl rfl yi zba yg) ?_;refine zc6 rfl rfl rfl rfl rfl rfl yh (Lens.self _) ty_3 rfl ?_;refine CNR ?_;refine qc2 ?_;refine A0 aV ?_;refine qaK ?_;refine zl (n:=0) (y:=zhq l (j+1+1)) rfl (rowAt_new hx2 hy2 (fun e=>ht44 e.symm) ya) ?_;refine zj (d:=3) (y:=((zZ (l.take (j+1+1))).length:Int)) rfl (by rw[hcl];omega) ?_;refine zj (d:=5) (y:=((j+1:Nat):Int)-k) rfl ya ?_;exact Nx (j+1) (⟨by omega,by omega,by omega⟩) ya
    have hcl:(zZ (l.take (j+1+1))).length=(zZ (l.take (j+1))).length:=by rw[zf2 hx2 hy2,ut (ua ht44).symm]
    refine qbN ?_;refine zl (n:=0) (y:=zhq l (j+1+1)) rfl (rowAt_same hx2 hy2 (ua ht44).symm).symm ?_;refine zj (d:=3) (y:=((zZ (l.take (j+1+1))).length:Int)) rfl (by rw[hcl]) ?_;refine zj (d:=5) (y:=((j+1:Nat):Int)-k) rfl ya ?_;exact Nx (j+1) (⟨by omega,by omega,by omega⟩) ya
   refine CE ?_;refine CQ ?_;have hjl:l.take (j+1)=l:=uc ya;have hcl:=zj7 l;have hcj:=hj.2.2;rw[hjl] at hcj;refine zl (n:=0) (y:=zZ l++l.drop (zZ l).length) rfl (by unfold zhq;rw[hjl]) ?_;refine zj (d:=3) (y:=((zZ l).length:Int)) rfl (by rw[hjl]) ?_;refine qbE ?_;refine qau ?_;refine A0 (zvX (p:=(zZ l).length) rfl rfl rfl rfl zba yi yg) ?_;refine zwB rfl rfl rfl rfl rfl zeQ ze_3 yy ?_;refine CNQR ?_;refine A0 mO ?_;refine qau ?_;refine A0 (zop (q:=(zZ l).length) rfl rfl rfl rfl zba yi yg) ?_;refine A0 aS ?_;refine CN ?_;exact zd1 rfl rfl rfl rfl rfl zdp (zl8 rfl rfl yy (by rw[List.take_append_of_le_length yw];simp))
  refine qbN ?_;refine zj (d:=3) (y:=((k+1:Nat):Int)+1) rfl ya ?_;exact Nx (k+1) (⟨by omega,fresh_go hinv.2 hx hy ht25⟩) ya
 refine qa0 ?_;exact zd1 rfl rfl rfl rfl rfl zdp (zlv zdp (fun h=>h.elim) rfl rfl (by have h:=hinv.2;unfold Fresh at h;rw[uc ya] at h;exact h.symm))
end Go.Proofs.YtjjlfapfjjkomaaGreat
