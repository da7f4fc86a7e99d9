/- Parts of the proof: the layer that reads Go values as data, and what the functions of the program tell. -/
import Derived.Test.YtjjlfapfjjkomaaGreatK3
set_option linter.unusedVariables false
set_option linter.unusedSimpArgs false
set_option maxRecDepth 20000
namespace Go.Proofs.YtjjlfapfjjkomaaGreat
open Go.Ab Go.RowKit
theorem ext_bcmp:ExtAt P 330 Extern.BytealgCompare.compare:=⟨_,rfl,rfl,rfl,rfl,rfl⟩
def orL:List Int→Int
  | []=>0
  | x::l=>if x=0 then orL l else x
theorem orL_step {l:List Int} {k:Nat} {x:Int} (h:l[k]?=some x) (e:¬x≠0):orL (l.drop k)=orL (l.drop (k+1)):=by
  obtain⟨hk,rfl⟩:=ul.1 h;rw[List.drop_eq_getElem_cons hk];simp[orL,ua e]
theorem orL_hit {l:List Int} {k:Nat} {x:Int} (h:l[k]?=some x) (e:x≠0):orL (l.drop k)=x:=by
  obtain⟨hk,rfl⟩:=ul.1 h;rw[List.drop_eq_getElem_cons hk];simp[orL,e]
theorem orInt (l:List Int):Tells P 268 [.val (bsl i64T) l] (.val i64T (orL l)):=by
 refine zc Tryz.func268 rfl rfl rfl (fun ext w hext=>?_);refine ze (d:=0) rfl zi (fun hsl0=>?_);refine CQR ?_;refine qah ?_;refine qaj ?_;refine qbt ?_;refine qaP ?_;refine Lp (ι:=Nat) 0 (fun (k:Nat)=>((((Fr.none).set 3 (.val i64T 0)).set 6 (.val (bsl i64T) l)).set 7 (.val i64T (l.length:Int))).set 8 (.val i64T (k:Int))) (fun (k:Nat)=>Hp.none) (fun (k:Nat)=>k≤l.length∧orL l=orL (l.drop k)) (fun (k:Nat)=>l.length-k) (0) (⟨uf _,rfl⟩) ?_;intro k hinv;refine qar ?_;refine Cf (p:=k<l.length) (fun ht9=>?_) (fun ht9=>?_)
 ·
  obtain⟨x,hx⟩:∃x,l[k]?=some x:=ybF;refine CSQBQR ?_;refine A0 (zbH rfl rfl rfl zba yh) ?_;refine qaR ?_;refine qcf ?_;refine qau ?_;refine qaO ?_;refine zq (p:=x≠0) rfl yN (fun ht14=>?_) (fun ht14=>?_)
  ·
   refine CQR ?_;refine A0 mX ?_;refine qbg ?_;exact zd rfl rfl (za rfl (hinv.2.trans (orL_hit hx ht14)).symm)
  refine qcp ?_;exact Nx (k+1) (⟨by omega,hinv.2.trans (orL_step hx ht14)⟩) ya
 refine qcu ?_;refine qac ?_;exact zd rfl rfl (za rfl (by rw[hinv.2,List.drop_of_length_le ya];rfl))
theorem bcompare (a b:List UInt8):Tells P 314 [.val (bsl u8T) a,.val (bsl u8T) b] (.val i64T (Lib.compareBytes a b)):=by
 refine zc Tryz.func314 rfl rfl rfl (fun ext w hext=>?_);refine ze (d:=0) rfl zi (fun hsl0=>?_);refine ze (d:=1) rfl zi (fun hsl1=>?_);refine CQR ?_;refine qbr ?_;refine A0 (g_bcmp rfl ext_bcmp rfl rfl) ?_;refine qbg ?_;exact zd rfl rfl yG
def zaY (a b:In):Int:=orL [Lib.compareBytes a.tx b.tx,zi5 a.i b.i]
theorem zqU (a b:In):Tells P 279 [.val inT a,.val inT b] (.val i64T (zaY a b)):=by
 refine zc Tryz.func279 rfl rfl rfl (fun ext w hext=>?_);refine qa3 ?_;refine qcU ?_;refine G0 (oFp zdd) ?_;refine G0 (zom rfl rfl zfj rfl rfl) ?_;refine G0 (oFp zdd) ?_;refine G0 (zom rfl rfl zfj rfl rfl) ?_;refine G0 (oCl (bcompare _ _) rfl fn_314 ⟨(by exact arg_vw rfl rfl zeX),(by exact arg_vw rfl rfl zeX),trivial⟩) ?_;refine G0 (oFp zb1) ?_;refine G0 (oLb zfn ty_3) ?_;refine G0 (oFp zb1) ?_;refine G0 (oLb zfn ty_3) ?_;refine G0 (oCl (cmpInt_ok _ _) rfl fn_315 ye) ?_;refine G0 (zag (T:=i64T) (xs:=[_,_]) rfl zba zeQ yaD rfl rfl) ?_;refine G0 (oCl (orInt _) rfl fn_268 yc) ?_;refine qaV ?_;exact zd rfl rfl yG
theorem zc7 {p:Nat→Bool} {k:Nat} (h:(List.range k).all p=true) (hk:p k=true):(List.range (k+1)).all p=true:=by
  rw[List.range_succ,List.all_append,h];simp[hk]
theorem ze0 {p:Nat→Bool} {k n:Nat} (hk:k<n) (h:p k=false):(List.range n).all p=false:=by
  rw[List.all_eq_false];exact⟨k,by simpa using hk,by simp[h]⟩
def zgV (c:Coin):Bool:=decide (0≤c.inn.i∧c.inn.i<3∧1≤c.out.v∧c.out.v≤1099511627776∧0≤c.out.to∧c.out.to≤255)
def zi4 (p:List Coin) (k:Nat):Bool:=match p[k]? with
  | none=>true
  | some c=>zgV c&&(match k with|0=>true|k+1=>match p[k]? with|none=>true|some b=>decide (zaY b.inn c.inn<0))
def zaw (p:List Coin):Bool:=(List.range p.length).all (zi4 p)&&decide (p.length≤48)
theorem zck {p:List Coin} {k:Nat} {c:Coin} (h:p[k]?=some c) (hk:k<p.length) (hb:¬(0≤c.inn.i∧c.inn.i<3∧1≤c.out.v∧c.out.v≤1099511627776∧0≤c.out.to∧c.out.to≤255)):zaw p=false:=by
  unfold zaw;rw[ze0 hk (by unfold zi4 zgV;rw[h];simp only[uh hb,Bool.false_and]),Bool.false_and]
theorem zi3 {p:List Coin} {k:Nat} {b c:Coin} (h:p[k]?=some c) (hk:k<p.length) (h0:0<k) (hb:p[k-1]?=some b) (ho:¬zaY b.inn c.inn<0):zaw p=false:=by
  unfold zaw;obtain⟨m,rfl⟩:∃m,k=m+1:=⟨k-1,by omega⟩;simp only[Nat.add_sub_cancel] at hb;rw[ze0 hk (by unfold zi4;rw[h];simp only[hb,uh ho,Bool.and_false]),Bool.false_and]
theorem zgW {p:List Coin} {c:Coin} (h:p[0]?=some c) (hb:0≤c.inn.i∧c.inn.i<3∧1≤c.out.v∧c.out.v≤1099511627776∧0≤c.out.to∧c.out.to≤255):zi4 p 0=true:=by
  unfold zi4 zgV;rw[h];simp only[ui hb,Bool.and_self]
theorem zif {p:List Coin} {k:Nat} {b c:Coin} (h:p[k]?=some c) (h0:0<k) (hb:p[k-1]?=some b) (ho:zaY b.inn c.inn<0) (hc:0≤c.inn.i∧c.inn.i<3∧1≤c.out.v∧c.out.v≤1099511627776∧0≤c.out.to∧c.out.to≤255):zi4 p k=true:=by
  obtain⟨m,rfl⟩:∃m,k=m+1:=⟨k-1,by omega⟩;simp only[Nat.add_sub_cancel] at hb;unfold zi4 zgV;rw[h];simp only[hb,ui ho,ui hc,Bool.and_self]
theorem may_ok (p:List Coin):Tells P 234 [.val (bsl zaz) p] (.val zs (zaw p)):=by
 refine zc Tryz.func234 rfl rfl rfl (fun ext w hext=>?_);refine ze (d:=0) rfl zi (fun hsl0=>?_);refine CQR ?_;refine qaj ?_;refine qdn ?_;refine qaP ?_;refine Lp (ι:=Nat) 0 (fun (k:Nat)=>((((Fr.none).set 0 (.val (bsl zaz) p)).set 5 (.val (bsl zaz) p)).set 6 (.val i64T (p.length:Int))).set 7 (.val i64T (k:Int))) (fun (k:Nat)=>Hp.none) (fun (k:Nat)=>k≤p.length∧(List.range k).all (zi4 p)=true) (fun (k:Nat)=>p.length-k) (0) (⟨uf _,rfl⟩) ?_;intro k hinv;refine qar ?_;refine Cf (p:=k<p.length) (fun ht8=>?_) (fun ht8=>?_)
 ·
  obtain⟨c,hc⟩:∃c,p[k]?=some c:=⟨_,ub ht8⟩;refine qbh ?_;refine A0 (zbH rfl rfl rfl zfo yh) ?_;refine A0 (zh rfl rfl ze2) ?_;refine z8 zrT rfl rfl rfl rfl ?_;refine A0 aV ?_;refine zg rfl rfl rfl rfl rfl (Lens.self _) ze2 rfl ?_;refine CNQQR ?_;refine A0 (oFp zbM) ?_;refine A0 (oFp zb1) ?_;refine A0 (oLb (zaJ.comp zfn) ty_3) ?_;refine A0 zbb ?_;refine qau ?_;refine Sp (d:=16) (p:=c.inn.i<0) (fun g16=>?_) (fun g16=>?_)
  ·
   refine qdf ?_;refine qas ?_;refine qas ?_;refine qas ?_;refine qbu ?_;refine Ct ?_;refine qay ?_;exact zd rfl rfl (za rfl (zck hc ht8 ya).symm)
  refine A1 (oFp zbM) ?_;refine A1 (oFp zb1) ?_;refine A1 (oLb (zaJ.comp zfn) ty_3) ?_;refine A1 zer ?_;refine qaf ?_;refine Sp (d:=22) (p:=3≤c.inn.i) (fun g22=>?_) (fun g22=>?_)
  ·
   refine qdf ?_;refine qas ?_;refine qas ?_;refine qbu ?_;refine Ct ?_;refine qay ?_;exact zd rfl rfl (za rfl (zck hc ht8 ya).symm)
  refine A1 (oFp zdY) ?_;refine A1 (oFp zcx) ?_;refine A1 (oLb (zcl.comp zd7) ty_3) ?_;refine A1 zbb ?_;refine qaf ?_;refine Sp (d:=28) (p:=c.out.v<1) (fun g28=>?_) (fun g28=>?_)
  ·
   refine qdf ?_;refine qas ?_;refine qbu ?_;refine Ct ?_;refine qay ?_;exact zd rfl rfl (za rfl (zck hc ht8 ya).symm)
  refine A1 (oFp zdY) ?_;refine A1 (oFp zcx) ?_;refine A1 (oLb (zcl.comp zd7) ty_3) ?_;refine qdo ?_;refine qaf ?_;refine Sp (d:=34) (p:=1099511627776<c.out.v) (fun g34=>?_) (fun g34=>?_)
  ·
   refine qdf ?_;refine qbu ?_;refine Ct ?_;refine qay ?_;exact zd rfl rfl (za rfl (zck hc ht8 ya).symm)
  refine A1 (oFp zdY) ?_;refine A1 (oFp zdz) ?_;refine A1 (oLb (zcl.comp zeL) ty_3) ?_;refine A1 zbb ?_;refine qaf ?_;refine Sp (d:=40) (p:=c.out.to<0) (fun g40=>?_) (fun g40=>?_)
  ·
   refine qdf ?_;refine qao ?_;refine Ct ?_;refine qay ?_;exact zd rfl rfl (za rfl (zck hc ht8 ya).symm)
  refine A1 (oFp zdY) ?_;refine A1 (oFp zdz) ?_;refine A1 (oLb (zcl.comp zeL) ty_3) ?_;refine qdo ?_;refine A0 oK ?_;refine Sp (d:=45) (p:=255<c.out.to) (fun g45=>?_) (fun g45=>?_)
  ·
   refine CN ?_;refine Ct ?_;refine qay ?_;exact zd rfl rfl (za rfl (zck hc ht8 ya).symm)
  refine CN ?_;refine Cg ?_;refine CS ?_;refine qaG ?_;refine G0 mV ?_;refine G0 zjC ?_;refine G0 mV ?_;refine zbW (d:=48) (p:=0<k) rfl yF (fun g48=>?_) (fun g48=>?_)
  ·
   obtain⟨b,hb⟩:∃b,p[k-1]?=some b:=yq;refine G1 mV ?_;refine G1 mV ?_;refine G1 za5 ?_;refine G1 (zr (i:=k-1) rfl rfl rfl ya zfo yh) ?_;refine G1 (oFr zbM zaJ) ?_;refine G1 (zh rfl rfl zcc) ?_;refine G1 (oFp zbM) ?_;refine G1 (oLb zaJ zcc) ?_;refine G1 (oCl (zqU _ _) rfl fn_279 yci) ?_;refine G1 zer ?_;refine G0 oK ?_;refine zbW (d:=59) (p:=¬zaY b.inn c.inn<0) rfl yF (fun g59=>?_) (fun g59=>?_)
   ·
    refine GK.nil ?_;refine Ct ?_;refine qay ?_;exact zd rfl rfl (za rfl (zi3 hc ht8 ya hb g59).symm)
   refine GK.nil ?_;refine Cg ?_;refine qcp ?_;exact Nx (k+1) (⟨by omega,zc7 hinv.2 ybj⟩) ya
  refine qal ?_;refine qcF ?_;refine G2 ?_;refine qcg ?_;refine Cg ?_;refine qcp ?_;exact Nx (k+1) (⟨by omega,zc7 hinv.2 ybj⟩) ya
 refine qcu ?_;refine qdn ?_;refine A0 zfp ?_;refine qac ?_;exact zd rfl rfl (za rfl ybg)
set_option maxRecDepth 20000
def zcU {α:Type} (f:α→Int) (l:List α):Int:=l.foldl (fun n x=>IntKind.i64.wrap (n+f x)) 0
theorem zpf {α:Type} {f:α→Int} {l:List α} {k:Nat} {x:α} (h:l[k]?=some x):zcU f (l.take (k+1))=IntKind.i64.wrap (zcU f (l.take k)+f x):=by
  unfold zcU;rw[un,h,List.foldl_append];rfl
theorem worthOut (l:List Out) (f:Out→Int):Tells P 290 [.val (bsl outT) l,.fn1 P outT i64T f] (.val i64T (zcU f l)):=by
 refine zc Tryz.func290 rfl rfl rfl (fun ext w hext=>?_);refine ze (d:=0) rfl zi (fun hsl0=>?_);refine CQR ?_;refine qah ?_;refine qaj ?_;refine A0 (zat rfl rfl ziP) ?_;refine qaP ?_;refine Lp (ι:=Nat) 0 (fun (k:Nat)=>(((((Fr.none).set 1 (.fn1 P outT i64T f)).set 5 (.val i64T (zcU f (l.take k)))).set 8 (.val (bsl outT) l)).set 9 (.val i64T (l.length:Int))).set 10 (.val i64T (k:Int))) (fun (k:Nat)=>Hp.none) (fun (k:Nat)=>k≤l.length) (fun (k:Nat)=>l.length-k) (0) (uf _) ?_;intro k hinv;refine qar ?_;refine Cf (p:=k<l.length) (fun ht11=>?_) (fun ht11=>?_)
 ·
  obtain⟨x,hx⟩:∃x,l[k]?=some x:=ybM;refine CSQBQR ?_;refine A0 (zbH rfl rfl rfl zf7 yh) ?_;refine qcK ?_;refine CNR ?_;refine qau ?_;refine A0 mF ?_;refine A0 (oLs rfl rfl rfl zf3) ?_;refine A0 (zkR rfl rfl yj) ?_;refine A0 zcn ?_;refine A0 aV ?_;refine qbK ?_;refine zj (d:=5) rfl (zpf hx).symm ?_;exact Nx (k+1) ya ya
 refine qcu ?_;refine qac ?_;exact zd rfl rfl (za rfl yO)
theorem zvx (o:Out):Tells P 291 [.val outT o] (.val i64T o.v):=by
 refine zc Tryz.func291 rfl rfl rfl (fun ext w hext=>?_);refine qae ?_;refine qah ?_;refine A0 (oFp zcx) ?_;refine A0 (oLb zd7 ty_3) ?_;refine qac ?_;exact zd rfl rfl yG
theorem outs_ok (t:Tx):Tells P 238 [.val txT t] (.val i64T (zcU (·.v) t.outs)):=by
 refine zc Tryz.func238 rfl rfl rfl (fun ext w hext=>?_);refine qae ?_;refine qah ?_;refine A0 (oFp zcb) ?_;refine A0 (oLb zbJ zeO) ?_;refine A0 (oCl (worthOut _ _) rfl fn_290 ⟨yj,(by first|exact zeI (Cs:=[]) rfl fn_291 yJ trivial rfl (fun x=>zvx _)|exact zeH (Cs:=[]) rfl fn_291 yJ trivial rfl (fun x y=>zvx _)|exact zeJ rfl),trivial⟩) ?_;refine qac ?_;exact zd rfl rfl yG
theorem zvH (id:Ab.Id) (c:Coin):Tells P 287 [.val zaz c,.rptr idT id] (.val zs (decide (c.inn.tx=id))):=by
 refine zc Tryz.func287 rfl rfl rfl (fun ext w hext=>?_);refine qae ?_;refine qah ?_;refine A0 (oFp zbM) ?_;refine A0 (oFp zdd) ?_;refine A0 (oLb (zaJ.comp zeX) zab) ?_;refine A0 (zh rfl rfl zab) ?_;refine A0 (zim rfl rfl rfl (zjH)) ?_;refine qac ?_;exact zd rfl rfl yG
theorem made2_ok (a b:Coin):Tells P 289 [.val zaz a,.val zaz b] (.val i64T (zaY a.inn b.inn)):=by
 refine zc Tryz.func289 rfl rfl rfl (fun ext w hext=>?_);refine qa3 ?_;refine qah ?_;refine A0 (oFp zbM) ?_;refine A0 (oLb zaJ zcc) ?_;refine A0 (oFp zbM) ?_;refine A0 (oLb zaJ zcc) ?_;refine A0 (oCl (zqU _ _) rfl fn_279 ye) ?_;refine qac ?_;exact zd rfl rfl yG
theorem zsJ (c:Coin) (x:In):Tells P 317 [.val zaz c,.val inT x] (.val i64T (zaY c.inn x)):=by
 refine zc Tryz.func317 rfl rfl rfl (fun ext w hext=>?_);refine qa3 ?_;refine qah ?_;refine A0 (oFp zbM) ?_;refine A0 (oLb zaJ zcc) ?_;refine A0 (oLs rfl rfl rfl zcc) ?_;refine A0 (oCl (zqU _ _) rfl fn_279 ye) ?_;refine qac ?_;exact zd rfl rfl yG
theorem indexIn (l:List In) (v:In):Tells P 318 [.val (bsl inT) l,.val inT v] (.val i64T (idx (fun c=>decide (v=c)) l)):=by
 refine zc Tryz.func318 rfl rfl rfl (fun ext w hext=>?_);refine ze (d:=0) rfl zi (fun hsl0=>?_);refine qae ?_;refine qaj ?_;refine A0 (zat rfl rfl zgf) ?_;refine qaP ?_;refine Lp (ι:=Nat) 1 (fun (k:Nat)=>(((((Fr.none).set 0 (.val (bsl inT) l)).set 3 (.ptr 0 0)).set 6 (.val (bsl inT) l)).set 7 (.val i64T (l.length:Int))).set 8 (.val i64T (k:Int))) (fun (k:Nat)=>(Hp.none).set 0 (.box 218 inT v)) (fun (k:Nat)=>k≤l.length∧idx (fun c=>decide (v=c)) l=shift k (idx (fun c=>decide (v=c)) (l.drop k))) (fun (k:Nat)=>l.length-k) (0) (⟨uf _,zjh _ l⟩) ?_;intro k hinv;refine qar ?_;refine Cf (p:=k<l.length) (fun ht9=>?_) (fun ht9=>?_)
 ·
  obtain⟨x,hx⟩:∃x,l[k]?=some x:=ybF;refine qbh ?_;refine qcU ?_;refine G0 (oLs rfl rfl rfl zcc) ?_;refine qbv ?_;refine G0 (zbH rfl rfl rfl ze5 yh) ?_;refine G0 (zh rfl rfl zcc) ?_;refine G0 (zim rfl rfl rfl (zoA)) ?_;refine GK.nil ?_;refine zq (p:=decide (v=x)=true) rfl yw (fun ht16=>?_) (fun ht16=>?_)
  ·
   refine qa7 ?_;refine qac ?_;exact zd rfl rfl (za rfl (hinv.2.trans (zoe hx ht16)).symm)
  refine qcp ?_;exact Nx (k+1) (⟨by omega,hinv.2.trans (zs0 hx ht16)⟩) ya
 refine qcT ?_;exact zd rfl rfl (za rfl (hinv.2.trans (zog ya)).symm)
theorem containsIn (l:List In) (v:In):Tells P 283 [.val (bsl inT) l,.val inT v] (.val zs (l.any fun c=>decide (v=c))):=by
 refine zc Tryz.func283 rfl rfl rfl (fun ext w hext=>?_);refine ze (d:=0) rfl zi (fun hsl0=>?_);refine qae ?_;refine qaA ?_;refine A0 (oLs rfl rfl rfl zcc) ?_;refine A0 (oCl (indexIn _ _) rfl fn_318 ye) ?_;refine A0 zer ?_;refine qac ?_;exact zd rfl rfl (za rfl (zoh _ l))
theorem odd_ok (o:Out):Tells P 284 [.val outT o] (.val zs (decide (o.v<1∨1099511627776<o.v∨o.to<0∨255<o.to))):=by
 refine zc Tryz.func284 rfl rfl rfl (fun ext w hext=>?_);refine qae ?_;refine qah ?_;refine A0 (oFp zcx) ?_;refine A0 (oLb zd7 ty_3) ?_;refine A0 zbb ?_;refine qau ?_;refine Sp (d:=6) (p:=o.v<1) (fun g6=>?_) (fun g6=>?_)
 ·
  refine qab ?_;refine qcL ?_;refine qcL ?_;refine qaS ?_;exact zd rfl rfl (za rfl yaB)
 refine A1 (oFp zcx) ?_;refine A1 (oLb zd7 ty_3) ?_;refine qdo ?_;refine qaf ?_;refine Sp (d:=11) (p:=1099511627776<o.v) (fun g11=>?_) (fun g11=>?_)
 ·
  refine qab ?_;refine qcL ?_;refine qaS ?_;exact zd rfl rfl (za rfl yaB)
 refine A1 (oFp zdz) ?_;refine A1 (oLb zeL ty_3) ?_;refine A1 zbb ?_;refine qaf ?_;refine Sp (d:=16) (p:=o.to<0) (fun g16=>?_) (fun g16=>?_)
 ·
  refine qab ?_;refine qaS ?_;exact zd rfl rfl (za rfl yaB)
 refine A1 (oFp zdz) ?_;refine A1 (oLb zeL ty_3) ?_;refine qdo ?_;refine A0 oK ?_;refine Sp (d:=20) (p:=255<o.to) (fun g20=>?_) (fun g20=>?_)
 ·
  refine qac ?_;exact zd rfl rfl (za rfl yaB)
 refine qac ?_;exact zd rfl rfl (za rfl yaB)
def zma (o:Out):Bool:=decide (o.v<1∨1099511627776<o.v∨o.to<0∨255<o.to)
def inAt (t:Tx) (k:Nat):Bool:=match t.ins[k]? with
  | none=>true
  | some x=>decide (0≤x.i∧x.i<3) && !((t.ins.take k).any fun c=>decide (x=c))
def zaN (t:Tx):Bool:=(List.range t.ins.length).all (inAt t)&&(decide (t.ins.length≤3)&&(decide (0<t.outs.length)&&(decide (t.outs.length≤3) && !(t.outs.any zma))))
theorem zdw {t:Tx} {k:Nat} {x:In} (h:t.ins[k]?=some x) (hk:k<t.ins.length) (hb:¬(0≤x.i∧x.i<3)):zaN t=false:=by
  unfold zaN;rw[ze0 hk (by unfold inAt;rw[h];simp only[uh hb,Bool.false_and]),Bool.false_and]
theorem zci {t:Tx} {k:Nat} {x:In} (h:t.ins[k]?=some x) (hk:k<t.ins.length) (hb:((t.ins.take k).any fun c=>decide (x=c))=true):zaN t=false:=by
  unfold zaN;rw[ze0 hk (by unfold inAt;rw[h];simp only[hb,Bool.not_true,Bool.and_false]),Bool.false_and]
theorem zsZ {t:Tx} {k:Nat} {x:In} (h:t.ins[k]?=some x) (hb:0≤x.i∧x.i<3) (hc:¬((t.ins.take k).any fun c=>decide (x=c))=true):inAt t k=true:=by
  unfold inAt;rw[h];simp only[ui hb,Bool.true_and];cases hh:((t.ins.take k).any fun c=>decide (x=c)) with
  | true=>exact absurd hh hc
  | false=>rfl
theorem zq6 (t:Tx):Tells P 236 [.val txT t] (.val zs (zaN t)):=by
 refine zc Tryz.func236 rfl rfl rfl (fun ext w hext=>?_);refine qae ?_;refine qc8 ?_;refine qa9 ?_;refine qaP ?_;refine Lp (ι:=Nat) 1 (fun (k:Nat)=>((((Fr.none).set 1 (.ptr 0 0)).set 7 (.val (sl inT) t.ins)).set 8 (.val i64T (t.ins.length:Int))).set 9 (.val i64T (k:Int))) (fun (k:Nat)=>(Hp.none).set 0 (.box 133 txT t)) (fun (k:Nat)=>k≤t.ins.length∧(List.range k).all (inAt t)=true) (fun (k:Nat)=>t.ins.length-k) (0) (⟨uf _,rfl⟩) ?_;intro k hinv;refine ze (d:=7) rfl zi (fun hsi=>?_);refine qar ?_;refine Cf (p:=k<t.ins.length) (fun ht10=>?_) (fun ht10=>?_)
 ·
  obtain⟨x,hx⟩:∃x,t.ins[k]?=some x:=⟨_,ub ht10⟩;refine qbh ?_;refine qcS ?_;refine A0 aV ?_;refine zg rfl rfl rfl rfl rfl (Lens.self _) zcc rfl ?_;refine CNQ ?_;refine CD mixed ?_;refine G0 (oFp zb1) ?_;refine G0 (oLb zfn ty_3) ?_;refine G0 zbb ?_;refine G0 mV ?_;refine zbW (d:=17) (p:=x.i<0) rfl yF (fun g17=>?_) (fun g17=>?_)
  ·
   refine qcF ?_;refine G0 oK ?_;refine G0 mV ?_;refine qal ?_;refine qcg ?_;refine Ct ?_;refine qay ?_;exact zd rfl rfl (za rfl (zdw hx ht10 ya).symm)
  refine G1 (oFp zb1) ?_;refine G1 (oLb zfn ty_3) ?_;refine G1 zer ?_;refine G0 oK ?_;refine G0 mV ?_;refine zbW (d:=22) (p:=3≤x.i) rfl yF (fun g22=>?_) (fun g22=>?_)
  ·
   refine qal ?_;refine qcg ?_;refine Ct ?_;refine qay ?_;exact zd rfl rfl (za rfl (zdw hx ht10 ya).symm)
  refine G1 (oFp zcy) ?_;refine G1 (oLb zcS zfz) ?_;refine G1 mV ?_;refine G1 (by first|exact zfV rfl rfl rfl yaC ze5|exact zkQ rfl rfl rfl ze5 yg) ?_;refine G1 (oLs rfl rfl rfl zcc) ?_;refine G1 (oCl (containsIn _ _) rfl fn_283 ye) ?_;refine qcg ?_;refine zq (p:=((t.ins.take k).any fun c=>decide (x=c))=true) rfl (Bool.decide_eq_true.symm) (fun ht29=>?_) (fun ht29=>?_)
  ·
   refine qay ?_;exact zd rfl rfl (za rfl (zci hx ht10 ht29).symm)
  refine qcp ?_;exact Nx (k+1) (⟨by omega,zc7 hinv.2 (zsZ hx ya ht29)⟩) ya
 refine qdl ?_;refine A0 aC ?_;refine CNQR ?_;refine qa9 ?_;refine A0 zfp ?_;refine qau ?_;refine Sp (d:=35) (p:=t.ins.length≤3) (fun g35=>?_) (fun g35=>?_)
 ·
  refine qbo ?_;refine qdo ?_;refine qaf ?_;refine Sp (d:=41) (p:=0<t.outs.length) (fun g41=>?_) (fun g41=>?_)
  ·
   refine qbo ?_;refine A1 zfp ?_;refine qaf ?_;refine Sp (d:=47) (p:=t.outs.length≤3) (fun g47=>?_) (fun g47=>?_)
   ·
    refine A1 (oFp zcb) ?_;refine A1 (oLb zbJ zeO) ?_;refine A1 mC ?_;refine A1 (oCl (zoF _ _) rfl fn_285 ⟨yj,(by first|exact zeI (Cs:=[]) rfl fn_284 yJ trivial rfl (fun x=>odd_ok _)|exact zeH (Cs:=[]) rfl fn_284 yJ trivial rfl (fun x y=>odd_ok _)|exact zeJ rfl),trivial⟩) ?_;refine A1 oN ?_;refine qaS ?_;exact zd rfl rfl (za rfl (by rw[show k=t.ins.length by omega] at hinv;unfold zaN;rw[hinv.2,ui g35,ui g41,ui g47];rfl))
   refine qab ?_;refine qbB ?_;refine qaS ?_;exact zd rfl rfl (za rfl (by unfold zaN;simp only[uh g47,Bool.false_and,Bool.and_false]))
  refine qdf ?_;refine qas ?_;refine A2 ?_;refine qaS ?_;exact zd rfl rfl (za rfl (by unfold zaN;simp only[uh g41,Bool.false_and,Bool.and_false]))
 refine qdf ?_;refine qas ?_;refine qas ?_;refine A2 ?_;refine qaS ?_;exact zd rfl rfl (za rfl (by unfold zaN;simp only[uh g35,Bool.false_and,Bool.and_false]))
def halves {α:Type} (c:α→Int) (l:List α) (lo hi:Nat):Nat :=
  if h:lo<hi then
    match l[(lo+hi)/2]? with
    | none=>lo
    | some x=>if c x<0 then halves c l ((lo+hi)/2+1) hi else halves c l lo ((lo+hi)/2)
  else lo
termination_by hi-lo
theorem ziR {α:Type} {c:α→Int} {l:List α} {lo hi:Nat} {x:α} (h:lo<hi) (hx:l[(lo+hi)/2]?=some x) (hc:c x<0):halves c l lo hi=halves c l ((lo+hi)/2+1) hi:=by
  rw[halves,dif_pos h];simp only[hx,ut hc]
theorem ziS {α:Type} {c:α→Int} {l:List α} {lo hi:Nat} {x:α} (h:lo<hi) (hx:l[(lo+hi)/2]?=some x) (hc:¬c x<0):halves c l lo hi=halves c l lo ((lo+hi)/2):=by
  rw[halves,dif_pos h];simp only[hx,ur hc]
theorem zcB {α:Type} {c:α→Int} {l:List α} {lo:Nat}:halves c l lo lo=lo:=by rw[halves,dif_neg (Nat.lt_irrefl _)]
def zfq {α:Type} (c:α→Int) (l:List α) (i:Nat):Bool:=match l[i]? with|none=>false|some x=>decide (c x=0)
theorem mid_eq {lo hi:Nat} (h:lo+hi<18446744073709551616):IntKind.i64.wrap (IntL.toI u64T (zaF (zL (IntL.toI i64T ((lo:Int)+(hi:Int)))) (IntL.toI u64T (1:UInt64)).toNat))=(((lo+hi)/2:Nat):Int):=by
  have e1:(zL ((lo:Int)+(hi:Int))).toNat=lo+hi:=by
    unfold zL;rw[UInt64.toNat_ofNat_of_lt' (by show(((lo:Int)+hi)%18446744073709551616).toNat<18446744073709551616;omega)];omega
  have e2:(zaF (zL ((lo:Int)+(hi:Int))) 1).toNat=(lo+hi)/2:=by
    unfold zaF;rw[e1,UInt64.toNat_ofNat_of_lt' (by show(lo+hi)/2^min 1 64<18446744073709551616;rw[show min 1 64=1 from rfl];omega)];rfl
  show IntKind.i64.wrap (((zaF (zL ((lo:Int)+(hi:Int))) 1).toNat:Nat):Int)=_;rw[e2];exact zah ya
theorem bsearch (l:List Coin) (y:In) (f:Coin→In→Int) (hl:l.length<4611686018427387904):Tells P 316 [.val (bsl zaz) l,.val inT y,.fn2 P zaz inT i64T f] (.tup2 (.val i64T (halves (fun x=>f x y) l 0 l.length:Nat)) (.val zs (zfq (fun x=>f x y) l (halves (fun x=>f x y) l 0 l.length)))):=by
 refine zc Tryz.func316 rfl rfl rfl (fun ext w hext=>?_);refine ze (d:=0) rfl zi (fun hsl0=>?_);refine qae ?_;refine A0 aV ?_;refine qaA ?_;refine qdn ?_;refine qaA ?_;refine A0 aV ?_;refine qaY ?_;refine CB ?_;refine Lp (ι:=Nat×Nat) 1 (fun(lo,hi)=>(((((Fr.none.set 0 (.val (bsl zaz) l)).set 2 (.fn2 P zaz inT i64T f)).set 4 (.ptr 0 0)).set 8 (.val i64T (l.length:Int))).set 9 (.val i64T (lo:Int))).set 10 (.val i64T (hi:Int))) (fun(lo,hi)=>Hp.none.set 0 (.box 218 inT y)) (fun(lo,hi)=>lo≤hi∧hi≤l.length∧halves (fun x=>f x y) l 0 l.length=halves (fun x=>f x y) l lo hi) (fun(lo,hi)=>hi-lo) ((0,l.length)) (⟨uf _,ug _,rfl⟩) ?_;intro⟨lo,hi⟩ hinv;dsimp only at hinv;refine qaW ?_;refine qav ?_;refine Cf (p:=lo<hi) (fun ht17=>?_) (fun ht17=>?_)
 ·
  obtain⟨x,hx⟩:∃x,l[(lo+hi)/2]?=some x:=yq;refine qdu ?_;refine xi ?_;refine A0 (zhy rfl (ui_3) (zuX) rfl (mid_eq ya)) ?_;refine qcU ?_;refine G0 mH ?_;refine qbv ?_;refine G0 (zbH rfl rfl rfl zfo yh) ?_;refine G0 (zh rfl rfl ze2) ?_;refine G0 (oLs rfl rfl rfl zcc) ?_;refine G0 (zmX rfl rfl yb yj) ?_;refine G0 zbb ?_;refine GK.nil ?_;refine Cf (p:=f x y<0) (fun ht31=>?_) (fun ht31=>?_)
  ·
   refine CR ?_;refine qak ?_;refine CI ?_;exact Nx (((lo+hi)/2+1,hi)) yaV yaH
  refine CR ?_;refine qau ?_;refine qac ?_;refine CI ?_;exact Nx ((lo,(lo+hi)/2)) yaV yaH
 refine CE ?_;refine qaG ?_;refine qbv ?_;refine G0 mV ?_;refine G0 zbb ?_;refine G0 mV ?_;refine zbW (d:=39) (p:=lo<l.length) rfl yF (fun g39=>?_) (fun g39=>?_)
 ·
  obtain⟨x,hx⟩:∃x,l[lo]?=some x:=⟨_,ub g39⟩;refine G1 mH ?_;refine G1 mV ?_;refine G1 mV ?_;refine G1 (zbH rfl rfl rfl zfo yh) ?_;refine G1 (zh rfl rfl ze2) ?_;refine G1 (oLs rfl rfl rfl zcc) ?_;refine G1 (zmX rfl rfl yb yj) ?_;refine G1 zbZ ?_;refine G0 oK ?_;refine G0 aV ?_;refine qaV ?_;exact zx rfl rfl (za rfl yaK) (za rfl (by rw[hinv.2.2,show hi=lo by omega,zcB];unfold zfq;rw[hx];rfl))
 refine qal ?_;refine G2 ?_;refine G2 ?_;refine G0 oK ?_;refine G0 aV ?_;refine qaV ?_;exact zx rfl rfl (za rfl yaK) (za rfl (by rw[hinv.2.2,show hi=lo by omega,zcB];unfold zfq;rw[List.getElem?_eq_none ya]))
def placeOf (p:List Coin) (x:In):Nat:=halves (fun c=>zaY c.inn x) p 0 p.length
def zlE (p:List Coin) (x:In):Bool:=zfq (fun c=>zaY c.inn x) p (placeOf p x)
theorem place_ok (p:List Coin) (x:In) (hl:p.length<4611686018427387904):Tells P 281 [.val (bsl zaz) p,.val inT x] (.tup2 (.val i64T (placeOf p x:Nat)) (.val zs (zlE p x))):=by
 refine zc Tryz.func281 rfl rfl rfl (fun ext w hext=>?_);refine ze (d:=0) rfl zi (fun hsl0=>?_);refine qae ?_;refine A0 aV ?_;refine qaA ?_;refine A0 (oLs rfl rfl rfl zcc) ?_;refine A0 (oCl (bsearch p x (fun c x=>zaY c.inn x) hl) rfl fn_316 ⟨yj,yj,(by first|exact zeI (Cs:=[]) rfl fn_317 yJ trivial rfl (fun x=>zsJ _ _)|exact zeH (Cs:=[]) rfl fn_317 yJ trivial rfl (fun x y=>zsJ _ _)|exact zeJ rfl),trivial⟩) ?_;refine qaa ?_;refine qaI ?_;exact zx rfl rfl (zdn rfl) (zdn rfl)
theorem delete_ok (l:List Coin) (i:Nat) (hi:i<l.length):zfl P 282 (.row 228 zaz l) [.own 0,.val i64T (i:Int),.val i64T ((i:Int)+1)] (.fresh 228 zaz (l.take i++l.drop (i+1))) (.none_):=by
 refine zgl trivial Tryz.func282 rfl rfl ⟨Nat.one_pos,⟨trivial,⟨trivial,trivial⟩⟩⟩ (fun ext pg w hext hgr=>?_);refine ze (d:=1) rfl zu (fun hin1=>?_);refine ze (d:=2) rfl zu (fun hin2=>?_);refine zjw (n:=0) rfl (fun hrl=>?_);refine qb0 ?_;refine A0 mO ?_;refine qad ?_;refine A0 mO ?_;refine A0 (zbV rfl rfl rfl zod) ?_;refine A0 (g_os_chk (p:=i) (q:=i+1) (r:=l.length) rfl rfl rfl rfl rfl rfl zfo yi yi yi yg) ?_;refine CNQQR ?_;refine qad ?_;refine A0 zbZ ?_;refine zgs (d:=16) rfl y9 ?_;refine CN ?_;refine Cg ?_;refine CSQR ?_;refine A0 mO ?_;refine A0 (zbV rfl rfl rfl zod) ?_;refine qaY ?_;refine xj ?_;refine qcR ?_;refine X0 (zop (q:=i) rfl rfl rfl rfl zfo yi yg) ?_;refine qcR ?_;refine X0 (zvX (p:=i+1) rfl rfl rfl rfl zfo yi yg) ?_;refine XK.e (fun fr' hfr kk H=>by exact ztH rfl rfl rfl rfl ((hfr 22 yd).trans rfl) ((hfr 25 yd).trans rfl) rfl zgJ ya (zM H)) ?_;refine X0 aS ?_;refine XK.nil' ?_;refine CQR ?_;refine A0 mS ?_;refine A0 mS ?_;refine A0 (g_len_s rfl rfl ya zod) ?_;refine qau ?_;refine A0 (g_os_lh (p:=i+(l.length-(i+1))) (q:=l.length) rfl rfl rfl rfl rfl zfo yi yi yg) ?_;refine zwB rfl rfl rfl rfl rfl zgJ zrT yy ?_;refine CNQR ?_;refine A0 mS ?_;refine A0 aS ?_;refine CN ?_;exact zd1 rfl rfl rfl rfl rfl zdp (zl8 rfl rfl yy (by rw[List.take_append_of_le_length yy,List.take_take,Nat.min_self,List.take_append_of_le_length yy];exact uc yy))
def rotl (x:UInt32) (n:Int):UInt32:=zsi x ((zL n)&&&31).toNat|||zel x (32-((zL n)&&&31)).toNat
theorem rotl_ok (x:UInt32) (n:Int):Tells P 309 [.val u32T x,.val i64T n] (.val u32T (rotl x n)):=by
 refine zc Tryz.func309 rfl rfl rfl (fun ext w hext=>?_);refine ze (d:=1) rfl zu (fun hin1=>?_);refine qdt ?_;refine A0 (zfc rfl (zr2) (us_3) rfl) ?_;refine A0 (zrp rfl rfl rfl) ?_;refine qbr ?_;refine A0 (zrj rfl rfl rfl ym rfl) ?_;refine qad ?_;refine A0 (g_sub64 rfl rfl rfl) ?_;refine A0 (zon rfl rfl rfl ym rfl) ?_;refine A0 (zpR rfl rfl rfl) ?_;refine qac ?_;exact zd rfl rfl (za rfl rfl)
theorem zvm (x:UInt32) (n:Int):Tells P 272 [.val u32T x,.val i64T n] (.val u32T (rotl x (IntKind.i64.wrap (0-n)))):=by
 refine zc Tryz.func272 rfl rfl rfl (fun ext w hext=>?_);refine ze (d:=1) rfl zu (fun hin1=>?_);refine CQR ?_;refine qbr ?_;refine A0 (g_neg rfl rfl rfl) ?_;refine A0 (oCl (rotl_ok _ _) rfl fn_309 ye) ?_;refine qac ?_;exact zd rfl rfl (za rfl rfl)
def shaK:List UInt32:=[1116352408,1899447441,3049323471,3921009573,961987163,1508970993,2453635748,2870763221,3624381080,310598401,607225278,1426881987,1925078388,2162078206,2614888103,3248222580,3835390401,4022224774,264347078,604807628,770255983,1249150122,1555081692,1996064986,2554220882,2821834349,2952996808,3210313671,3336571891,3584528711,113926993,338241895,666307205,773529912,1294757372,1396182291,1695183700,1986661051,2177026350,2456956037,2730485921,2820302411,3259730800,3345764771,3516065817,3600352804,4094571909,275423344,430227734,506948616,659060556,883997877,958139571,1322822218,1537002063,1747873779,1955562222,2024104815,2227730452,2361852424,2428436474,2756734187,3204031479,3329325298]
def zD (n:UInt64) (size:Nat):List UInt8:=(List.range size).map fun j=>zaL (IntL.toI u64T (zaF n (8*(size-1-j))))
theorem zkI {n:UInt64} {size k:Nat} {l:List UInt8} (hk:k<size) (hl:l.length=size) (h:∀j,size-k≤j→j<size→l[j]?=(zD n size)[j]?):∀j,size-(k+1)≤j→j<size→(l.set (size-1-k) (zaL (IntL.toI u64T (zaF n (8*k)))))[j]?=(zD n size)[j]?:=fun j h1 h2=>by
  rw[List.getElem?_set];by_cases c:size-1-k=j
  · rw[ut c,ut ya]
    unfold zD;rw[List.getElem?_map,List.getElem?_range h2,Option.map_some];congr 4;omega
  rw[ur c];exact h j ya h2
theorem zmc {n:UInt64} {size:Nat} {l:List UInt8} (hl:l.length=size) (h:∀j,size-size≤j→j<size→l[j]?=(zD n size)[j]?):l=zD n size:=by
  apply List.ext_getElem?;intro j;by_cases c:j<size
  · exact h j ya c
  rw[List.getElem?_eq_none ya,List.getElem?_eq_none (by unfold zD;simp;omega)]
theorem numbers_ok:Tells P 273 [] (.val (arrT 64 yn u32T) shaK):=by
 refine zc Tryz.func273 rfl rfl rfl (fun ext w hext=>?_);refine CQR ?_;refine z8 zuS rfl rfl rfl rfl ?_;refine CNQR ?_;refine A0 (zh7 (T:=u32T) (xs:=[_,_,_,_,_,_,_,_,_,_,_,_,_,_,_,_,_,_,_,_,_,_,_,_,_,_,_,_,_,_,_,_,_,_,_,_,_,_,_,_,_,_,_,_,_,_,_,_,_,_,_,_,_,_,_,_,_,_,_,_,_,_,_,_]) rfl zla zuS yK rfl) ?_;refine zg rfl rfl rfl rfl rfl (Lens.self _) ty_297 rfl ?_;refine CN ?_;exact zF rfl rfl rfl rfl ty_297 (rfl)
theorem zk3 (n:UInt64) (size:Nat) (hs:size≤8):Tells P 144 [.val u64T n,.val i64T (size:Int)] (.fresh 5 u8T (zD n size)):=by
 refine zc Tryz.func144 rfl rfl rfl (fun ext w hext=>?_);refine ze (d:=1) rfl zu (fun hin1=>?_);refine qap ?_;refine qbe ?_;refine A0 zbb ?_;refine qau ?_;refine zgs (d:=9) rfl (uh (by show ¬((size:Int)<0);omega)) ?_;refine A1 mV ?_;refine qdo ?_;refine A0 oK ?_;refine zgs (d:=12) rfl (uh (by show ¬((8:Int)<(size:Int));omega)) ?_;refine CN ?_;refine Cg ?_;refine qbw ?_;refine zwz (T:=u8T) (n:=size) rfl rfl rfl rfl rfl rfl yi yi zaE ze_5 ⟨by omega,by omega,(show(size)*1≤16777216 by omega)⟩ ?_;refine A0 aO ?_;refine CNQQR ?_;refine qad ?_;refine CNB ?_;refine Lp (ι:=Nat×List UInt8) 1 (fun(k,l)=>((((Fr.none.set 0 (.val u64T n)).set 1 (.val i64T (size:Int))).set 5 (.own 0)).set 15 (.val i64T (size:Int))).set 16 (.val i64T (k:Int))) (fun(k,l)=>Hp.none.set 0 (.row 5 u8T l)) (fun(k,l)=>k≤size∧l.length=size∧∀j,size-k≤j→j<size→l[j]?=(zD n size)[j]?) (fun(k,l)=>size-k) ((0,List.replicate size 0)) (⟨uf _,by simp,fun j h1 h2=>by omega⟩) ?_;intro⟨k,l⟩ hinv;dsimp only at hinv;refine qar ?_;refine Cf (p:=k<size) (fun ht17=>?_) (fun ht17=>?_)
 ·
  obtain⟨x,hx⟩:∃x,l[size-1-k]?=some x:=yq;refine qbh ?_;refine qbX ?_;refine A0 mO ?_;refine qbS ?_;refine qbS ?_;refine qad ?_;refine A0 zh0 ?_;refine xi ?_;refine qbU ?_;refine A0 (zaQ (i:=size-1-k) rfl rfl rfl rfl yi zb4 yg) ?_;refine zc6 rfl rfl rfl rfl rfl rfl yh (Lens.self _) ty_5 rfl ?_;refine qbK ?_;exact Nx ((k+1,l.set (size-1-k) (zaL (IntL.toI u64T (zaF n (8*k)))))) (⟨by omega,by simp;exact hinv.2.1,zkI ht17 hinv.2.1 hinv.2.2⟩) (by show _<size-k;simp only[];omega)
 refine qa0 ?_;exact zd rfl rfl (zf rfl rfl (zmc hinv.2.1 (by rw[show k=size by omega] at hinv;exact hinv.2.2)))
theorem growNil (n:Nat) (hn:n≤140737488355328):Tells P 201 [.lit (.slice none 0 0),.val i64T (n:Int)] (.fresh 5 u8T []):=by
 refine zc Tryz.func201 rfl rfl rfl (fun ext w hext=>?_);refine ze (d:=1) rfl zu (fun hin1=>?_);refine qap ?_;refine qbe ?_;refine qav ?_;refine zha rfl (uh (by show ¬((n:Int)<0);omega)) ?_;refine qbP ?_;refine A0 mL ?_;refine A0 (zhz rfl rfl zed) ?_;refine A0 mL ?_;refine qbO ?_;refine A0 za5 ?_;refine A0 za5 ?_;refine qaA ?_;refine qbT ?_;refine zq (p:=0<n) rfl yax (fun ht16=>?_) (fun ht16=>?_)
 ·
  refine CR ?_;refine A0 mL ?_;refine A0 mL ?_;refine A0 (zhz rfl rfl zed) ?_;refine A0 ya7 ?_;refine qau ?_;refine zlV (T:=u8T) (n:=n) rfl rfl rfl rfl rfl rfl yaC zaE ze_5 (ui_3) (⟨by assumption,by omega,by omega⟩) ?_;refine A0 mL ?_;refine qbO ?_;refine A0 (zop (q:=0) rfl rfl rfl rfl zb4 yi yg) ?_;refine A0 aS ?_;refine CNQR ?_;refine A0 mS ?_;refine A0 aS ?_;refine CN ?_;exact zd rfl rfl (zjT rfl rfl yy rfl)
 refine CSQR ?_;refine A0 mL ?_;refine A0 aL ?_;refine CN ?_;exact zd rfl rfl (zm rfl)
theorem zaO {α:Type} {ls:List (List α)} {k:Nat} {x:List α} (h:ls[k]?=some x):(ls.take (k+1)).flatten=(ls.take k).flatten++x:=by
  rw[un,h];simp
theorem zeg {α:Type} (ls:List (List α)) (k:Nat):(ls.take k).flatten.length≤ls.flatten.length:=by
  conv=>rhs;rw[←List.take_append_drop k ls,List.flatten_append,ue]
  omega
theorem zhB (ls:List (List UInt8)) (hl:ls.flatten.length≤140737488355328):Tells P 143 [.val (bsl (bsl u8T)) ls] (.fresh 5 u8T ls.flatten):=by
 refine zc Tryz.func143 rfl rfl rfl (fun ext w hext=>?_);refine ze (d:=0) rfl zi (fun hsl0=>?_);refine qb0 ?_;refine qaj ?_;refine qcA ?_;refine qaP ?_;refine Lp (ι:=Nat) 0 (fun (k:Nat)=>(((((Fr.none).set 0 (.val (bsl (bsl u8T)) ls)).set 3 (.val i64T ((ls.take k).flatten.length:Int))).set 9 (.val (bsl (bsl u8T)) ls)).set 10 (.val i64T (ls.length:Int))).set 11 (.val i64T (k:Int))) (fun (k:Nat)=>Hp.none) (fun (k:Nat)=>k≤ls.length) (fun (k:Nat)=>ls.length-k) (0) (uf _) ?_;intro k hinv;refine qar ?_;refine Cf (p:=k<ls.length) (fun ht12=>?_) (fun ht12=>?_)
 ·
  obtain⟨x,hx⟩:∃x,ls[k]?=some x:=⟨_,ub ht12⟩;have hle:=zeg ls (k+1);rw[zaO hx,ue] at hle;refine CSQBQR ?_;refine A0 (zbH rfl rfl rfl zfJ yh) ?_;refine qcM ?_;refine A0 aX ?_;refine qcZ ?_;refine A0 mX ?_;refine qbO ?_;refine A0 zcn ?_;refine qaA ?_;refine qav ?_;refine zha rfl (uh yal) ?_;refine qcp ?_;refine zj (d:=3) (y:=((ls.take (k+1)).flatten.length:Int)) rfl (by rw[zaO hx,ue];omega) ?_;exact Nx (k+1) ya ya
 refine zj (d:=3) (y:=((ls.flatten.length:Nat):Int)) rfl yO ?_;refine qcu ?_;refine zaH (growNil ls.flatten.length hl) rfl fn_201 yci rfl rfl rfl ?_;refine A0 aO ?_;refine qbe ?_;refine qcA ?_;refine qaP ?_;refine Lp (ι:=Nat) 1 (fun k=>(((Fr.none.set 6 (.own 0)).set 25 (.val (bsl (bsl u8T)) ls)).set 26 (.val i64T (ls.length:Int))).set 27 (.val i64T (k:Int))) (fun k=>Hp.none.set 0 (.row 5 u8T (ls.take k).flatten)) (fun k=>k≤ls.length) (fun k=>ls.length-k) (0) (uf _) ?_;intro k hinv;refine qar ?_;refine Cf (p:=k<ls.length) (fun ht28=>?_) (fun ht28=>?_)
 ·
  obtain⟨x,hx⟩:∃x,ls[k]?=some x:=⟨_,ub ht28⟩;have hle:=zeg ls (k+1);rw[zaO hx,ue] at hle;refine CSQBQR ?_;refine A0 (zbH rfl rfl rfl zfJ yh) ?_;refine qcM ?_;refine A0 aX ?_;refine CNR ?_;refine A0 mO ?_;refine A0 mX ?_;refine zo rfl rfl rfl rfl rfl rfl rfl zaE ya ?_;refine A0 aO ?_;refine qbK ?_;refine qbx ?_;refine zl (n:=0) rfl (zaO hx).symm ?_;exact Nx (k+1) ya ya
 refine qa0 ?_;exact zd rfl rfl (zf rfl rfl yO)
def padZ (n:Nat):Nat:=(64-(n+9)%64)%64
def zcL (b:List UInt8):List UInt8:=(b++128::List.replicate (padZ b.length) 0)++zD (8*zL (IntL.toI i64T (b.length:Int))) 8
theorem zkE (b:List UInt8):(b++128::List.replicate (padZ b.length) 0).length=b.length+1+padZ b.length:=yy
theorem pad_step {b l:List UInt8} {k:Nat} (hk:k<8) (hl:l.length=b.length+padZ b.length+9) (h:∀j,j<b.length+padZ b.length+1∨b.length+padZ b.length+9-k≤j→l[j]?=(zcL b)[j]?) :
    ∀j,j<b.length+padZ b.length+1∨b.length+padZ b.length+9-(k+1)≤j→(l.set (b.length+padZ b.length+8-k) (zaL (IntL.toI u64T (zaF (8*zL (IntL.toI i64T (b.length:Int))) (8*k)))))[j]?=(zcL b)[j]?:=fun j hj=>by
  rw[List.getElem?_set];by_cases c:b.length+padZ b.length+8-k=j
  · rw[ut c,ut ya]
    unfold zcL;rw[List.getElem?_append_right (by rw[zkE];omega),zkE];unfold zD;rw[List.getElem?_map,List.getElem?_range ya,Option.map_some];congr 4;omega
  rw[ur c];exact h j ya
theorem pad_start {b:List UInt8} {j:Nat} (hj:j<b.length+padZ b.length+1∨b.length+padZ b.length+9-0≤j):([b,[128],List.replicate (padZ b.length+8) 0].flatten)[j]?=(zcL b)[j]?:=by
  unfold zcL;have e:[b,[128],List.replicate (padZ b.length+8) (0:UInt8)].flatten=(b++128::List.replicate (padZ b.length) 0)++List.replicate 8 0:=by
    rw[←List.replicate_append_replicate];simp
  rw[e];have hl:=zkE b;generalize b++128::List.replicate (padZ b.length) 0=pre at hl;rcases hj with hj|hj
  · rw[List.getElem?_append_left ya,List.getElem?_append_left ya]
  rw[List.getElem?_append_right ya,List.getElem?_append_right ya,hl];rw[List.getElem?_eq_none yy,List.getElem?_eq_none (by unfold zD;simp;omega)]
theorem pad_all {b l:List UInt8} (h:∀j,j<b.length+padZ b.length+1∨b.length+padZ b.length+9-8≤j→l[j]?=(zcL b)[j]?):l=zcL b:=List.ext_getElem? fun j=>h j ya
theorem pad_ok (b:List UInt8) (hb:b.length≤70368744177664):Tells P 226 [.val (sl u8T) b] (.fresh 5 u8T (zcL b)):=by
 have hz:((padZ b.length:Nat):Int)=(64-((b.length:Int)+1+8)%64)%64:=by unfold padZ;omega
 have hz2:padZ b.length<64:=by unfold padZ;omega
 refine zc Tryz.func226 rfl rfl rfl (fun ext w hext=>?_);refine ze (d:=0) rfl zi (fun hsl0=>?_);refine qb0 ?_;refine qau ?_;refine qcr ?_;refine A0 zcn ?_;refine A0 zcn ?_;refine qbn ?_;refine A0 za5 ?_;refine qbn ?_;refine qaA ?_;refine qa5 ?_;refine qc2 ?_;refine zwz (T:=u8T) (n:=padZ b.length+8) rfl rfl rfl rfl rfl rfl yi yi zaE ze_5 ⟨by omega,by omega,(show(padZ b.length+8)*1≤16777216 by omega)⟩ ?_;refine zfh (d:=17) rfl rfl ?_;refine A0 (zag (T:=(sl u8T)) (xs:=[_,_,_]) rfl zfJ ze6 ⟨rfl,rfl,rfl,rfl,rfl,rfl,trivial⟩ rfl rfl) ?_;refine zaH (zhB [b,[128],List.replicate (padZ b.length+8) 0] yy) rfl zpV yc rfl rfl rfl ?_;refine A0 aO ?_;refine CNQQR ?_;refine qaP ?_;refine Lp (ι:=Nat×List UInt8) 2 (fun(k,l)=>((Fr.none.set 0 (.val (sl u8T) b)).set 4 (.own 1)).set 20 (.val i64T (k:Int))) (fun(k,l)=>Hp.none.set 1 (.row 5 u8T l)) (fun(k,l)=>k≤8∧l.length=b.length+padZ b.length+9∧∀j,j<b.length+padZ b.length+1∨b.length+padZ b.length+9-k≤j→l[j]?=(zcL b)[j]?) (fun(k,l)=>8-k) ((0,[b,[128],List.replicate (padZ b.length+8) 0].flatten)) (⟨uf _,by simp;omega,fun j h=>pad_start h⟩) ?_;intro⟨k,l⟩ hinv;dsimp only at hinv;refine qar ?_;refine Cf (p:=k<8) (fun ht21=>?_) (fun ht21=>?_)
 ·
  obtain⟨x,hx⟩:∃x,l[b.length+padZ b.length+8-k]?=some x:=yq;refine qbh ?_;refine qbX ?_;refine A0 mO ?_;refine A0 mO ?_;refine A0 (zbV rfl rfl rfl zed) ?_;refine A0 za5 ?_;refine qbS ?_;refine qau ?_;refine qcr ?_;refine qdq ?_;refine A0 (zh5 rfl rfl rfl) ?_;refine qau ?_;refine A0 zh0 ?_;refine xi ?_;refine qbU ?_;refine A0 (zaQ (i:=b.length+padZ b.length+8-k) rfl rfl rfl rfl yi zb4 yg) ?_;refine zc6 rfl rfl rfl rfl rfl rfl yh (Lens.self _) ty_5 rfl ?_;refine qbK ?_;exact Nx ((k+1,l.set (b.length+padZ b.length+8-k) (zaL (IntL.toI u64T (zaF (8*zL (IntL.toI i64T (b.length:Int))) (8*k)))))) (⟨by omega,by simp;exact hinv.2.1,pad_step ht21 hinv.2.1 hinv.2.2⟩) (by show _<8-k;simp only[];omega)
 refine qa0 ?_;exact zd rfl rfl (zf rfl rfl (pad_all (by rw[show k=8 by omega] at hinv;exact hinv.2.2)))
def putIn (x:In):List UInt8:=x.tx++[zaL (IntL.toI i64T x.i)]
def zvt (o:Out):List UInt8:=zD (zL (IntL.toI i64T o.v)) 6++[zaL (IntL.toI i64T o.to)]
def ziJ (t:Tx) (k:Nat):List UInt8:=zaL (IntL.toI i64T (t.ins.length:Int))::((t.ins.take k).map putIn).flatten
def zd3 (t:Tx) (k:Nat):List UInt8:=ziJ t t.ins.length++[zaL (IntL.toI i64T (t.outs.length:Int))]++((t.outs.take k).map zvt).flatten
def zt5 (t:Tx):List UInt8:=zd3 t t.outs.length
theorem zhV {t:Tx} {k:Nat} {x:In} (h:t.ins[k]?=some x):ziJ t (k+1)=ziJ t k++x.tx++[zaL (IntL.toI i64T x.i)]:=by
  unfold ziJ;rw[un,h];simp[putIn]
theorem zgL {t:Tx} {k:Nat} {x:Out} (h:t.outs[k]?=some x):zd3 t (k+1)=zd3 t k++zD (zL (IntL.toI i64T x.v)) 6++[zaL (IntL.toI i64T x.to)]:=by
  unfold zd3;rw[un,h];simp[zvt]
theorem fact_in {U N:Nat→Prop} {w:World} {x:In} {cs:List Value} (h:inT.rel U N w x cs):x.tx.length=32:=by
  obtain⟨c1,c2,_,h1,_⟩:=h;exact h1.1
theorem zm1 {t:Tx} {ρ:Nat→Value} {B:Nat→Prop} {U N:Nat→Prop} {w:World} {v:Value} (h:(AV.val txT t).rel ρ B U N w v):t.ins.length≤9223372036854775807∧t.outs.length≤9223372036854775807:=by
  obtain⟨cs,⟨c1,c2,_,⟨_,cap,_,h1,h2,_⟩,⟨_,cap',_,h3,h4,_⟩⟩,_⟩:=h;unfold maxLen at h2 h4;exact⟨Nat.le_trans h1 h2,Nat.le_trans h3 h4⟩
theorem zE (n:UInt64) (s:Nat):(zD n s).length=s:=by simp[zD]
theorem zdv {t:Tx} (h:zaN t=true):t.ins.length≤3∧0<t.outs.length∧t.outs.length≤3:=by
  unfold zaN at h;simp only[uk,uj] at h;exact⟨h.2.1,h.2.2.1,h.2.2.2.1⟩
theorem put_ok (t:Tx):Tells P 224 [.val txT t] (.tup2 (.fresh 5 u8T (if zaN t=true then zt5 t else [])) (.val zs (zaN t))):=by
 refine zc Tryz.func224 rfl rfl rfl (fun ext w hext=>?_);refine qca ?_;refine qc8 ?_;refine qbF ?_;refine A0 (oCl (zq6 _) rfl fn_236 yc) ?_;refine qaJ ?_;refine zq (p:=¬zaN t=true) rfl yw (fun ht11=>?_) (fun ht11=>?_)
 ·
  refine qaT ?_;exact zx rfl rfl (by rw[ur ht11];exact zm rfl) (za rfl (by simpa using ht11))
 have hmay:=ua ht11;obtain⟨hmi,hm0,hmo⟩:=zdv hmay;refine CSQR ?_;refine qa9 ?_;refine qcB ?_;refine CNQQR ?_;refine qa9 ?_;refine qaP ?_;refine Lp (ι:=Nat) 2 (fun (k:Nat)=>(((((Fr.none).set 1 (.ptr 0 0)).set 4 (.own 1)).set 18 (.val (sl inT) t.ins)).set 19 (.val i64T (t.ins.length:Int))).set 20 (.val i64T (k:Int))) (fun (k:Nat)=>((Hp.none).set 0 (.box 133 txT t)).set 1 (.row 5 u8T (ziJ t k))) (fun (k:Nat)=>k≤t.ins.length∧(ziJ t k).length=33*k+1) (fun (k:Nat)=>t.ins.length-k) (0) (⟨uf _,by simp[ziJ]⟩) ?_;intro k hinv;obtain⟨hk,hpl⟩:=hinv;have hinv:=And.intro hk hpl;refine qar ?_;refine Cf (p:=k<t.ins.length) (fun ht21=>?_) (fun ht21=>?_)
 ·
  obtain⟨x,hx⟩:∃x,t.ins[k]?=some x:=⟨_,ub ht21⟩;refine CSQBQR ?_;refine qcS ?_;refine zg rfl rfl rfl rfl rfl (Lens.self _) zcc rfl ?_;refine CN ?_;refine aw_factb (n:=2) rfl fact_in (fun hx32=>?_);refine zH [some 1,some 1,some 1,none,some 2,some 2,some 2,some 2,none,some 1] mixed yd ?_;refine X0 mO ?_;refine X0 (oFp zdd) ?_;refine X0 (zom rfl rfl zfj rfl rfl) ?_;refine XK.e (fun fr' hfr kk H=>by exact zuH rfl rfl rfl rfl ((hfr 24 yd).trans rfl) rfl ((hfr 26 yd).trans rfl) rfl zeX zaE (by show(_+x.tx.length)*1≤_∧_+x.tx.length≤_;omega) (zM H)) ?_;refine XK.g2 (ziU rfl rfl zb1 rfl) (ziU rfl rfl zb1 rfl) rfl rfl rfl ?_;refine XK.gb (t:=28) rfl rfl (fun _ he=>zy rfl rfl he zfn ty_3) rfl yx rfl rfl rfl ?_;refine XK.g2 (zh6 rfl (ui_5) (us_3) rfl) (zh6 rfl (ui_5) (us_3) rfl) rfl rfl rfl ?_;refine XK.g2 (zag (T:=u8T) (xs:=[_]) rfl zb4 zaE yx rfl rfl) (zag (T:=u8T) (xs:=[_]) rfl zb4 zaE yx rfl rfl) rfl rfl rfl ?_;refine XK.e (fun fr' hfr kk H=>by exact zo rfl rfl rfl rfl ((hfr 27 yd).trans rfl) rfl ((hfr 31 yd).trans rfl) zaE (by simp only[ue,List.length_cons,List.length_nil,hx32];omega) (zM H)) ?_;refine X0 aO ?_;refine qaX ?_;refine qan ?_;refine zbc 4 1 5 rfl rfl rfl rfl rfl rfl ?_;refine zl (n:=1) rfl (zhV hx).symm ?_;exact Nx (k+1) (⟨by omega,by rw[zhV hx];simp only[ue,List.length_cons,List.length_nil,hx32];omega⟩) ya
 obtain rfl:k=t.ins.length:=ya;obtain⟨hli,_⟩:=hinv;refine CE ?_;refine qcb ?_;refine qaU ?_;refine xh ?_;refine qa5 ?_;refine zo rfl rfl rfl rfl rfl rfl rfl zaE y4 ?_;refine A0 aO ?_;refine CNQQR ?_;refine qaU ?_;refine qaP ?_;refine qcs ?_;refine zl (y:=zd3 t 0) (n:=1) rfl (by simp[zd3]) ?_;refine Lp (ι:=Nat) 2 (fun k=>((((Fr.none.set 1 (.ptr 0 0)).set 4 (.own 1)).set 42 (.val (sl outT) t.outs)).set 43 (.val i64T (t.outs.length:Int))).set 44 (.val i64T (k:Int))) (fun k=>(Hp.none.set 0 (.box 133 txT t)).set 1 (.row 5 u8T (zd3 t k))) (fun k=>k≤t.outs.length∧(zd3 t k).length=7*k+2+33*t.ins.length) (fun k=>t.outs.length-k) (0) (⟨uf _,by simp[zd3,hpl];omega⟩) ?_;intro k hinv;refine qar ?_;refine Cf (p:=k<t.outs.length) (fun ht45=>?_) (fun ht45=>?_)
 ·
  obtain⟨x,hx⟩:∃x,t.outs[k]?=some x:=⟨_,ub ht45⟩;refine CSQBQR ?_;refine A0 (zbH rfl rfl rfl zf7 yh) ?_;refine qcK ?_;refine CN ?_;refine zH [some 1,some 1,some 1,some 1,some 1,none,some 2,some 2,some 2,some 2,none,some 1] mixed yd ?_;refine X0 mO ?_;refine X0 (oFp zcx) ?_;refine X0 (oLb zd7 ty_3) ?_;refine X0 (zfc rfl (zlk) (us_3) rfl) ?_;refine X0 (oCl (zC (zk3 _ 6 yn)) rfl zwe ye) ?_;refine XK.e (fun fr' hfr kk H=>by exact zo rfl rfl rfl rfl ((hfr 48 yd).trans rfl) rfl ((hfr 52 yd).trans rfl) zaE yaE (zM H)) ?_;refine XK.g2 (ziU rfl rfl zdz rfl) (ziU rfl rfl zdz rfl) rfl rfl rfl ?_;refine XK.gb (t:=54) rfl rfl (fun _ he=>zy rfl rfl he zeL ty_3) rfl yx rfl rfl rfl ?_;refine XK.g2 (zh6 rfl (ui_5) (us_3) rfl) (zh6 rfl (ui_5) (us_3) rfl) rfl rfl rfl ?_;refine XK.g2 (zag (T:=u8T) (xs:=[_]) rfl zb4 zaE yx rfl rfl) (zag (T:=u8T) (xs:=[_]) rfl zb4 zaE yx rfl rfl) rfl rfl rfl ?_;refine XK.e (fun fr' hfr kk H=>by exact zo rfl rfl rfl rfl ((hfr 53 yd).trans rfl) rfl ((hfr 57 yd).trans rfl) zaE yaE (zM H)) ?_;refine X0 aO ?_;refine qaX ?_;refine qan ?_;refine zbc 4 1 5 rfl rfl rfl rfl rfl rfl ?_;refine zl (n:=1) rfl (zgL hx).symm ?_;exact Nx (k+1) (⟨by omega,by rw[zgL hx];simp only[ue,List.length_cons,List.length_nil,zE];omega⟩) ya
 refine CE ?_;refine qcb ?_;refine qcl ?_;exact zx rfl rfl (zf rfl rfl (by rw[ut hmay,show k=t.outs.length by omega];rfl)) (za rfl hmay.symm)
def rr (x:UInt32) (n:Int):UInt32:=rotl x (IntKind.i64.wrap (0-n))
def zwx (x0 x1 x2 x3:UInt8):UInt32:=zsi (zd8 (IntL.toI u8T x0)) 24|||zsi (zd8 (IntL.toI u8T x1)) 16|||zsi (zd8 (IntL.toI u8T x2)) 8|||zd8 (IntL.toI u8T x3)
def znC (a b x y:UInt32):UInt32:=a+b+(rr x 7^^^rr x 18^^^zel x 3)+(rr y 17^^^rr y 19^^^zel y 10)
def zhn (b:List UInt8) (w:List UInt32) (i:Nat):List UInt32 :=
  if i<16 then w.set i (zwx (b.getD (4*i) default) (b.getD (4*i+1) default) (b.getD (4*i+2) default) (b.getD (4*i+3) default))
  else w.set i (znC (w.getD (i-16) default) (w.getD (i-7) default) (w.getD (i-15) default) (w.getD (i-2) default))
def zbj (b:List UInt8) (k:Nat):List UInt32:=(List.range k).foldl (zhn b) (List.replicate 64 0)
def roundX (v w:List UInt32) (i:Nat):UInt32:=v.getD 7 default+(rr (v.getD 4 default) 6^^^rr (v.getD 4 default) 11^^^rr (v.getD 4 default) 25)+((v.getD 4 default&&&v.getD 5 default)^^^(~~~ (v.getD 4 default)&&&v.getD 6 default))+shaK.getD i default+w.getD i default
def roundY (v:List UInt32):UInt32:=(rr (v.getD 0 default) 2^^^rr (v.getD 0 default) 13^^^rr (v.getD 0 default) 22)+((v.getD 0 default&&&v.getD 1 default)^^^(v.getD 0 default&&&v.getD 2 default)^^^(v.getD 1 default&&&v.getD 2 default))
def znI (w v:List UInt32) (i:Nat):List UInt32:=[roundX v w i+roundY v,v.getD 0 default,v.getD 1 default,v.getD 2 default,v.getD 3 default+roundX v w i,v.getD 4 default,v.getD 5 default,v.getD 6 default]
def zfB (w s:List UInt32) (k:Nat):List UInt32:=(List.range k).foldl (znI w) s
def sumN (v s:List UInt32) (k:Nat):List UInt32:=(List.range k).foldl (fun s i=>s.set i (s.getD i default+v.getD i default)) s
def addOf (s:List UInt32) (b:List UInt8):List UInt32:=sumN (zfB (zbj b 64) s 64) s 8
theorem zcZ {α:Type} {f:α→Nat→α} {z:α} {k:Nat}:(List.range (k+1)).foldl f z=f ((List.range k).foldl f z) k:=by rw[List.range_succ,List.foldl_append];rfl
theorem zvc {b:List UInt8} {k:Nat} {x0 x1 x2 x3:UInt8} (hk:k<16) (h0:b[4*k]?=some x0) (h1:b[4*k+1]?=some x1) (h2:b[4*k+2]?=some x2) (h3:b[4*k+3]?=some x3):(zbj b k).set k (zwx x0 x1 x2 x3)=zbj b (k+1):=by
  unfold zbj;rw[zcZ];unfold zhn;rw[ut hk];simp only[uq,h0,h1,h2,h3,Option.getD_some]
theorem zvd {b:List UInt8} {k:Nat} (hk:¬k<16):(zbj b k).set k (znC ((zbj b k).getD (k-16) default) ((zbj b k).getD (k-7) default) ((zbj b k).getD (k-15) default) ((zbj b k).getD (k-2) default))=zbj b (k+1):=by
  have e:zbj b (k+1)=zhn b (zbj b k) k:=zcZ;rw[e];unfold zhn;rw[ur hk]
theorem zlt {w s:List UInt32} {k:Nat}:znI w (zfB w s k) k=zfB w s (k+1):=zcZ.symm
theorem zu4 {v s:List UInt32} {k:Nat} {x:UInt32} (h:v[k]?=some x):(sumN v s k).set k ((sumN v s k).getD k default+x)=sumN v s (k+1):=by
  have e:sumN v s (k+1)=_:=zcZ;rw[e];show _=(sumN v s k).set k ((sumN v s k).getD k default+v.getD k default);rw[uq (l:=v),h];rfl
theorem zjk {w s:List UInt32} (hs:s.length=8):∀k,(zfB w s k).length=8
  | 0=>hs
  | k+1=>by rw[←zlt];rfl
theorem add_ok (s:List UInt32) (b:List UInt8) (hb:b.length=64) (hs:s.length=8):zfl P 227 (.box 262 (arrT 8 yn u32T) s) [.ptr 0 0,.val (bsl u8T) b] (.lit (.tuple #[])) (.box 262 (arrT 8 yn u32T) (addOf s b)):=by
 refine zgl trivial Tryz.func227 rfl rfl ⟨Nat.one_pos,⟨trivial,trivial⟩⟩ (fun ext pg w hext hgr=>?_);refine ze (d:=1) rfl zi (fun hsl1=>?_);refine CQR ?_;refine z8 zuS rfl rfl rfl rfl ?_;refine CNQQR ?_;refine qaP ?_;refine Lp (ι:=Nat) 2 (fun (k:Nat)=>((((Fr.none).set 0 (.ptr 0 0)).set 1 (.val (bsl u8T) b)).set 4 (.ptr 1 0)).set 17 (.val i64T (k:Int))) (fun (k:Nat)=>((Hp.none).set 0 (.box 262 (arrT 8 yn u32T) s)).set 1 (.box 297 (arrT 64 yn u32T) (zbj b k))) (fun (k:Nat)=>k≤64) (fun (k:Nat)=>64-k) (0) (uf _) ?_;intro k hinv;refine qar ?_;refine Cf (p:=k<64) (fun ht18=>?_) (fun ht18=>?_)
 ·
  refine qbh ?_;refine qaj ?_;refine qav ?_;refine Cf (p:=k<16) (fun ht21=>?_) (fun ht21=>?_)
  ·
   obtain⟨x0,hx0⟩:∃x,b[4*k]?=some x:=yq;obtain⟨x1,hx1⟩:∃x,b[4*k+1]?=some x:=yq;obtain⟨x2,hx2⟩:∃x,b[4*k+2]?=some x:=yq;obtain⟨x3,hx3⟩:∃x,b[4*k+3]?=some x:=yq;refine CQ ?_;refine zH [some 1,some 1,some 1,some 1,some 1,some 1,some 1,some 1,some 1,some 1,some 1,some 1,some 1,some 1,some 1,some 1,some 1,some 1,some 1,some 1,some 1,some 1,some 1,some 1,some 1,some 1,some 1,some 1,some 1,some 1,some 1,some 1,some 1,some 1,some 1,none] mixed yd ?_;refine qbG ?_;refine X0 mV ?_;refine X0 zh0 ?_;refine X0 (zr (i:=4*k) rfl rfl rfl ya zb4 yh) ?_;refine qb2 ?_;refine X0 (zrj rfl rfl rfl ym rfl) ?_;refine qbG ?_;refine X0 zh0 ?_;refine X0 zcn ?_;refine X0 (zr (i:=4*k+1) rfl rfl rfl ya zb4 yh) ?_;refine qb2 ?_;refine X0 (zrj rfl rfl rfl ym rfl) ?_;refine X0 (zpR rfl rfl rfl) ?_;refine qbG ?_;refine X0 zh0 ?_;refine X0 zcn ?_;refine X0 (zr (i:=4*k+2) rfl rfl rfl ya zb4 yh) ?_;refine qb2 ?_;refine X0 (zrj rfl rfl rfl ym rfl) ?_;refine X0 (zpR rfl rfl rfl) ?_;refine qbG ?_;refine X0 zh0 ?_;refine X0 zcn ?_;refine X0 (zr (i:=4*k+3) rfl rfl rfl ya zb4 yh) ?_;refine qb2 ?_;refine X0 (zpR rfl rfl rfl) ?_;refine X0 (zG (i:=k) rfl rfl rfl yi zla ya) ?_;refine XK.e (x:=.idk) (fun fr' hfr kk H=>by exact zg rfl rfl rfl ((hfr 56 yd).trans rfl) rfl (Lens.elem (i:=k) ya u32T) zbp ((hfr 55 yd).trans rfl) (zM H)) ?_;refine XK.nil' ?_;refine CE ?_;refine CR ?_;refine qan ?_;refine zJ (n:=1) rfl (zvc ht21 hx0 hx1 hx2 hx3) ?_;exact Nx (k+1) ya ya
  refine CS ?_;refine qaG ?_;refine G0 mV ?_;refine G0 za5 ?_;refine G0 (zG (i:=k-15) rfl rfl rfl yi zla ya) ?_;refine G0 (zy rfl rfl rfl (Lens.elem (i:=k-15) ya u32T) zbp) ?_;refine G0 mV ?_;refine G0 za5 ?_;refine G0 (zG (i:=k-2) rfl rfl rfl yi zla ya) ?_;refine G0 (zy rfl rfl rfl (Lens.elem (i:=k-2) ya u32T) zbp) ?_;refine G0 aV ?_;refine qaV ?_;refine zH [some 1,some 1,some 1,some 1,some 1,some 1,some 1,some 1,some 1,some 1,some 1,some 1,some 1,some 1,some 1,some 1,some 1,some 1,some 1,some 1,some 1,some 1,some 1,some 1,some 1,some 1,some 1,some 1,some 1,none] mixed yd ?_;refine qbG ?_;refine X0 za5 ?_;refine X0 (zG (i:=k-16) rfl rfl rfl yi zla ya) ?_;refine X0 (zy rfl rfl rfl (Lens.elem (i:=k-16) ya u32T) zbp) ?_;refine X0 mV ?_;refine X0 za5 ?_;refine X0 (zG (i:=k-7) rfl rfl rfl yi zla ya) ?_;refine X0 (zy rfl rfl rfl (Lens.elem (i:=k-7) ya u32T) zbp) ?_;refine qcG ?_;refine qcP ?_;refine qcP ?_;refine X0 (zok rfl rfl rfl) ?_;refine X0 mV ?_;refine X0 (zon rfl rfl rfl ym rfl) ?_;refine X0 (zok rfl rfl rfl) ?_;refine qcG ?_;refine qcP ?_;refine qcP ?_;refine X0 (zok rfl rfl rfl) ?_;refine X0 mV ?_;refine X0 (zon rfl rfl rfl ym rfl) ?_;refine X0 (zok rfl rfl rfl) ?_;refine qcG ?_;refine X0 (zG (i:=k) rfl rfl rfl yi zla ya) ?_;refine XK.e (x:=.idk) (fun fr' hfr kk H=>by exact zg rfl rfl rfl ((hfr 93 yd).trans rfl) rfl (Lens.elem (i:=k) ya u32T) zbp ((hfr 92 yd).trans rfl) (zM H)) ?_;refine qaX ?_;refine qan ?_;refine zJ (n:=1) rfl (zvd ht21) ?_;exact Nx (k+1) ya ya
 obtain rfl:k=64:=ya;refine qdl ?_;refine A0 (oCl (numbers_ok) rfl fn_273 trivial) ?_;refine z8 zuS rfl rfl rfl rfl ?_;refine zg rfl rfl rfl rfl rfl (Lens.self _) ty_297 rfl ?_;refine CNQR ?_;refine A0 mP ?_;refine xc ?_;refine A0 (oLs rfl rfl rfl zu1) ?_;refine z8 ze_262 rfl rfl rfl rfl ?_;refine zg rfl rfl rfl rfl rfl (Lens.self _) zu1 rfl ?_;refine CNQQR ?_;refine qaP ?_;refine Lp (ι:=Nat) 4 (fun k=>((((Fr.none.set 0 (.ptr 0 0)).set 4 (.ptr 1 0)).set 8 (.ptr 2 0)).set 9 (.ptr 3 0)).set 99 (.val i64T (k:Int))) (fun k=>(((Hp.none.set 0 (.box 262 (arrT 8 yn u32T) s)).set 1 (.box 297 (arrT 64 yn u32T) (zbj b 64))).set 2 (.box 297 (arrT 64 yn u32T) shaK)).set 3 (.box 262 (arrT 8 yn u32T) (zfB (zbj b 64) s k))) (fun k=>k≤64) (fun k=>64-k) (0) (uf _) ?_;intro k hinv;refine qar ?_;refine Cf (p:=k<64) (fun ht100=>?_) (fun ht100=>?_)
 ·
  refine qbh ?_;refine qcU ?_;refine G0 (zG (i:=0) rfl rfl rfl yi zej ya) ?_;refine G0 (zy rfl rfl rfl (Lens.elem (i:=0) ya u32T) zbp) ?_;refine G0 (zG (i:=4) rfl rfl rfl yi zej ya) ?_;refine G0 (zy rfl rfl rfl (Lens.elem (i:=4) ya u32T) zbp) ?_;refine G0 aV ?_;refine qaV ?_;refine qaG ?_;refine G0 (zG (i:=7) rfl rfl rfl yi zej ya) ?_;refine G0 (zy rfl rfl rfl (Lens.elem (i:=7) ya u32T) zbp) ?_;refine qbI ?_;refine qbI ?_;refine qcy ?_;refine qbI ?_;refine qcy ?_;refine xk ?_;refine G0 mV ?_;refine G0 (zG (i:=5) rfl rfl rfl yi zej ya) ?_;refine G0 (zy rfl rfl rfl (Lens.elem (i:=5) ya u32T) zbp) ?_;refine xm ?_;refine G0 mV ?_;refine G0 (g_not32 rfl rfl) ?_;refine G0 (zG (i:=6) rfl rfl rfl yi zej ya) ?_;refine G0 (zy rfl rfl rfl (Lens.elem (i:=6) ya u32T) zbp) ?_;refine xm ?_;refine qcy ?_;refine xk ?_;refine G0 mV ?_;refine G0 (zG (i:=k) rfl rfl rfl yi zla ya) ?_;refine G0 (zy rfl rfl rfl (Lens.elem (i:=k) ya u32T) zbp) ?_;refine xk ?_;refine G0 mV ?_;refine G0 (zG (i:=k) rfl rfl rfl yi zla ya) ?_;refine G0 (zy rfl rfl rfl (Lens.elem (i:=k) ya u32T) zbp) ?_;refine xk ?_;refine qaV ?_;refine qaG ?_;refine qbI ?_;refine qbI ?_;refine qcy ?_;refine qbI ?_;refine qcy ?_;refine G0 mV ?_;refine G0 (zG (i:=1) rfl rfl rfl yi zej ya) ?_;refine G0 (zy rfl rfl rfl (Lens.elem (i:=1) ya u32T) zbp) ?_;refine xm ?_;refine G0 mV ?_;refine G0 (zG (i:=2) rfl rfl rfl yi zej ya) ?_;refine G0 (zy rfl rfl rfl (Lens.elem (i:=2) ya u32T) zbp) ?_;refine xm ?_;refine qcy ?_;refine G0 (zG (i:=1) rfl rfl rfl yi zej ya) ?_;refine G0 (zy rfl rfl rfl (Lens.elem (i:=1) ya u32T) zbp) ?_;refine G0 (zG (i:=2) rfl rfl rfl yi zej ya) ?_;refine G0 (zy rfl rfl rfl (Lens.elem (i:=2) ya u32T) zbp) ?_;refine xm ?_;refine qcy ?_;refine xk ?_;refine qaV ?_;refine CR ?_;refine qad ?_;refine A0 (zeV rfl rfl rfl) ?_;refine qau ?_;refine A0 (zG (i:=1) rfl rfl rfl yi zej ya) ?_;refine A0 (zy rfl rfl rfl (Lens.elem (i:=1) ya u32T) zbp) ?_;refine A0 (zG (i:=2) rfl rfl rfl yi zej ya) ?_;refine A0 (zy rfl rfl rfl (Lens.elem (i:=2) ya u32T) zbp) ?_;refine A0 (zG (i:=3) rfl rfl rfl yi zej ya) ?_;refine A0 (zy rfl rfl rfl (Lens.elem (i:=3) ya u32T) zbp) ?_;refine qau ?_;refine A0 (zeV rfl rfl rfl) ?_;refine qau ?_;refine A0 (zG (i:=5) rfl rfl rfl yi zej ya) ?_;refine A0 (zy rfl rfl rfl (Lens.elem (i:=5) ya u32T) zbp) ?_;refine A0 (zG (i:=6) rfl rfl rfl yi zej ya) ?_;refine A0 (zy rfl rfl rfl (Lens.elem (i:=6) ya u32T) zbp) ?_;refine A0 (zh7 (T:=u32T) (xs:=[_,_,_,_,_,_,_,_]) rfl zej ze_262 yaq rfl) ?_;refine zg rfl rfl rfl rfl rfl (Lens.self _) zu1 rfl ?_;refine qbK ?_;refine zJ (n:=3) rfl zlt ?_;exact Nx (k+1) ya ya
 obtain rfl:k=64:=ya;refine qdl ?_;refine A0 (oLs rfl rfl rfl zu1) ?_;refine qaP ?_;refine Lp (ι:=Nat) 1 (fun (k:Nat)=>(((Fr.none).set 0 (.ptr 0 0)).set 179 (.val (arrT 8 yn u32T) (zfB (zbj b 64) s 64))).set 180 (.val i64T (k:Int))) (fun (k:Nat)=>(Hp.none).set 0 (.box 262 (arrT 8 yn u32T) (sumN (zfB (zbj b 64) s 64) s k))) (fun (k:Nat)=>k≤8) (fun (k:Nat)=>8-k) (0) (uf _) ?_;intro k hinv;refine qar ?_;refine Cf (p:=k<8) (fun ht181=>?_) (fun ht181=>?_)
 ·
  obtain⟨x,hx⟩:∃x,(zfB (zbj b 64) s 64)[k]?=some x:=⟨_,ub (by rw[zjk hs];exact ht181)⟩;refine qbh ?_;refine A0 (g_index rfl rfl rfl rfl zej zbp yh) ?_;refine qaI ?_;refine xo ?_;refine X0 mP ?_;refine X0 mV ?_;refine xg ?_;refine X0 (zG (i:=k) rfl rfl rfl yi zej ya) ?_;refine X0 (zy rfl rfl rfl (Lens.elem (i:=k) ya u32T) zbp) ?_;refine X0 mV ?_;refine qcG ?_;refine xg ?_;refine X0 (zG (i:=k) rfl rfl rfl yi zej ya) ?_;refine XK.e (x:=.idk) (fun fr' hfr kk H=>by exact zg rfl rfl rfl ((hfr 192 yd).trans rfl) rfl (Lens.elem (i:=k) ya u32T) zbp ((hfr 190 yd).trans rfl) (zM H)) ?_;refine qaX ?_;refine qan ?_;refine zJ (n:=0) rfl (zu4 hx) ?_;exact Nx (k+1) ya ya
 obtain rfl:k=8:=ya;refine CE ?_;exact ztD rfl rfl rfl rfl rfl (zco rfl rfl)
theorem zsO (b:List UInt8):(zcL b).length=64*((b.length+padZ b.length+9)/64):=by
  have h:(zcL b).length=b.length+padZ b.length+9:=by
    unfold zcL;rw[ue,zkE];unfold zD;simp;omega
  rw[h];unfold padZ;omega
def shaH:List UInt32:=[1779033703,3144134277,1013904242,2773480762,1359893119,2600822924,528734635,1541459225]
def shaN (p:List UInt8) (n:Nat):List UInt32:=(List.range n).foldl (fun s i=>addOf s ((p.take (64*i+64)).drop (64*i))) shaH
def zqB (b:List UInt8):List UInt32:=shaN (zcL b) ((zcL b).length/64)
def zjP (v:List UInt32) (i:Nat):UInt8:=zaL (IntL.toI u32T (zel (v.getD (i/4) default) (24-8*(i%4))))
def zfA (b:List UInt8):Ab.Id:=(List.range 32).map (zjP (zqB b))
def zen (v:List UInt32) (k:Nat):Ab.Id:=(List.range k).foldl (fun l i=>l.set i (zjP v i)) zId
theorem ziV {α:Type} (f:Nat→α) (l:List α):∀k j,((List.range k).foldl (fun l i=>l.set i (f i)) l)[j]?=if j<k∧j<l.length then some (f j) else l[j]?
  | 0,j=>by simp
  | k+1,j=>by
    rw[List.range_succ,List.foldl_append];show(List.set _ k (f k))[j]?=_;have hl:∀k,((List.range k).foldl (fun l i=>l.set i (f i)) l).length=l.length:=fun k=>by
      induction k with
      | zero=>rfl
      | succ k ih=>rw[List.range_succ,List.foldl_append];simp only[List.foldl_cons,List.foldl_nil,List.length_set];exact ih
    rw[List.getElem?_set,ziV f l k j,hl];by_cases c:k=j
    · subst c
      by_cases d:k<l.length
      · simp[d]
      simp[d]
    rw[ur c];by_cases d:j<k
    · have:j<k+1:=by omega
      simp[d,this]
    have:¬j<k+1:=ya
    simp[d,this]
theorem zpq (v:List UInt32):zen v 32=(List.range 32).map (zjP v):=by
  apply List.ext_getElem?;intro j;unfold zen;rw[ziV,List.getElem?_map];have hz:zId.length=32:=rfl;rw[hz];by_cases c:j<32
  · rw[ut ⟨c,c⟩,List.getElem?_range c];rfl
  rw[ur (fun h=>c h.1),List.getElem?_eq_none (by first|(rw[hz];omega)|(rw[List.length_range];omega)),List.getElem?_eq_none (by first|(rw[hz];omega)|(rw[List.length_range];omega))];rfl
theorem zf8 {v:List UInt32} {k:Nat} {x:UInt8} (h:x=zjP v k):(zen v k).set k x=zen v (k+1):=by
  subst h;unfold zen;rw[List.range_succ,List.foldl_append];rfl
theorem zny {p:List UInt8} {k:Nat}:addOf (shaN p k) ((p.take (64*k+64)).drop (64*k))=shaN p (k+1):=by
  unfold shaN;rw[List.range_succ,List.foldl_append];rfl
theorem zqv {v s:List UInt32}:∀k,(sumN v s k).length=s.length
  | 0=>rfl
  | k+1=>by
    unfold sumN;rw[List.range_succ,List.foldl_append];simp only[List.foldl_cons,List.foldl_nil,List.length_set];exact zqv k
theorem zmD (p:List UInt8):∀k,(shaN p k).length=8
  | 0=>rfl
  | k+1=>by rw[←zny];unfold addOf;rw[zqv];exact zmD p k
theorem zu5 (b:List UInt8) (hb:b.length≤70368744177664):Tells P 163 [.val (sl u8T) b] (.val idT (zfA b)):=by
 obtain⟨m,hm⟩:∃m,m=(b.length+padZ b.length+9)/64:=⟨_,rfl⟩;have hz2:padZ b.length<64:=by unfold padZ;omega
 have hpl:(zcL b).length=64*m:=by rw[zsO,hm]
 have hmb:m≤2000000000000:=ya;refine zc Tryz.func163 rfl rfl rfl (fun ext w hext=>?_);refine ze (d:=0) rfl zi (fun hsl0=>?_);refine qbD ?_;refine A0 (zh7 (T:=u32T) (xs:=[_,_,_,_,_,_,_,_]) rfl zej ze_262 yaq rfl) ?_;refine xb ?_;refine zjx zp_260 rfl rfl rfl rfl rfl rfl ?_;refine zaG rfl rfl rfl rfl rfl rfl rfl rfl rfl rfl zr4 ?_;refine qbe ?_;refine A0 (oCl (zC (pad_ok b hb)) rfl fn_226 yc) ?_;refine zak rfl rfl rfl rfl Tryz.func225 fn_225 rfl rfl (fun ia2 iok2=>?_);refine qa3 ?_;refine A0 aL ?_;refine CNQQR ?_;refine A0 (oLs rfl rfl rfl ty_3) ?_;refine qav ?_;refine zha rfl yn ?_;refine CSQR ?_;refine A0 (g_mkf (caps:=[_,_]) rfl rfl) ?_;refine A0 aC ?_;refine CN ?_;refine zeG rfl ?_;refine CNB ?_;refine zk7 rfl rfl rfl Tryz.func271 fn_271 rfl rfl y8 (fun fid3 ca3 lN3 DN3 cok3 rc3 hrc3=>?_);refine CQR ?_;refine qbQ ?_;refine Lp (ι:=Nat) 7 (fun (k:Nat)=>((((Fr.none).set 0 (.lit (.func (.yield lN3) #[] #[]))).set 1 (.ptr 3 0)).set 2 (.ptr 4 0)).set 4 (.val i64T ((64*k:Nat):Int))) (fun (k:Nat)=>(((((((Hp.none).set 0 (.box 46 idT zId)).set 1 (.box 262 (arrT 8 yn u32T) (shaN (zcL b) k))).set 2 (.parts 260 [.ptr 1 0])).set 3 (.box 26 (sl u8T) (zcL b))).set 4 (.box 3 i64T 64)).set 5 (.objAt DN3 (.deferred (some [])))).set 6 (.objAt lN3 (rc3 .ready none))) (fun (k:Nat)=>k≤m) (fun (k:Nat)=>m-k) (0) (uf _) ?_;intro k hinv;refine qaF ?_;refine xp ?_;refine qcr ?_;refine qav ?_;refine Cf (p:=64*k<(zcL b).length) (fun ht9=>?_) (fun ht9=>?_)
 ·
  refine qdi ?_;refine G0 (oLs rfl rfl rfl ty_3) ?_;refine G0 (oLs rfl rfl rfl zhK) ?_;refine G0 mV ?_;refine G0 (ziT rfl rfl rfl zb4 yg) ?_;refine G0 (zat rfl rfl zed) ?_;refine G0 (g_min rfl rfl rfl) ?_;refine qaV ?_;refine zj (d:=5) (y:=(64:Int)) rfl yy ?_;refine CQR ?_;refine A0 mL ?_;refine xp ?_;refine qad ?_;refine qc2 ?_;refine qad ?_;refine A0 zcn ?_;refine A0 (zvW rfl rfl rfl rfl rfl zb4 yy) ?_;refine zj (d:=28) (y:=((zcL b).take (64*k+64)).drop (64*k)) rfl (by congr 1) ?_;refine zk5 (nL:=6) rfl rfl rfl rfl rfl hrc3 rfl rfl rfl (fun ya4 yok4=>?_);refine CR ?_;refine qac ?_;refine zk8 (nL:=6) hrc3 rfl ?_;refine CB ?_;refine CR ?_;refine A0 yb9 ?_;refine qau ?_;refine zij (add_ok (shaN (zcL b) k) (((zcL b).take (64*k+64)).drop (64*k)) (by rw[List.length_drop,um];omega) (zmD _ k)) rfl fn_227 rfl trivial trivial rfl ycl rfl rfl rfl ?_;refine CN ?_;refine CI ?_;refine zfg (nL:=6) hrc3 rfl ?_;refine qaJ ?_;refine Cg ?_;refine CSIR ?_;refine qau ?_;refine A0 (oLs rfl rfl rfl ty_3) ?_;refine A0 zcn ?_;refine qac ?_;refine zj (d:=4) (y:=((64*(k+1):Nat):Int)) rfl ya ?_;refine zJ (n:=1) (y:=shaN (zcL b) (k+1)) rfl zny ?_;exact Nx (k+1) ya ya
 obtain rfl:m=k:=ya;refine CE ?_;refine zgZ (nL:=6) rfl hrc3 rfl yn ?_;refine CI ?_;refine CQR ?_;refine qaB ?_;refine CNQQR ?_;refine qaP ?_;refine Lp (ι:=Nat) 8 (fun (j:Nat)=>((((Fr.none).set 2 (.ptr 0 0)).set 3 (.ptr 2 0)).set 5 (.ptr 7 0)).set 16 (.val i64T (j:Int))) (fun (j:Nat)=>(((((Hp.none).set 0 (.box 46 idT zId)).set 1 (.box 262 (arrT 8 yn u32T) (shaN (zcL b) m))).set 2 (.parts 260 [.ptr 1 0])).set 5 (.objAt DN3 (.deferred (some [])))).set 7 (.box 46 idT (zen (shaN (zcL b) m) j))) (fun (j:Nat)=>j≤32) (fun (j:Nat)=>32-j) (0) (uf _) ?_;intro j hinv;refine qar ?_;refine Cf (p:=j<32) (fun ht17=>?_) (fun ht17=>?_)
 ·
  refine qbh ?_;refine qbX ?_;refine qau ?_;refine A0 yb9 ?_;refine qau ?_;refine qb8 ?_;refine xc ?_;refine A0 (zG (i:=j/4) rfl rfl rfl yi zej ya) ?_;refine A0 (zy rfl rfl rfl (Lens.elem (i:=j/4) ya u32T) zbp) ?_;refine qau ?_;refine qbn ?_;refine A0 zh0 ?_;refine A0 za5 ?_;refine A0 (zon rfl rfl rfl ym rfl) ?_;refine A0 (zh6 rfl (ui_5) (znk) rfl) ?_;refine A0 (zG (i:=j) rfl rfl rfl yi zfj ya) ?_;refine zg rfl rfl rfl rfl rfl (Lens.elem (i:=j) ya u8T) ty_5 rfl ?_;refine qbK ?_;refine zJ (n:=7) (y:=zen (shaN (zcL b) m) (j+1)) rfl (zf8 (by unfold zjP;congr 3;simp only[IntL.toI,id_eq];omega)) ?_;exact Nx (j+1) ya ya
 obtain rfl:j=32:=ya;refine qdl ?_;refine qb4 ?_;refine qaq ?_;refine zaX (zds (nD:=5) rfl rfl rfl ?_);exact zrM rfl rfl rfl rfl zab yb4
def idOf (t:Tx):Ab.Id:=if zaN t=true then zfA ([6]++zt5 t) else zId
theorem zjm {α:Type} {T:GoT α} {U N:Nat→Prop} {w:World}:∀{l:List α} {cs:List Value},zan T U N w l cs→∀x∈l,∃c,T.rel U N w x c
  | [],_,_,x,hx=>by cases hx
  | y::l,_,⟨c1,c2,_,h1,h2⟩,x,hx=>by
    rcases List.mem_cons.1 hx with e|e
    · exact⟨c1,e▸h1⟩
    exact zjm h2 x e
theorem zuo {t:Tx} {ρ:Nat→Value} {B:Nat→Prop} {U N:Nat→Prop} {w:World} {v:Value} (h:(AV.val txT t).rel ρ B U N w v):∀x∈t.ins,x.tx.length=32:=fun x hx=>by
  obtain⟨cs,⟨c1,c2,_,⟨ad,cap,_,_,_,h3⟩,_⟩,_⟩:=h;obtain⟨_,ds,_,_,hr,_⟩:=h3 (List.ne_nil_of_mem hx);obtain⟨c,hc⟩:=zjm hr x hx;exact fact_in hc
theorem zrr {α β:Type} {f:α→List β} {n:Nat}:∀{l:List α},(∀x∈l,(f x).length=n)→(l.map f).flatten.length=l.length*n
  | [],_=>by simp
  | x::l,h=>by
    rw[List.map_cons,List.flatten_cons,ue,h x yw,zrr (fun y hy=>h y ybH),List.length_cons,Nat.add_mul];omega
theorem zsF {t:Tx} (h:zaN t=true) (h32:∀x∈t.ins,x.tx.length=32):(zt5 t).length≤200:=by
  obtain⟨h1,_,h2⟩:=zdv h;unfold zt5 zd3 ziJ;have e1:=zrr (f:=putIn) (n:=33) (l:=t.ins.take t.ins.length) (fun x hx=>by
    rw[List.take_length] at hx;unfold putIn;rw[ue,h32 x hx];rfl)
  have e2:=zrr (f:=zvt) (n:=7) (l:=t.outs.take t.outs.length) (fun x hx=>by
    unfold zvt;rw[ue,zE];rfl)
  rw[List.take_length] at e1 e2;simp only[ue,List.length_cons,List.length_nil,List.take_length,e1,e2];omega
theorem of_ok (ls:List (List UInt8)) (hl:ls.flatten.length≤70368744177664):Tells P 123 [.val (bsl (bsl u8T)) ls] (.val idT (zfA ls.flatten)):=by
 refine zc Tryz.func123 rfl rfl rfl (fun ext w hext=>?_);refine ze (d:=0) rfl zi (fun hsl0=>?_);refine qbD ?_;refine qau ?_;refine A0 (oCl (zC (zhB ls ya)) rfl zpV yc) ?_;refine A0 (oCl (zu5 ls.flatten hl) rfl zwb yc) ?_;refine qaq ?_;exact zF rfl rfl rfl rfl zab (rfl)
theorem id_ok (t:Tx):Tells P 162 [.val txT t] (.val idT (idOf t)):=by
 refine zc Tryz.func162 rfl rfl rfl (fun ext w hext=>?_);refine ze (d:=0) rfl zuo (fun h32=>?_);refine qae ?_;refine qaB ?_;refine CNQR ?_;refine qbF ?_;refine A0 (oCl (zbo (put_ok t)) rfl fn_224 yc) ?_;refine qb1 ?_;refine qaJ ?_;refine zq (p:=¬zaN t=true) rfl yw (fun ht11=>?_) (fun ht11=>?_)
 ·
  refine CQR ?_;refine A0 (zev rfl zfj ztN rfl) ?_;refine qaq ?_;exact zF rfl rfl rfl rfl zab (by unfold idOf;rw[ur ht11])
 refine zj (d:=3) rfl (ut (ua ht11)) ?_;refine CSQR ?_;refine qa5 ?_;refine qau ?_;refine A0 (zag (T:=(sl u8T)) (xs:=[_,_]) rfl zfJ ze6 yaD rfl rfl) ?_;refine A0 (oCl (of_ok [[6],zt5 t] (by have:=zsF (ua ht11) h32;simp;omega)) rfl zwg yc) ?_;refine qaq ?_;exact zF rfl rfl rfl rfl zab (by unfold idOf;rw[ut (ua ht11)];simp)
def powN:Nat→UInt32
  | 0=>1
  | n+1=>2*powN n
theorem zmN:∀n,n<32→(powN n).toNat=2^n
  | 0,_=>rfl
  | n+1,h=>by
    have ih:=zmN n ya;have h2:2^n≤2^30:=Nat.pow_le_pow_right yn ya;rw[powN,UInt32.toNat_mul,ih,Nat.pow_succ];have e:(2:UInt32).toNat=2:=rfl;rw[e];omega
theorem turn_n:∀n:Nat,n<32→0<n→(zL (IntKind.i64.wrap (0-(n:Int)))&&&31).toNat=32-n∧(32-(zL (IntKind.i64.wrap (0-(n:Int)))&&&31)).toNat=n:=yd
theorem zvz {a b k:Nat} (h:b<2^k):a*2^k|||b=a*2^k+b:=by
  rw[Nat.mul_comm];exact(Nat.two_pow_add_eq_or_of_lt h a).symm
theorem turn_rr (x:UInt32) {n:Nat} (h0:0<n) (h:n<32):x/powN n+x*powN (32-n)=rr x n:=by
  have hx:x.toNat<2^32:=x.toNat_lt;obtain⟨e1,e2⟩:=turn_n n h h0;apply UInt32.toNat_inj.1;unfold rr rotl;rw[e1,e2,UInt32.toNat_add,UInt32.toNat_div,UInt32.toNat_mul,zmN n h,zmN (32-n) ya,UInt32.toNat_or];unfold zsi zel;rw[UInt32.toNat_ofNat',Nat.min_eq_left ya,UInt32.toNat_ofNat_of_lt' (Nat.lt_of_le_of_lt (Nat.div_le_self _ _) hx),Nat.min_eq_left ya];have hp:2^32=2^n*2^(32-n):=by rw[←Nat.pow_add];congr 1;omega
  have hm:x.toNat*2^(32-n)%2^32=x.toNat%2^n*2^(32-n):=by rw[hp,Nat.mul_mod_mul_right]
  have hd:x.toNat/2^n<2^(32-n):=by rw[Nat.div_lt_iff_lt_mul (Nat.two_pow_pos n),Nat.mul_comm,←hp];exact hx
  rw[hm,zvz hd,Nat.add_comm];refine Nat.mod_eq_of_lt ?_;have hl:=Nat.mod_lt x.toNat (Nat.two_pow_pos n)
  have:x.toNat%2^n*2^(32-n)+2^(32-n)≤2^n*2^(32-n):=by
    rw[←Nat.succ_mul];exact Nat.mul_le_mul_right _ hl
  omega
theorem maj_eq (a b c:UInt32):(a&&&b)|||(a&&&c)|||(b&&&c)=(a&&&b)^^^(a&&&c)^^^(b&&&c):=by
  apply UInt32.toBitVec_inj.1;simp only[UInt32.toBitVec_or,UInt32.toBitVec_and,UInt32.toBitVec_xor]
  ext i hi
  simp only[BitVec.getElem_or,BitVec.getElem_and,BitVec.getElem_xor];cases a.toBitVec[i]<;>cases b.toBitVec[i]<;>cases c.toBitVec[i]<;>rfl
theorem not_eq (a:UInt32):4294967295-a = ~~~ a:=by
  apply UInt32.toNat_inj.1;have ha:a.toNat<4294967296:=a.toNat_lt;rw[UInt32.toNat_sub,UInt32.toNat_not];have e:(4294967295:UInt32).toNat=4294967295:=rfl;rw[e]
  have:UInt32.size=4294967296:=rfl
  omega
theorem u32_of8 (x:UInt8):(zd8 (IntL.toI u8T x)).toNat=x.toNat:=by
  have hx:x.toNat<256:=x.toNat_lt;unfold zd8;show(UInt32.ofNat ((x.toNat:Int)%4294967296).toNat).toNat=_;rw[show((x.toNat:Int)%4294967296).toNat=x.toNat by omega,UInt32.toNat_ofNat_of_lt' (by show _<4294967296;omega)]
theorem be_eq (x0 x1 x2 x3:UInt8):16777216*zd8 (IntL.toI u8T x0)+65536*zd8 (IntL.toI u8T x1)+256*zd8 (IntL.toI u8T x2)+zd8 (IntL.toI u8T x3)=zwx x0 x1 x2 x3:=by
  have h0:x0.toNat<256:=x0.toNat_lt;have h1:x1.toNat<256:=x1.toNat_lt;have h2:x2.toNat<256:=x2.toNat_lt;have h3:x3.toNat<256:=x3.toNat_lt;apply UInt32.toNat_inj.1;unfold zwx zsi;simp only[UInt32.toNat_or,UInt32.toNat_add,UInt32.toNat_mul,u32_of8];rw[UInt32.toNat_ofNat_of_lt' (show x0.toNat*2^min 24 32<2^32 by show x0.toNat*16777216<4294967296;omega),UInt32.toNat_ofNat_of_lt' (show x1.toNat*2^min 16 32<2^32 by show x1.toNat*65536<4294967296;omega),UInt32.toNat_ofNat_of_lt' (show x2.toNat*2^min 8 32<2^32 by show x2.toNat*256<4294967296;omega)];have e1:x0.toNat*2^min 24 32|||x1.toNat*2^min 16 32=(x0.toNat*256+x1.toNat)*2^16:=by
    rw[show x0.toNat*2^min 24 32=x0.toNat*2^24 from rfl,zvz (k:=24) (by show x1.toNat*65536<16777216;omega)];show x0.toNat*16777216+x1.toNat*65536=(x0.toNat*256+x1.toNat)*65536;omega
  rw[e1,zvz (k:=16) (by show x2.toNat*256<65536;omega)];have e2:(x0.toNat*256+x1.toNat)*2^16+x2.toNat*2^min 8 32=((x0.toNat*256+x1.toNat)*256+x2.toNat)*2^8:=by
    show(x0.toNat*256+x1.toNat)*65536+x2.toNat*256=((x0.toNat*256+x1.toNat)*256+x2.toNat)*256;omega
  rw[e2,zvz (k:=8) (by show x3.toNat<256;omega)];have c1:(16777216:UInt32).toNat=16777216:=rfl;have c2:(65536:UInt32).toNat=65536:=rfl;have c3:(256:UInt32).toNat=256:=rfl;rw[c1,c2,c3];omega
theorem div8 (x:UInt32):x/8=zel x 3:=by
  apply UInt32.toNat_inj.1;have hx:x.toNat<4294967296:=x.toNat_lt;unfold zel;rw[UInt32.toNat_div,UInt32.toNat_ofNat_of_lt' (Nat.lt_of_le_of_lt (Nat.div_le_self _ _) hx)];rfl
theorem div1024 (x:UInt32):x/1024=zel x 10:=by
  apply UInt32.toNat_inj.1;have hx:x.toNat<4294967296:=x.toNat_lt;unfold zel;rw[UInt32.toNat_div,UInt32.toNat_ofNat_of_lt' (Nat.lt_of_le_of_lt (Nat.div_le_self _ _) hx)];rfl
theorem zcg {b:List UInt8}:∀k,(zbj b k).length=64
  | 0=>by simp[zbj]
  | k+1=>by
    have e:zbj b (k+1)=zhn b (zbj b k) k:=zcZ;rw[e];unfold zhn
    have:=zcg (b:=b) k
    split<;>rw[List.length_set]<;>exact this
theorem zu3 {α:Type} {l:List α} {k:Nat} {x:α} (hk:k<l.length):(l.set k x).take (k+1)=l.take k++[x]:=by
  rw[un,List.take_set_of_le (ug k),List.getElem?_set_self hk];rfl
theorem words_lo {b:List UInt8} {k:Nat} {x0 x1 x2 x3:UInt8} (hk:k<16) (h0:b[4*k]?=some x0) (h1:b[4*k+1]?=some x1) (h2:b[4*k+2]?=some x2) (h3:b[4*k+3]?=some x3):(zbj b k).take k++[16777216*zd8 (IntL.toI u8T x0)+65536*zd8 (IntL.toI u8T x1)+256*zd8 (IntL.toI u8T x2)+zd8 (IntL.toI u8T x3)]=(zbj b (k+1)).take (k+1):=by
  rw[be_eq,←zvc hk h0 h1 h2 h3,zu3 (by rw[zcg];omega)]
theorem zkk {l:List UInt32} {k j:Nat} {x:UInt32} (h:(l.take k)[j]?=some x):l.getD j default=x:=by
  have hj:j<k:=by
    have:=(ul.1 h).1
    rw[um] at this;omega
  rw[List.getElem?_take_of_lt hj] at h;rw[uq,h];rfl
theorem words_hi {b:List UInt8} {k:Nat} {u v x y:UInt32} (hk:¬k<16) (hk2:k<64) (hu:((zbj b k).take k)[k-16]?=some u) (hv:((zbj b k).take k)[k-7]?=some v) (hx:((zbj b k).take k)[k-15]?=some x) (hy:((zbj b k).take k)[k-2]?=some y) :
    (zbj b k).take k++[u+(rr x 7^^^rr x 18^^^x/8)+v+(rr y 17^^^rr y 19^^^y/1024)]=(zbj b (k+1)).take (k+1):=by
  rw[←zvd hk,zu3 (by rw[zcg];omega),zkk hu,zkk hv,zkk hx,zkk hy,div8,div1024];unfold znC;rw[UInt32.add_assoc u _ v,UInt32.add_comm _ v,←UInt32.add_assoc]
theorem eight {l:List UInt32} (h:l.length=8):∃a b c d e f g i,l=[a,b,c,d,e,f,g,i]:=by
  match l,h with
  | [a,b,c,d,e,f,g,i],_=>exact⟨a,b,c,d,e,f,g,i,rfl⟩
theorem round_ref {w h:List UInt32} {k:Nat} {a b c d e f g i kk ww:UInt32} (hv:zfB w h k=[a,b,c,d,e,f,g,i]) (hk:shaK[k]?=some kk) (hw:w[k]?=some ww) :
    [i+(rr e 6^^^rr e 11^^^rr e 25)+((e&&&f)^^^((4294967295-e)&&&g))+kk+ww+(rr a 2^^^rr a 13^^^rr a 22)+((a&&&b)|||(a&&&c)|||(b&&&c)),a,b,c,d+(i+(rr e 6^^^rr e 11^^^rr e 25)+((e&&&f)^^^((4294967295-e)&&&g))+kk+ww),e,f,g]=zfB w h (k+1):=by
  rw[←zlt,hv,maj_eq,not_eq,UInt32.add_assoc _ _ ((a&&&b)^^^(a&&&c)^^^(b&&&c))];unfold znI roundX roundY;simp only[uq (l:=shaK),uq (l:=w),hk,hw,Option.getD_some];rfl
theorem sumN_comm {v s:List UInt32} (hv:v.length=8) (hs:s.length=8):sumN v s 8=sumN s v 8:=by
  obtain⟨a,b,c,d,e,f,g,i,rfl⟩:=eight hv;obtain⟨a',b',c',d',e',f',g',i',rfl⟩:=eight hs;show [a'+a,b'+b,c'+c,d'+d,e'+e,f'+f,g'+g,i'+i]=[a+a',b+b',c+c',d+d',e+e',f+f',g+g',i+i'];simp only[UInt32.add_comm]
theorem sum_succ2 {v s:List UInt32} {k:Nat} {x y:UInt32} (h:v[k]?=some x) (hy:(sumN v s k)[k]?=some y):(sumN v s k).set k (y+x)=sumN v s (k+1):=by
  rw[←zu4 h,uq,hy];rfl
theorem rpow_ok (n:Int) (hn:n<100):Tells P 340 [.val i64T n] (.val u32T (powN n.toNat)):=by
 refine zc Tryz.func340 rfl rfl rfl (fun ext w hext=>?_);refine ze (d:=0) rfl zu (fun hin0=>?_);refine CQR ?_;refine qah ?_;refine qcc ?_;refine Lp (ι:=Nat) 0 (fun (k:Nat)=>(((Fr.none).set 0 (.val i64T n)).set 3 (.val u32T (powN k))).set 4 (.val i64T (k:Int))) (fun (k:Nat)=>Hp.none) (fun (k:Nat)=>k≤n.toNat) (fun (k:Nat)=>n.toNat-k) (0) (uf _) ?_;intro k hinv;refine qaW ?_;refine qav ?_;refine Cf (p:=k<n.toNat) (fun ht7=>?_) (fun ht7=>?_)
 ·
  refine qa8 ?_;refine CR ?_;refine qau ?_;refine A0 (zoq rfl rfl rfl) ?_;refine A0 aV ?_;refine qaK ?_;exact Nx (k+1) ya ya
 obtain rfl:k=n.toNat:=ya;refine qcu ?_;refine qac ?_;exact zd rfl rfl (za rfl rfl)
theorem zeZ (x:UInt32) (n:Nat) (h0:0<n) (h:n<32):Tells P 326 [.val u32T x,.val i64T (n:Int)] (.val u32T (rr x (n:Int))):=by
 refine zc Tryz.func326 rfl rfl rfl (fun ext w hext=>?_);refine ze (d:=1) rfl zu (fun hin1=>?_);refine CQR ?_;refine qcU ?_;refine qbv ?_;refine G0 (oCl (rpow_ok (n:Int) ya) rfl fn_340 yc) ?_;refine G0 (zj1 rfl rfl rfl (by rw[Int.toNat_natCast,zmN _ h];exact Nat.ne_of_gt (Nat.two_pow_pos n))) ?_;refine qbv ?_;refine G0 za5 ?_;refine G0 (oCl (rpow_ok (32-(n:Int)) ya) rfl fn_340 yc) ?_;refine G0 (zoq rfl rfl rfl) ?_;refine xk ?_;refine qaV ?_;exact zd rfl rfl (za rfl (by rw[show(32-(n:Int)).toNat=32-n by omega,Int.toNat_natCast];exact turn_rr x h0 h))
theorem zt0:Tells P 325 [] (.val (sl u32T) shaK):=by
 refine zc Tryz.func325 rfl rfl rfl (fun ext w hext=>?_);refine qb0 ?_;refine A0 (zag (T:=u32T) (xs:=[_,_,_,_,_,_,_,_,_,_,_,_,_,_,_,_,_,_,_,_,_,_,_,_,_,_,_,_,_,_,_,_,_,_,_,_,_,_,_,_,_,_,_,_,_,_,_,_,_,_,_,_,_,_,_,_,_,_,_,_,_,_,_,_]) rfl zbr ziF yK rfl rfl) ?_;refine qac ?_;exact zd rfl rfl (za rfl rfl)
theorem rfirst_ok:Tells P 303 [] (.val (sl u32T) shaH):=by
 refine zc Tryz.func303 rfl rfl rfl (fun ext w hext=>?_);refine qb0 ?_;refine A0 (zag (T:=u32T) (xs:=[_,_,_,_,_,_,_,_]) rfl zbr ziF yaq rfl rfl) ?_;refine qac ?_;exact zd rfl rfl (za rfl rfl)
theorem rwords_ok (b:List UInt8) (hb:b.length=64):Tells P 305 [.val (bsl u8T) b] (.fresh 50 u32T (zbj b 64)):=by
 refine zc Tryz.func305 rfl rfl rfl (fun ext w hext=>?_);refine ze (d:=0) rfl zi (fun hsl0=>?_);refine qb0 ?_;refine A0 aL ?_;refine qaw ?_;refine zbd (T:=u32T) (d:=3) 50 rfl ?_;refine Lp (ι:=Nat) 1 (fun (k:Nat)=>(((Fr.none).set 0 (.val (bsl u8T) b)).set 3 (.own 0)).set 4 (.val i64T (k:Int))) (fun (k:Nat)=>(Hp.none).set 0 (.row 50 u32T ((zbj b k).take k))) (fun (k:Nat)=>k≤16) (fun (k:Nat)=>16-k) (0) (uf _) ?_;intro k hinv;refine qaF ?_;refine qav ?_;refine Cf (p:=k<16) (fun ht9=>?_) (fun ht9=>?_)
 ·
  obtain⟨x0,hx0⟩:∃x,b[4*k]?=some x:=yq;obtain⟨x1,hx1⟩:∃x,b[4*k+1]?=some x:=yq;obtain⟨x2,hx2⟩:∃x,b[4*k+2]?=some x:=yq;obtain⟨x3,hx3⟩:∃x,b[4*k+3]?=some x:=yq;refine qa8 ?_;refine zH [some 1,some 1,some 1,some 1,some 1,some 1,some 1,some 1,some 1,some 1,some 1,some 1,some 1,some 1,some 1,some 1,some 1,some 1,some 1,some 1,some 1,some 1,some 1,some 1,some 1,some 1,some 1,some 1,some 1,some 1,some 1,some 1,some 1,some 1,some 1,none,some 1] mixed yd ?_;refine X0 mO ?_;refine qbG ?_;refine X0 zh0 ?_;refine X0 (zr (i:=4*k) rfl rfl rfl ya zb4 yh) ?_;refine qb2 ?_;refine X0 (zoq rfl rfl rfl) ?_;refine qbG ?_;refine X0 zh0 ?_;refine X0 zcn ?_;refine X0 (zr (i:=4*k+1) rfl rfl rfl ya zb4 yh) ?_;refine qb2 ?_;refine X0 (zoq rfl rfl rfl) ?_;refine qcG ?_;refine qbG ?_;refine X0 zh0 ?_;refine X0 zcn ?_;refine X0 (zr (i:=4*k+2) rfl rfl rfl ya zb4 yh) ?_;refine qb2 ?_;refine X0 (zoq rfl rfl rfl) ?_;refine qcG ?_;refine qbG ?_;refine X0 zh0 ?_;refine X0 zcn ?_;refine X0 (zr (i:=4*k+3) rfl rfl rfl ya zb4 yh) ?_;refine qb2 ?_;refine qcG ?_;refine X0 (zag (T:=u32T) (xs:=[_]) rfl zbr ziF yx rfl rfl) ?_;refine XK.e (fun fr' hfr kk H=>by exact zo rfl rfl rfl rfl ((hfr 12 yd).trans rfl) rfl ((hfr 46 yd).trans rfl) ziF ycf (zM H)) ?_;refine X0 aO ?_;refine qaX ?_;refine qak ?_;refine qbx ?_;refine zl (n:=0) rfl (words_lo ht9 hx0 hx1 hx2 hx3) ?_;exact Nx (k+1) ya ya
 obtain rfl:k=16:=ya;refine CE ?_;refine CQQR ?_;refine qbQ ?_;refine Lp (ι:=Nat) 1 (fun (k:Nat)=>((Fr.none).set 3 (.own 0)).set 5 (.val i64T (k:Int))) (fun (k:Nat)=>(Hp.none).set 0 (.row 50 u32T ((zbj b k).take k))) (fun (k:Nat)=>16≤k∧k≤64) (fun (k:Nat)=>64-k) (16) (⟨ug _,by decide⟩) ?_;intro k hinv;refine qaF ?_;refine qav ?_;refine Cf (p:=k<64) (fun ht49=>?_) (fun ht49=>?_)
 ·
  obtain⟨u,hu⟩:∃x,((zbj b k).take k)[k-16]?=some x:=⟨_,ub (by rw[um,zcg];omega)⟩;obtain⟨v,hv⟩:∃x,((zbj b k).take k)[k-7]?=some x:=⟨_,ub (by rw[um,zcg];omega)⟩;obtain⟨x,hx⟩:∃x,((zbj b k).take k)[k-15]?=some x:=⟨_,ub (by rw[um,zcg];omega)⟩;obtain⟨y,hy⟩:∃x,((zbj b k).take k)[k-2]?=some x:=⟨_,ub (by rw[um,zcg];omega)⟩;have hl:((zbj b k).take k).length=k:=by rw[um,zcg];omega
  refine qdi ?_;refine qdk ?_;refine G0 (zaQ (i:=k-15) rfl rfl rfl rfl yi zbr yg) ?_;refine qa2 ?_;refine G0 (oCl (zeZ x 7 yn yn) rfl zjG ye) ?_;refine qdk ?_;refine G0 (zaQ (i:=k-15) rfl rfl rfl rfl yi zbr yg) ?_;refine qa2 ?_;refine G0 (oCl (zeZ x 18 yn yn) rfl zjG ye) ?_;refine qcy ?_;refine qdk ?_;refine G0 (zaQ (i:=k-15) rfl rfl rfl rfl yi zbr yg) ?_;refine qa2 ?_;refine G0 (zj1 rfl rfl rfl yn) ?_;refine qcy ?_;refine qaV ?_;refine qaG ?_;refine qdk ?_;refine G0 (zaQ (i:=k-2) rfl rfl rfl rfl yi zbr yg) ?_;refine qa2 ?_;refine G0 (oCl (zeZ y 17 yn yn) rfl zjG ye) ?_;refine qdk ?_;refine G0 (zaQ (i:=k-2) rfl rfl rfl rfl yi zbr yg) ?_;refine qa2 ?_;refine G0 (oCl (zeZ y 19 yn yn) rfl zjG ye) ?_;refine qcy ?_;refine qdk ?_;refine G0 (zaQ (i:=k-2) rfl rfl rfl rfl yi zbr yg) ?_;refine qa2 ?_;refine G0 (zj1 rfl rfl rfl yn) ?_;refine qcy ?_;refine qaV ?_;refine zH [some 1,some 1,some 1,some 1,some 1,some 1,some 1,some 1,some 1,some 1,some 1,some 1,some 1,some 1,some 1,some 1,some 1,none,some 1] mixed yd ?_;refine X0 mO ?_;refine qcR ?_;refine X0 za5 ?_;refine X0 (zaQ (i:=k-16) rfl rfl rfl rfl yi zbr yg) ?_;refine qbi ?_;refine X0 mV ?_;refine qcG ?_;refine qcR ?_;refine X0 za5 ?_;refine X0 (zaQ (i:=k-7) rfl rfl rfl rfl yi zbr yg) ?_;refine qbi ?_;refine qcG ?_;refine X0 mV ?_;refine qcG ?_;refine X0 (zag (T:=u32T) (xs:=[_]) rfl zbr ziF yx rfl rfl) ?_;refine XK.e (fun fr' hfr kk H=>by exact zo rfl rfl rfl rfl ((hfr 92 yd).trans rfl) rfl ((hfr 108 yd).trans rfl) ziF ycf (zM H)) ?_;refine X0 aO ?_;refine qaX ?_;refine qak ?_;refine qbx ?_;refine zl (n:=0) rfl (words_hi ya ht49 hu hv hx hy) ?_;exact Nx (k+1) (⟨by omega,by omega⟩) ya
 obtain rfl:k=64:=ya;refine qa0 ?_;exact zd rfl rfl (zf rfl rfl (uc (by rw[zcg];exact ug _)))
theorem rrounds_ok (hs ws:List UInt32) (hh:hs.length=8) (hw:ws.length=64):Tells P 304 [.val (bsl u32T) hs,.val (bsl u32T) ws] (.fresh 50 u32T (sumN (zfB ws hs 64) hs 8)):=by
 refine zc Tryz.func304 rfl rfl rfl (fun ext w hext=>?_);refine ze (d:=0) rfl zi (fun hsl0=>?_);refine ze (d:=1) rfl zi (fun hsl1=>?_);refine qb0 ?_;refine A0 (oCl (zt0) rfl fn_325 trivial) ?_;refine qaA ?_;refine zcE rfl rfl rfl rfl rfl rfl ziF ya ?_;refine A0 aO ?_;refine qaw ?_;refine Lp (ι:=Nat) 1 (fun (k:Nat)=>(((((Fr.none).set 0 (.val (bsl u32T) hs)).set 1 (.val (bsl u32T) ws)).set 5 (.val (sl u32T) shaK)).set 6 (.own 0)).set 7 (.val i64T (k:Int))) (fun (k:Nat)=>(Hp.none).set 0 (.row 50 u32T (zfB ws hs k))) (fun (k:Nat)=>k≤64) (fun (k:Nat)=>64-k) (0) (uf _) ?_;intro k hinv;refine qaF ?_;refine qav ?_;refine Cf (p:=k<64) (fun ht18=>?_) (fun ht18=>?_)
 ·
  obtain⟨kk,hkk⟩:∃x,shaK[k]?=some x:=⟨_,ub (by show k<64;omega)⟩;obtain⟨ww,hww⟩:∃x,ws[k]?=some x:=yq;obtain⟨a,b,c,d,e,f,g,i,hv⟩:=eight (zjk (w:=ws) hh k);refine zl (n:=0) rfl hv ?_;have h0:([a,b,c,d,e,f,g,i]:List UInt32)[0]?=some a:=rfl;have h1:([a,b,c,d,e,f,g,i]:List UInt32)[1]?=some b:=rfl;have h2:([a,b,c,d,e,f,g,i]:List UInt32)[2]?=some c:=rfl;have h3:([a,b,c,d,e,f,g,i]:List UInt32)[3]?=some d:=rfl;have h4:([a,b,c,d,e,f,g,i]:List UInt32)[4]?=some e:=rfl;have h5:([a,b,c,d,e,f,g,i]:List UInt32)[5]?=some f:=rfl;have h6:([a,b,c,d,e,f,g,i]:List UInt32)[6]?=some g:=rfl;have h7:([a,b,c,d,e,f,g,i]:List UInt32)[7]?=some i:=rfl;have b0:0<([a,b,c,d,e,f,g,i]:List UInt32).length:=yw;have b1:1<([a,b,c,d,e,f,g,i]:List UInt32).length:=yw;have b2:2<([a,b,c,d,e,f,g,i]:List UInt32).length:=yw;have b3:3<([a,b,c,d,e,f,g,i]:List UInt32).length:=yw;have b4:4<([a,b,c,d,e,f,g,i]:List UInt32).length:=yw;have b5:5<([a,b,c,d,e,f,g,i]:List UInt32).length:=yw;have b6:6<([a,b,c,d,e,f,g,i]:List UInt32).length:=yw;have b7:7<([a,b,c,d,e,f,g,i]:List UInt32).length:=yw;refine qdi ?_;refine qbp ?_;refine G0 (oCl (zeZ e 6 yn yn) rfl zjG ye) ?_;refine qbp ?_;refine G0 (oCl (zeZ e 11 yn yn) rfl zjG ye) ?_;refine qcy ?_;refine qbp ?_;refine G0 (oCl (zeZ e 25 yn yn) rfl zjG ye) ?_;refine qcy ?_;refine qaV ?_;refine qaG ?_;refine qbp ?_;refine G0 mO ?_;refine G0 (zaQ (i:=5) rfl rfl rfl rfl yi zbr yg) ?_;refine qa2 ?_;refine xm ?_;refine qbp ?_;refine G0 (g_sub32 rfl rfl rfl) ?_;refine G0 mO ?_;refine G0 (zaQ (i:=6) rfl rfl rfl rfl yi zbr yg) ?_;refine qa2 ?_;refine xm ?_;refine qcy ?_;refine qaV ?_;refine qaG ?_;refine G0 mO ?_;refine G0 (zaQ (i:=7) rfl rfl rfl rfl yi zbr yg) ?_;refine qa2 ?_;refine G0 mV ?_;refine xk ?_;refine G0 mV ?_;refine xk ?_;refine qbv ?_;refine G0 (zr (i:=k) rfl rfl rfl ya zbr yh) ?_;refine G0 (zh rfl rfl zbp) ?_;refine xk ?_;refine qbv ?_;refine G0 (zr (i:=k) rfl rfl rfl ya zbr yh) ?_;refine G0 (zh rfl rfl zbp) ?_;refine xk ?_;refine qaV ?_;refine qaG ?_;refine qbq ?_;refine G0 (oCl (zeZ a 2 yn yn) rfl zjG ye) ?_;refine qbq ?_;refine G0 (oCl (zeZ a 13 yn yn) rfl zjG ye) ?_;refine qcy ?_;refine qbq ?_;refine G0 (oCl (zeZ a 22 yn yn) rfl zjG ye) ?_;refine qcy ?_;refine qaV ?_;refine qaG ?_;refine qbq ?_;refine G0 mO ?_;refine G0 (zaQ (i:=1) rfl rfl rfl rfl yi zbr yg) ?_;refine qa2 ?_;refine xm ?_;refine qbq ?_;refine G0 mO ?_;refine G0 (zaQ (i:=2) rfl rfl rfl rfl yi zbr yg) ?_;refine qa2 ?_;refine xm ?_;refine G0 (zpR rfl rfl rfl) ?_;refine G0 mO ?_;refine G0 (zaQ (i:=1) rfl rfl rfl rfl yi zbr yg) ?_;refine qa2 ?_;refine G0 mO ?_;refine G0 (zaQ (i:=2) rfl rfl rfl rfl yi zbr yg) ?_;refine qa2 ?_;refine xm ?_;refine G0 (zpR rfl rfl rfl) ?_;refine qaV ?_;refine zH [some 1,some 1,some 1,some 1,some 1,some 1,some 1,some 1,some 1,some 1,some 1,some 1,some 1,some 1,some 1,some 1,some 1,some 1,some 1,some 1,some 1,some 1,some 1,some 1,some 1,some 1,some 1,some 1,none,some 1] mixed yd ?_;refine qbG ?_;refine qcG ?_;refine X0 mV ?_;refine qcG ?_;refine X0 mO ?_;refine X0 (zaQ (i:=0) rfl rfl rfl rfl yi zbr yg) ?_;refine qbi ?_;refine X0 mO ?_;refine X0 (zaQ (i:=1) rfl rfl rfl rfl yi zbr yg) ?_;refine qbi ?_
  refine X0 mO ?_;refine X0 (zaQ (i:=2) rfl rfl rfl rfl yi zbr yg) ?_;refine qbi ?_;refine X0 mO ?_;refine X0 (zaQ (i:=3) rfl rfl rfl rfl yi zbr yg) ?_;refine qbi ?_;refine X0 mV ?_;refine qcG ?_;refine X0 mO ?_;refine X0 (zaQ (i:=4) rfl rfl rfl rfl yi zbr yg) ?_;refine qbi ?_;refine X0 mO ?_;refine X0 (zaQ (i:=5) rfl rfl rfl rfl yi zbr yg) ?_;refine qbi ?_;refine X0 mO ?_;refine X0 (zaQ (i:=6) rfl rfl rfl rfl yi zbr yg) ?_;refine qbi ?_;refine XK.e (fun fr' hfr kk H=>by exact zbm (T:=u32T) (xs:=[_,_,_,_,_,_,_,_]) rfl rfl rfl rfl zbr ziF ⟨rfl,((hfr 109 yd).trans rfl),rfl,((hfr 112 yd).trans rfl),rfl,((hfr 115 yd).trans rfl),rfl,((hfr 118 yd).trans rfl),rfl,((hfr 123 yd).trans rfl),rfl,((hfr 126 yd).trans rfl),rfl,((hfr 129 yd).trans rfl),rfl,((hfr 132 yd).trans rfl),trivial⟩ rfl rfl (zM H)) ?_;refine X0 aO ?_;refine qaX ?_;refine qak ?_;refine zuF 0 ?_;refine qbx ?_;refine zl (n:=0) rfl (round_ref hv hkk hww) ?_;exact Nx (k+1) ya ya
 obtain rfl:k=64:=ya;refine CE ?_;refine CQQR ?_;refine qbQ ?_;refine zl (n:=0) (y:=sumN hs (zfB ws hs 64) 0) rfl (by simp[sumN]) ?_;refine Lp (ι:=Nat) 1 (fun (k:Nat)=>(((Fr.none).set 0 (.val (bsl u32T) hs)).set 6 (.own 0)).set 13 (.val i64T (k:Int))) (fun (k:Nat)=>(Hp.none).set 0 (.row 50 u32T (sumN hs (zfB ws hs 64) k))) (fun (k:Nat)=>k≤8) (fun (k:Nat)=>8-k) (0) (uf _) ?_;intro k hinv;refine qaF ?_;refine qav ?_;refine Cf (p:=k<8) (fun ht135=>?_) (fun ht135=>?_)
 ·
  have hsl:(sumN hs (zfB ws hs 64) k).length=8:=by rw[zqv,zjk hh]
  obtain⟨y,hy⟩:∃x,(sumN hs (zfB ws hs 64) k)[k]?=some x:=yq;obtain⟨x,hx⟩:∃x,hs[k]?=some x:=yq;refine qa8 ?_;refine zH [some 1,some 1,some 1,some 1,some 1,some 1,some 1,some 1,some 1,some 1,some 1,some 1,none] mixed yd ?_;refine qcR ?_;refine qcR ?_;refine X0 (zaQ (i:=k) rfl rfl rfl rfl yi zbr yg) ?_;refine qbi ?_;refine qbG ?_;refine X0 (zr (i:=k) rfl rfl rfl ya zbr yh) ?_;refine X0 (zh rfl rfl zbp) ?_;refine qcG ?_;refine X0 (zaQ (i:=k) rfl rfl rfl rfl yi zbr yg) ?_;refine XK.e (x:=.idk) (fun fr' hfr kk H=>by exact zc6 rfl rfl rfl ((hfr 149 yd).trans rfl) rfl rfl yh (Lens.self _) zbp ((hfr 148 yd).trans rfl) (zM H)) ?_;refine qaX ?_;refine qak ?_;refine zl (n:=0) rfl (sum_succ2 hx hy) ?_;exact Nx (k+1) ya ya
 obtain rfl:k=8:=ya;refine qa0 ?_;exact zd rfl rfl (zf rfl rfl (sumN_comm hh (zjk hh _)))
theorem zi8:∀{a b:List UInt8},Lib.compareBytes a b=0↔a=b
  | [],[]=>by simp[Lib.compareBytes]
  | [],_::_=>by simp[Lib.compareBytes]
  | _::_,[]=>by simp[Lib.compareBytes]
  | x::a,y::b=>by
    unfold Lib.compareBytes;by_cases h1:x<y
    · rw[ut h1]
      constructor
      · intro h;omega
      intro h;injection h with h _;subst h;exact absurd h1 (UInt8.lt_irrefl _)
    rw[ur h1];by_cases h2:y<x
    · rw[ut h2]
      constructor
      · intro h;omega
      intro h;injection h with h _;subst h;exact absurd h2 (UInt8.lt_irrefl _)
    rw[ur h2];have e:x=y:=UInt8.le_antisymm (UInt8.not_lt.1 h2) (UInt8.not_lt.1 h1);subst e;rw[zi8 (a:=a) (b:=b)];simp
theorem cb_neg:∀{a b:List UInt8},Lib.compareBytes b a = -Lib.compareBytes a b
  | [],[]=>by simp[Lib.compareBytes]
  | [],_::_=>by simp[Lib.compareBytes]
  | _::_,[]=>by simp[Lib.compareBytes]
  | x::a,y::b=>by
    unfold Lib.compareBytes;by_cases h1:x<y
    · have h2:¬y<x:=fun h=>UInt8.lt_irrefl _ (UInt8.lt_trans h1 h)
      simp[h1,h2]
    by_cases h2:y<x
    · simp[h1,h2]
    simp only[ur h1,ur h2];exact cb_neg
theorem zwu:∀{a b c:List UInt8},Lib.compareBytes a b<0→Lib.compareBytes b c<0→Lib.compareBytes a c<0
  | [],[],_,h,_=>by simp[Lib.compareBytes] at h
  | _::_,[],_,h,_=>by simp[Lib.compareBytes] at h
  | _,_::_,[],_,h=>by simp[Lib.compareBytes] at h
  | [],_::_,_::_,_,_=>by simp[Lib.compareBytes]
  | x::a,y::b,z::c,h,k=>by
    unfold Lib.compareBytes at h k ⊢;by_cases h1:x<y
    · by_cases k1:y<z
      · rw[ut (UInt8.lt_trans h1 k1)];omega
      rw[ur k1] at k;by_cases k2:z<y
      · rw[ut k2] at k;omega
      have e:y=z:=UInt8.le_antisymm (UInt8.not_lt.1 k2) (UInt8.not_lt.1 k1);subst e;rw[ut h1];omega
    rw[ur h1] at h;by_cases h2:y<x
    · rw[ut h2] at h;omega
    rw[ur h2] at h;have e:x=y:=UInt8.le_antisymm (UInt8.not_lt.1 h2) (UInt8.not_lt.1 h1);subst e;by_cases k1:x<z
    · rw[ut k1];omega
    rw[ur k1] at k ⊢;by_cases k2:z<x
    · rw[ut k2] at k;omega
    rw[ur k2] at k ⊢;exact zwu h k
theorem zkF (a b:In):zaY a b=if Lib.compareBytes a.tx b.tx=0 then zi5 a.i b.i else Lib.compareBytes a.tx b.tx:=by
  unfold zaY;simp only[orL];by_cases h:Lib.compareBytes a.tx b.tx=0
  · rw[ut h,ut h]
    split<;>simp_all
  rw[ur h,ur h]
theorem zuw {x y:Int}:zi5 x y=0↔x=y:=by unfold zi5;split<;>(try split)<;>omega
theorem zch {a b:In}:zaY a b=0↔a=b:=by
  rw[zkF];by_cases h:Lib.compareBytes a.tx b.tx=0
  · rw[ut h,zuw]
    have:=zi8.1 h
    cases a;cases b;simp_all
  rw[ur h]
  constructor
  · intro e;exact absurd e h
  intro e;subst e;exact absurd (zi8.2 rfl) h
theorem zcm (a b:In):zaY b a = -zaY a b:=by
  rw[zkF,zkF,cb_neg (a:=a.tx) (b:=b.tx)];by_cases h:Lib.compareBytes a.tx b.tx=0
  · rw[ut h,ut ya]
    unfold zi5;split<;>split<;>(try split)<;>omega
  rw[ur h,ur ya]
theorem zeU {a b c:In} (h:zaY a b<0) (k:zaY b c<0):zaY a c<0:=by
  rw[zkF] at h k ⊢;by_cases h1:Lib.compareBytes a.tx b.tx=0
  · rw[ut h1] at h
    have e:=zi8.1 h1;rw[e];by_cases k1:Lib.compareBytes b.tx c.tx=0
    · rw[ut k1] at k ⊢
      unfold zi5 at *;split at h<;>split at k<;>(try split at h)<;>(try split at k)<;>split<;>(try split)<;>omega
    rw[ur k1] at k ⊢;exact k
  rw[ur h1] at h;by_cases k1:Lib.compareBytes b.tx c.tx=0
  · have e:=zi8.1 k1
    rw[←e,ur h1];exact h
  rw[ur k1] at k
  have:=zwu h k
  rw[ur ya];exact this
def sortL_ren:Go.Shelf.Ren:=⟨fun|6=>288|15=>155|14=>321|28=>214|29=>215|20=>331|21=>332|22=>333|23=>334|24=>335|25=>336|26=>337|27=>338|46=>341|47=>264|48=>265|49=>342|50=>343|57=>344|n=>n,fun|22=>63|24=>228|25=>316|3=>3|39=>135|0=>0|53=>50|55=>47|4=>4|46=>250|45=>249|50=>79|5=>5|9=>9|66=>286|70=>290|76=>326|77=>327|n=>n,fun|n=>n⟩
theorem sortL:Go.Proofs.SlLaysF0.n6 P sortL_ren:={
  mixed:=by kernel_rfl,
  f6:=⟨Tryz.f288.name,by decide,Tryz.func288.trans (congrArg some yv)⟩,
  f14:=⟨Tryz.f321.name,by decide,Tryz.func321.trans (congrArg some yv)⟩,
  f15:=Tryz.func155.trans (congrArg some yv),
  f20:=⟨Tryz.f331.name,by decide,Tryz.func331.trans (congrArg some yv)⟩,
  f21:=⟨Tryz.f332.name,by decide,Tryz.func332.trans (congrArg some yv)⟩,
  f22:=⟨Tryz.f333.name,by decide,Tryz.func333.trans (congrArg some yv)⟩,
  f23:=⟨Tryz.f334.name,by decide,Tryz.func334.trans (congrArg some yv)⟩,
  f24:=⟨Tryz.f335.name,by decide,Tryz.func335.trans (congrArg some yv)⟩,
  f25:=⟨Tryz.f336.name,by decide,Tryz.func336.trans (congrArg some yv)⟩,
  f26:=⟨Tryz.f337.name,by decide,Tryz.func337.trans (congrArg some yv)⟩,
  f27:=⟨Tryz.f338.name,by decide,Tryz.func338.trans (congrArg some yv)⟩,
  f28:=Tryz.func214.trans (congrArg some yv),
  f29:=Tryz.func215.trans (congrArg some yv),
  f46:=⟨Tryz.f341.name,by decide,Tryz.func341.trans (congrArg some yv)⟩,
  f47:=Tryz.func264.trans (congrArg some yv),
  f48:=Tryz.func265.trans (congrArg some yv),
  f49:=⟨Tryz.f342.name,by decide,Tryz.func342.trans (congrArg some yv)⟩,
  f50:=⟨Tryz.f343.name,by decide,Tryz.func343.trans (congrArg some yv)⟩,
  f57:=⟨Tryz.f344.name,by decide,Tryz.func344.trans (congrArg some yv)⟩,
  t0:=Tryz.underlying0,
  a0:=Tryz.isAgg0,
  z0:=Tryz.sizeOf0,
  v0:=Tryz.zeroValue0,
  t3:=Tryz.underlying3,
  a3:=Tryz.isAgg3,
  z3:=Tryz.sizeOf3,
  v3:=Tryz.zeroValue3,
  t4:=Tryz.underlying4,
  a4:=Tryz.isAgg4,
  z4:=Tryz.sizeOf4,
  v4:=Tryz.zeroValue4,
  t5:=Tryz.underlying5,
  a5:=Tryz.isAgg5,
  z5:=Tryz.sizeOf5,
  v5:=Tryz.zeroValue5,
  t9:=Tryz.underlying9,
  a9:=Tryz.isAgg9,
  z9:=Tryz.sizeOf9,
  v9:=Tryz.zeroValue9,
  t22:=Tryz.underlying63,
  a22:=Tryz.isAgg63,
  z22:=Tryz.sizeOf63,
  v22:=Tryz.zeroValue63,
  t25:=Tryz.underlying316,
  a25:=Tryz.isAgg316,
  z25:=Tryz.sizeOf316,
  v25:=Tryz.zeroValue316,
  t39:=Tryz.underlying135,
  a39:=Tryz.isAgg135,
  z39:=Tryz.sizeOf135,
  v39:=Tryz.zeroValue135,
  t45:=Tryz.underlying249,
  a45:=Tryz.isAgg249,
  z45:=Tryz.sizeOf249,
  v45:=Tryz.zeroValue249,
  t46:=Tryz.underlying250,
  a46:=Tryz.isAgg250,
  z46:=Tryz.sizeOf250,
  v46:=Tryz.zeroValue250,
  t50:=Tryz.underlying79,
  a50:=Tryz.isAgg79,
  z50:=Tryz.sizeOf79,
  v50:=Tryz.zeroValue79,
  t53:=Tryz.underlying50,
  a53:=Tryz.isAgg50,
  z53:=Tryz.sizeOf50,
  v53:=Tryz.zeroValue50,
  t55:=Tryz.underlying47,
  a55:=Tryz.isAgg47,
  z55:=Tryz.sizeOf47,
  v55:=Tryz.zeroValue47,
  t66:=Tryz.underlying286,
  a66:=Tryz.isAgg286,
  z66:=Tryz.sizeOf286,
  v66:=Tryz.zeroValue286,
  t70:=Tryz.underlying290,
  a70:=Tryz.isAgg290,
  z70:=Tryz.sizeOf290,
  v70:=Tryz.zeroValue290,
  t76:=Tryz.underlying326,
  a76:=Tryz.isAgg326,
  z76:=Tryz.sizeOf326,
  v76:=Tryz.zeroValue326,
  t77:=Tryz.underlying327,
  a77:=Tryz.isAgg327,
  z77:=Tryz.sizeOf327,
  v77:=Tryz.zeroValue327 }
def Apart (l:List Coin):Prop:=l.Pairwise fun a b=>zaY a.inn b.inn≠0
def zkn (l:List Coin):List Coin:=l.mergeSort fun a b=>decide (zaY a.inn b.inn≤0)
def ztd (l:Ab.Id):List Value:=l.map fun b=>.int .u8 b.toNat
def zoC (c:Coin):List Value:=ztd c.inn.tx++[.int .i64 c.inn.i,.int .i64 c.out.v,.int .i64 c.out.to]
def okCoin (c:Coin):Prop:=c.inn.tx.length=32∧IntKind.InR .i64 c.inn.i∧IntKind.InR .i64 c.out.v∧IntKind.InR .i64 c.out.to
theorem flat_u8:Flat1 u8T (fun b=>[.int .u8 b.toNat]) (fun _=>True):=fun _ _ _ _ _=>Iff.rfl
theorem flat_id:Flat1 idT ztd (fun l=>l.length=32):=fun U N w l cs=>by
  show(l.length=32∧zan u8T U N w l cs)↔_;rw[zh8 flat_u8];have e:(l.map fun b:UInt8=>[Value.int .u8 b.toNat]).flatten=ztd l:=by
    unfold ztd
    induction l with
    | nil=>rfl
    | cons x l ih=>rw[List.map_cons,List.flatten_cons,ih];rfl
  rw[e];exact⟨fun h=>⟨h.2.1,h.1⟩,fun h=>⟨h.2,h.1,fun _ _=>trivial⟩⟩
theorem flat_coin:Flat1 zaz zoC okCoin:=fun U N w c cs=>by
  constructor
  · rintro ⟨c1,c2,rfl,⟨d1,d2,rfl,h1,h2⟩,⟨d3,d4,rfl,h3,h4⟩⟩
    obtain⟨rfl,k1⟩:=(flat_id _ _ _ _ _).1 h1;obtain⟨rfl,k2⟩:=h2;obtain⟨rfl,k3⟩:=h3;obtain⟨rfl,k4⟩:=h4;exact⟨by simp[zoC],k1,k2,k3,k4⟩
  rintro ⟨rfl,k1,k2,k3,k4⟩
  exact⟨ztd c.inn.tx++[.int .i64 c.inn.i],[.int .i64 c.out.v,.int .i64 c.out.to],by simp[zoC],⟨ztd c.inn.tx,[.int .i64 c.inn.i],rfl,(flat_id _ _ _ _ _).2 ⟨rfl,k1⟩,rfl,k2⟩,⟨[.int .i64 c.out.v],[.int .i64 c.out.to],rfl,⟨rfl,k3⟩,rfl,k4⟩⟩
theorem znu {l r:List Coin} (hl:Apart l) (hp:r.Perm l) (hs:r.Pairwise fun a b=>¬zaY b.inn a.inn<0):r=zkn l:=by
  have hle:∀a b c:Coin,(decide (zaY a.inn b.inn≤0))=true→(decide (zaY b.inn c.inn≤0))=true→(decide (zaY a.inn c.inn≤0))=true:=fun a b c h1 h2=>by
    have h1:=of_decide_eq_true h1;have h2:=of_decide_eq_true h2;apply ui;by_cases e1:zaY a.inn b.inn=0
    · rw[zch.1 e1];exact h2
    by_cases e2:zaY b.inn c.inn=0
    · rw[←zch.1 e2];exact h1
    have:=zeU (show zaY a.inn b.inn<0 by omega) (show zaY b.inn c.inn<0 by omega);omega
  have htot:∀a b:Coin,(decide (zaY a.inn b.inn≤0)||decide (zaY b.inn a.inn≤0))=true:=fun a b=>by
    have:=zcm a.inn b.inn
    rw[Bool.or_eq_true,uj,uj];omega
  have h1:(zkn l).Pairwise fun a b=>(decide (zaY a.inn b.inn≤0))=true:=List.pairwise_mergeSort (fun a b c=>hle a b c) (fun a b=>htot a b) l
  have h2:r.Pairwise fun a b=>(decide (zaY a.inn b.inn≤0))=true:=hs.imp fun {a b} h=>by
    have:=zcm a.inn b.inn
    exact ui ya
  have hperm:r.Perm (zkn l):=hp.trans (List.mergeSort_perm l _).symm;have hap:Apart (zkn l):=(List.mergeSort_perm l _).symm.pairwise hl (fun {a b} h=>by have:=zcm a.inn b.inn;omega);have hinj:∀a∈zkn l,∀b∈zkn l,zaY a.inn b.inn=0→a=b:=by
    intro a ha b hb h0;apply Classical.byContradiction;intro hne;obtain⟨i,hi,rfl⟩:=List.getElem_of_mem ha;obtain⟨j,hj,rfl⟩:=List.getElem_of_mem hb;have hw:=List.pairwise_iff_getElem.1 hap;rcases Nat.lt_trichotomy i j with h|h|h
    · exact hw i j hi hj h h0
    · subst h;exact hne rfl
    have:=zcm (zkn l)[i].inn (zkn l)[j].inn
    exact hw j i hj hi h ya
  refine hperm.eq_of_pairwise (le:=fun a b=>(decide (zaY a.inn b.inn≤0))=true) (fun a b ha hb x y=>?_) h2 h1;have x:=of_decide_eq_true x;have y:=of_decide_eq_true y
  have:=zcm a.inn b.inn
  exact hinj a (hperm.mem_iff.1 ha) b hb ya
theorem sort_ok (l:List Coin) (hl:Apart l) (hn:l.length<1000000):zfl P 288 (.row 228 zaz l) [.own 0,.clo 289 []] (.lit (.tuple #[])) (.row 228 zaz (zkn l)) :=
  sort_tells sortL flat_coin (fun c h=>by unfold zoC ztd;simp only[ue,List.length_map,h.1,List.length_cons,List.length_nil];rfl) (fun c _ v hv=>by
    unfold zoC ztd at hv;simp only[List.mem_append,List.mem_map,List.mem_cons,List.not_mem_nil,or_false] at hv;rcases hv with ⟨b,_,rfl⟩|rfl|rfl|rfl<;>rfl) rfl (x0:=⟨⟨zId,0⟩,⟨0,0⟩⟩) ⟨rfl,zdB.2 yn,zdB.2 yn,zdB.2 yn⟩ ze2 (cf:=fun a b=>zaY a.inn b.inn)
    (fun c _ h=>by have:=zch.2 (rfl:c.inn=c.inn);omega) (fun a b c _ _ _ h1 h2=>zeU h1 h2)
    (fun a b c _ _ _ h1 h2 h3=>by
      have n1:=zcm a.inn b.inn;have n2:=zcm b.inn c.inn;by_cases e1:zaY a.inn b.inn=0
      · rw[zch.1 e1] at h3;exact h2 h3
      by_cases e2:zaY b.inn c.inn=0
      · rw[←zch.1 e2] at h3;exact h1 h3
      have:=zeU (show zaY c.inn b.inn<0 by omega) (show zaY b.inn a.inn<0 by omega)
      have n3:=zcm a.inn c.inn;omega) fn_289 (fun x y=>made2_ok x y) ya (fun r hp hs=>znu hl hp hs)
def newN (id:Ab.Id) (outs:List Out) (k:Nat):List Coin:=(outs.take k).zipIdx.map fun x=>⟨⟨id,(x.2:Int)⟩,x.1⟩
theorem zq1 {id:Ab.Id} {outs:List Out} {k:Nat} (h:k≤outs.length):(newN id outs k).length=k:=by simp[newN];omega
theorem znY {id:Ab.Id} {outs:List Out} {k:Nat} {o:Out} (h:outs[k]?=some o) (p:List Coin):p++newN id outs k++[⟨⟨id,(k:Int)⟩,o⟩]=p++newN id outs (k+1):=by
  have hk:=(ul.1 h).1;unfold newN;rw[un,h,List.zipIdx_append,List.map_append,List.append_assoc];simp;omega
def zaW (p:List Coin) (t:Tx):List Coin×Int:=if (p.any fun c=>decide (c.inn.tx=idOf t))=true then ([],10) else (zkn (p++newN (idOf t) t.outs t.outs.length),0)
theorem made_ok (p:List Coin) (t:Tx) (hp:p.length≤48) (hto:t.outs.length≤3) (hd:(p.any fun c=>decide (c.inn.tx=idOf t))=false→Apart (p++newN (idOf t) t.outs t.outs.length)):zfl P 237 (.row 228 zaz p) [.own 0,.val txT t] (.tup2 (.fresh 228 zaz (zaW p t).1) (.val i64T (zaW p t).2)) (.none_):=by
 refine zgl trivial Tryz.func237 rfl rfl ⟨Nat.one_pos,⟨trivial,trivial⟩⟩ (fun ext pg w hext hgr=>?_);refine zjw (n:=0) rfl (fun hrl=>?_);refine qca ?_;refine qah ?_;refine qbF ?_;refine A0 (oCl (id_ok t) rfl fn_162 yc) ?_;refine qbV ?_;refine CNQQR ?_;refine A0 mO ?_;refine qdr ?_;refine A0 (oCl (zmx _ _) rfl fn_286 ⟨(zI rfl rfl),(by first|exact zeI (Cs:=[_]) rfl fn_287 yp ych rfl (fun x=>zvH _ x)|exact zeH (Cs:=[_]) rfl fn_287 yp ych rfl (fun x y=>zvH _ x)|exact zeJ rfl),trivial⟩) ?_;refine CN ?_;refine zq (p:=(p.any fun c=>decide (c.inn.tx=idOf t))=true) rfl (Bool.decide_eq_true.symm) (fun ht13=>?_) (fun ht13=>?_)
 ·
  refine qaT ?_;exact zwy rfl rfl rfl rfl rfl zdp (by unfold zaW;rw[ut ht13];exact zo4 rfl) (zg2 zdp rfl (by unfold zaW;rw[ut ht13]))
 have hnot:(p.any fun c=>decide (c.inn.tx=idOf t))=false:=by simpa using ht13
 refine CSQQR ?_;refine qaU ?_;refine qaP ?_;refine zbc 0 3 4 rfl rfl rfl rfl rfl rfl ?_;refine zl (n:=3) (y:=p++newN (idOf t) t.outs 0) rfl (by simp[newN]) ?_;refine Lp (ι:=Nat) 4 (fun (k:Nat)=>((((((Fr.none).set 0 (.own 3)).set 3 (.ptr 1 0)).set 6 (.ptr 2 0)).set 15 (.val (sl outT) t.outs)).set 16 (.val i64T (t.outs.length:Int))).set 17 (.val i64T (k:Int))) (fun (k:Nat)=>(((Hp.none).set 1 (.box 133 txT t)).set 2 (.box 46 idT (idOf t))).set 3 (.row 228 zaz (p++newN (idOf t) t.outs k))) (fun (k:Nat)=>k≤t.outs.length) (fun (k:Nat)=>t.outs.length-k) (0) (uf _) ?_;intro k hinv;refine qar ?_;refine Cf (p:=k<t.outs.length) (fun ht18=>?_) (fun ht18=>?_)
 ·
  obtain⟨o,ho⟩:∃o,t.outs[k]?=some o:=⟨_,ub ht18⟩;have hnl:=zq1 (id:=idOf t) hinv;refine qbh ?_;refine A0 (zbH rfl rfl rfl zf7 yh) ?_;refine A0 (zh rfl rfl zf3) ?_;refine z8 ze_221 rfl rfl rfl rfl ?_;refine A0 aV ?_;refine zg rfl rfl rfl rfl rfl (Lens.self _) zf3 rfl ?_;refine CNR ?_;refine A0 mO ?_;refine qb4 ?_;refine qau ?_;refine A0 (zB rfl ze_218 bd_218 (.cons zdd zeX zab rfl (.cons zb1 zfn ty_3 rfl .nil)) rfl) ?_;refine A0 (oLs rfl rfl rfl zf3) ?_;refine A0 (zB rfl zrT bd_228 (.cons zbM zaJ zcc rfl (.cons zdY zcl zf3 rfl .nil)) rfl) ?_;refine qbW ?_;refine zo rfl rfl rfl rfl rfl rfl rfl zgJ (by simp only[ue,List.length_cons,List.length_nil,hnl];omega) ?_;refine A0 aO ?_;refine qbK ?_;refine zbc 5 3 6 rfl rfl rfl rfl rfl rfl ?_;refine zl (n:=3) rfl (znY ho p) ?_;exact Nx (k+1) ya ya
 obtain rfl:k=t.outs.length:=ya;refine CE ?_;refine qcb ?_;refine zij (sort_ok _ (hd hnot) (by rw[ue,zq1 (ug _)];omega)) rfl fn_288 rfl trivial trivial rfl ycl rfl rfl rfl ?_;refine CNQR ?_;refine A0 mO ?_;refine qcl ?_;exact zwy rfl rfl rfl rfl rfl zdp (zlv zdp (fun h=>False.elim h) rfl rfl (by unfold zaW;rw[ur ht13])) (zg2 zdp rfl (by unfold zaW;rw[ur ht13]))
def Sorted (p:List Coin):Prop:=p.Pairwise fun a b=>zaY a.inn b.inn<0
theorem zp3 {p:List Coin} {k:Nat} {c:Coin} (h:p[k]?=some c):zi4 p k=true↔zgV c=true∧∀j b,k=j+1→p[j]?=some b→zaY b.inn c.inn<0:=by
  unfold zi4;rw[h];simp only[uk];cases k with
  | zero=>simp
  | succ k =>
    constructor
    · rintro ⟨h1,h2⟩
      refine⟨h1,fun j b e hb=>?_⟩;obtain rfl:k=j:=ya;simp only[hb] at h2;exact of_decide_eq_true h2
    rintro ⟨h1,h2⟩
    refine⟨h1,?_⟩;simp only[];cases hb:p[k]? with
    | none=>rfl
    | some b=>exact ui (h2 k b rfl hb)
theorem zac {p:List Coin}:zaw p=true↔(∀c∈p,zgV c=true)∧Sorted p∧p.length≤48:=by
  unfold zaw;simp only[uk,uj,List.all_eq_true,List.mem_range]
  constructor
  · rintro ⟨h1,h2⟩
    have hat:∀k c,p[k]?=some c→zgV c=true∧∀j b,k=j+1→p[j]?=some b→zaY b.inn c.inn<0:=fun k c hc=>(zp3 hc).1 (h1 k (ul.1 hc).1)
    refine⟨fun c hc=>?_,?_,h2⟩
    · obtain⟨k,hk⟩:=List.mem_iff_getElem?.1 hc
      exact(hat k c hk).1
    have key : ∀ (k i : Nat) (a b : Coin), i < k → p[i]? = some a → p[k]? = some b → zaY a.inn b.inn < 0 := fun k => by
      induction k with
      | zero=>intro i a b h;omega
      | succ k ih =>
        intro i a b h ha hb;obtain⟨m,hm⟩:∃m,p[k]?=some m:=⟨_,ub (by have:=(ul.1 hb).1;omega)⟩;have hlast:=(hat (k+1) b hb).2 k m rfl hm;by_cases e:i=k
        · subst e;rw[ha] at hm;injection hm with hm;subst hm;exact hlast
        exact zeU (ih i a m ya ha hm) hlast
    unfold Sorted;rw[List.pairwise_iff_getElem];intro i j hi hj hij;exact key j i _ _ hij (ub hi) (ub hj)
  rintro ⟨h1,h2,h3⟩
  refine⟨fun k hk=>?_,h3⟩;refine(zp3 (ub hk)).2 ⟨h1 _ (List.getElem_mem hk),fun j b e hb=>?_⟩;subst e;have hj:=(ul.1 hb).1
  have:=List.pairwise_iff_getElem.1 h2 j (j+1) hj hk ya
  rw[ub hj] at hb;injection hb with hb;rw[←hb];exact this
theorem Sorted.apart {p:List Coin} (h:Sorted p):Apart p:=List.Pairwise.imp (fun h=>by omega) h
theorem zja {p:List Coin} {id:Ab.Id} {outs:List Out} {k:Nat} (h:Apart p) (hn:(p.any fun c=>decide (c.inn.tx=id))=false):Apart (p++newN id outs k):=by
  unfold Apart;rw[List.pairwise_append];refine⟨h,?_,fun a ha b hb e=>?_⟩
  · unfold newN
    rw[List.pairwise_map,List.pairwise_iff_getElem];intro i j hi hj hij e
    have:=zch.1 e
    injection this with _ h2;simp at h2;omega
  have:=zch.1 e
  unfold newN at hb;obtain⟨x,_,rfl⟩:=List.mem_map.1 hb;have h2:=List.any_eq_false.1 hn a ha;rw[this] at h2;simp at h2
theorem zp1 {l:List Coin} (i:Nat) (h:Sorted l):Sorted (l.take i++l.drop (i+1)):=by
  rw[←List.eraseIdx_eq_take_drop_succ];exact List.Pairwise.sublist (List.eraseIdx_sublist _ _) h
def zbE:List Coin→Int→List In→Option (List Coin×Int)
  | p,n,[]=>some (p,n)
  | p,n,x::l=>match p[placeOf p x]? with
    | none=>none
    | some c=>if zaY c.inn x=0 then zbE (p.take (placeOf p x)++p.drop (placeOf p x+1)) (IntKind.i64.wrap (n+c.out.v)) l else none
def zN (p:List Coin) (t:Tx):List Coin×Int×Int :=
  if ¬(zaw p=true∧zaN t=true∧t.ins≠[]) then (p,0,1) else
  match zbE p 0 t.ins with
  | none=>(p,0,8)
  | some (rest,n) =>
    if IntKind.i64.wrap (n-zcU (·.v) t.outs)<0 then (p,0,8)
    else if (zaW rest t).2=0 then (if 48<(zaW rest t).1.length then (p,0,11) else ((zaW rest t).1,IntKind.i64.wrap (n-zcU (·.v) t.outs),0))
    else (p,0,(zaW rest t).2)
theorem zcI {p:List Coin} (h:zaw p=true):p.length≤48:=by
  unfold zaw at h;simp only[uk,uj] at h;exact h.2
theorem zr9 {p:List Coin} {n:Int} {ins:List In} {k:Nat} {x:In} {c:Coin} (hx:ins[k]?=some x) (hc:p[placeOf p x]?=some c) (h0:zaY c.inn x=0):zbE p n (ins.drop k)=zbE (p.take (placeOf p x)++p.drop (placeOf p x+1)) (IntKind.i64.wrap (n+c.out.v)) (ins.drop (k+1)):=by
  obtain⟨hk,rfl⟩:=ul.1 hx;rw[List.drop_eq_getElem_cons hk];rw[zbE.eq_2];simp only[hc,ut h0]
theorem zr8 {p:List Coin} {n:Int} {ins:List In} {k:Nat} {x:In} (hx:ins[k]?=some x) (h:¬zlE p x=true):zbE p n (ins.drop k)=none:=by
  obtain⟨hk,rfl⟩:=ul.1 hx;rw[List.drop_eq_getElem_cons hk];rw[zbE.eq_2];unfold zlE zfq at h
  split
  · rfl
  rename_i c hc;rw[hc] at h;simp only[uj] at h;rw[ur h]
theorem isThere_at {p:List Coin} {x:In} (h:zlE p x=true):∃c,p[placeOf p x]?=some c∧zaY c.inn x=0:=by
  unfold zlE zfq at h
  split at h
  · cases h
  rename_i c hc;exact⟨c,hc,by simpa using h⟩
theorem zf5 (p:List Coin) (e:Int) (hp:p.length≤2000000000000):Tells P 280 [.val i64T e,.rptr (bsl zaz) p] (.tup3 (.fresh 228 zaz p) (.val i64T 0) (.val i64T e)):=by
 refine zc Tryz.func280 rfl rfl rfl (fun ext w hext=>?_);refine ze (d:=0) rfl zu (fun hin0=>?_);refine qap ?_;refine A0 aV ?_;refine qah ?_;refine A0 (zh rfl rfl zki) ?_;refine zaH (zi6 p yap) rfl zs9 yc rfl rfl rfl ?_;refine qau ?_;refine A0 aO ?_;refine qaI ?_;exact zb7 rfl rfl (zf rfl rfl rfl) (zdn rfl) (zdn rfl)
theorem zu9 (p:List Coin) (t:Tx) (hp:p.length≤2000000000000):Tells P 235 [.val (bsl zaz) p,.val txT t] (.tup3 (.fresh 228 zaz (zN p t).1) (.val i64T (zN p t).2.1) (.val i64T (zN p t).2.2)):=by
 refine zc Tryz.func235 rfl rfl rfl (fun ext w hext=>?_);refine ze (d:=0) rfl zi (fun hsl0=>?_);refine qa3 ?_;refine A0 aL ?_;refine A0 aV ?_;refine qah ?_;refine qdr ?_;refine A0 aC ?_;refine CNQQR ?_;refine A0 (oLs rfl rfl rfl zki) ?_;refine A0 (oCl (may_ok _) rfl fn_234 yc) ?_;refine A0 oN ?_;refine qau ?_;refine zX (d:=21) (p:=¬zaw p=true) rfl yw (fun g21=>?_) (fun g21=>?_)
 ·
  refine qab ?_;refine qbu ?_;refine Ct ?_;refine qdj ?_;refine xq ?_;refine qbY ?_;have hS:zN p t=(p,0,1):=by unfold zN;rw[ut (fun h=>g21 h.1)]
  exact zb7 rfl rfl (zf rfl rfl yB) (za rfl yB) (za rfl yB)
 refine A1 (oLs rfl rfl rfl zfy) ?_;refine A1 (oCl (zq6 _) rfl fn_236 yc) ?_;refine A1 oN ?_;refine qaf ?_;refine zX (d:=26) (p:=¬zaN t=true) rfl yw (fun g26=>?_) (fun g26=>?_)
 ·
  refine qdf ?_;refine qao ?_;refine Ct ?_;refine qdj ?_;refine xq ?_;refine qbY ?_;have hS:zN p t=(p,0,1):=by unfold zN;rw[ut (fun h=>g26 h.2.1)]
  exact zb7 rfl rfl (zf rfl rfl yB) (za rfl yB) (za rfl yB)
 refine A1 (oFp zcy) ?_;refine A1 (oLb zcS zfz) ?_;refine A1 (zat rfl rfl zgf) ?_;refine A1 zbZ ?_;refine A0 oK ?_;refine Sp (d:=31) (p:=t.ins.length=0) (fun g31=>?_) (fun g31=>?_)
 ·
  refine CN ?_;refine Ct ?_;refine qdj ?_;refine xq ?_;refine qbY ?_;have hS:zN p t=(p,0,1):=by unfold zN;rw[ut (fun h=>h.2.2 (List.length_eq_zero_iff.1 g31))]
  exact zb7 rfl rfl (zf rfl rfl yB) (za rfl yB) (za rfl yB)
 have hmp:=ua g21;have hmt:=ua g26;have hpl:=zcI hmp;have hne:t.ins≠[]:=fun e=>g31 (by rw[e];rfl)
 refine CN ?_;refine Cg ?_;refine CSQR ?_;refine A0 (oLs rfl rfl rfl zki) ?_;refine zaH (zi6 p yap) rfl zs9 yc rfl rfl rfl ?_;refine A0 aO ?_;refine CNQR ?_;refine qc8 ?_;refine qa9 ?_;refine qaP ?_;refine Lp (ι:=Nat×List Coin×Int) 3 (fun(k,rest,n)=>(((((((Fr.none.set 2 (.ptr 0 0)).set 3 (.ptr 1 0)).set 7 (.clo 280 [0])).set 8 (.own 2)).set 9 (.val i64T n)).set 40 (.val (sl inT) t.ins)).set 41 (.val i64T (t.ins.length:Int))).set 42 (.val i64T (k:Int))) (fun(k,rest,n)=>((Hp.none.set 0 (.box 63 (bsl zaz) p)).set 1 (.box 133 txT t)).set 2 (.row 228 zaz rest)) (fun(k,rest,n)=>k≤t.ins.length∧Sorted rest∧rest.length≤48∧zbE p 0 t.ins=zbE rest n (t.ins.drop k)) (fun(k,rest,n)=>t.ins.length-k) ((0,p,0)) (⟨uf _,(zac.1 hmp).2.1,hpl,rfl⟩) ?_;intro⟨k,rest,n⟩ hinv;dsimp only at hinv;refine ze (d:=40) rfl zi (fun hsi=>?_);refine qar ?_;refine Cf (p:=k<t.ins.length) (fun ht43=>?_) (fun ht43=>?_)
 ·
  obtain⟨x,hx⟩:∃x,t.ins[k]?=some x:=⟨_,ub ht43⟩;refine CSQBQR ?_;refine qcS ?_;refine zg rfl rfl rfl rfl rfl (Lens.self _) zcc rfl ?_;refine CNQR ?_;refine A0 mO ?_;refine A0 (oLs rfl rfl rfl zcc) ?_;refine A0 (oCl (place_ok rest x ya) rfl fn_281 ⟨(zI rfl rfl),yj,trivial⟩) ?_;refine qb1 ?_;refine qaJ ?_;refine zq (p:=¬zlE rest x=true) rfl yw (fun ht53=>?_) (fun ht53=>?_)
  ·
   refine qdj ?_;refine xq ?_;refine qbY ?_;have hS:zN p t=(p,0,8):=by unfold zN;rw[ur (Classical.not_not.2 ⟨hmp,hmt,hne⟩)];rw[hinv.2.2.2,zr8 hx ht53]
   exact zb7 rfl rfl (zf rfl rfl yB) (za rfl yB) (za rfl yB)
  obtain⟨c,hc,h0⟩:=isThere_at (ua ht53);have hlt:placeOf rest x<rest.length:=(ul.1 hc).1;refine qbw ?_;refine A0 mO ?_;refine qau ?_;refine A0 (zaQ (i:=placeOf rest x) rfl rfl rfl rfl yi zfo yg) ?_;refine A0 (zvY rfl rfl zdY rfl) ?_;refine A0 (zvY rfl rfl zcx rfl) ?_;refine A0 (zcw rfl rfl rfl rfl yh (zcl.comp zd7) ty_3) ?_;refine A0 zcn ?_;refine qbX ?_;refine A0 mO ?_;refine qad ?_;refine A0 zcn ?_;refine zwC (delete_ok rest (placeOf rest x) hlt) rfl fn_282 rfl trivial ⟨yk,yk,yk,trivial⟩ rfl rfl rfl ?_;refine A0 aO ?_;refine qbK ?_;refine zbc 4 2 5 rfl rfl rfl rfl rfl rfl ?_;exact Nx ((k+1,rest.take (placeOf rest x)++rest.drop (placeOf rest x+1),IntKind.i64.wrap (n+c.out.v))) (⟨by omega,zp1 _ hinv.2.1,by simp;omega,hinv.2.2.2.trans (zr9 hx hc h0)⟩) (by show _<t.ins.length-k;simp only[];omega)
 obtain rfl:k=t.ins.length:=ya;have htk:zbE p 0 t.ins=some (rest,n):=by rw[hinv.2.2.2,List.drop_of_length_le (ug _)];rfl
 refine qcu ?_;refine qbF ?_;refine A0 (oCl (outs_ok _) rfl fn_238 yc) ?_;refine A0 za5 ?_;refine qaj ?_;refine qav ?_;refine Cf (p:=IntKind.i64.wrap (n-zcU (·.v) t.outs)<0) (fun ht78=>?_) (fun ht78=>?_)
 ·
  refine qdj ?_;refine xq ?_;refine qbY ?_;have hS:zN p t=(p,0,8):=by unfold zN;rw[ur (Classical.not_not.2 ⟨hmp,hmt,hne⟩)];rw[htk];exact ut ht78
  exact zb7 rfl rfl (zf rfl rfl yB) (za rfl yB) (za rfl yB)
 refine CSQR ?_;refine A0 mO ?_;refine qbF ?_;refine ztG (made_ok rest t ya (zdv hmt).2.2 (zja (Sorted.apart hinv.2.1))) rfl fn_237 rfl trivial zaK ycl rfl rfl rfl ?_;refine A0 yr ?_;refine qaa ?_;refine A0 aO ?_;refine A0 aX ?_;refine CNQQR ?_;refine A0 mX ?_;refine A0 zbZ ?_;refine qau ?_;refine Sp (d:=92) (p:=(zaW rest t).2=0) (fun g92=>?_) (fun g92=>?_)
 ·
  refine A1 mO ?_;refine A1 (zbV rfl rfl rfl zod) ?_;refine qdo ?_;refine A0 oK ?_;refine Sp (d:=96) (p:=48<(zaW rest t).1.length) (fun g96=>?_) (fun g96=>?_)
  ·
   refine CN ?_;refine Ct ?_;refine CR ?_;refine qaj ?_;refine qaO ?_;refine Ct ?_;refine qdj ?_;refine qau ?_;refine xq ?_;refine qbY ?_;have hS:zN p t=(p,0,11):=by unfold zN;rw[ur (Classical.not_not.2 ⟨hmp,hmt,hne⟩)];rw[htk];simp only[ur ht78,ut g92,ut g96]
   exact zb7 rfl rfl (zf rfl rfl yB) (za rfl yB) (za rfl yB)
  refine CN ?_;refine Cg ?_;refine CSQQR ?_;refine A0 mX ?_;refine qaO ?_;refine zha rfl (by simp[IntL.toI,g92]) ?_;refine CSQR ?_;refine A0 mO ?_;refine qau ?_;refine A0 aO ?_;refine qaI ?_;have hS:zN p t=((zaW rest t).1,IntKind.i64.wrap (n-zcU (·.v) t.outs),0):=by unfold zN;rw[ur (Classical.not_not.2 ⟨hmp,hmt,hne⟩)];rw[htk];simp only[ur ht78,ut g92,ur g96]
  exact zb7 rfl rfl (zf rfl rfl yB) (za rfl yB) (za rfl yB)
 refine qab ?_;refine qao ?_;refine Cg ?_;refine CSQQR ?_;refine A0 mX ?_;refine qaO ?_;refine zkb rfl (by simp[IntL.toI,g92]) ?_;refine qdj ?_;refine A0 mX ?_;refine zgt (As:=[_]) (Cs:=[_]) (zf5 p _ hp) rfl rfl zot ycg yp ych zaK zaK rfl rfl rfl ?_;refine qbY ?_;have hS:zN p t=(p,0,(zaW rest t).2):=by unfold zN;rw[ur (Classical.not_not.2 ⟨hmp,hmt,hne⟩)];rw[htk];simp only[ur ht78,ur g92]
 exact zb7 rfl rfl (zf rfl rfl yB) (za rfl yB) (za rfl yB)
theorem leC_trans (a b c:Coin) (h:decide (zaY a.inn b.inn≤0)=true) (k:decide (zaY b.inn c.inn≤0)=true):decide (zaY a.inn c.inn≤0)=true:=by
  simp only[uj] at *;by_cases h0:zaY a.inn b.inn=0
  · rw[zch.1 h0];exact k
  by_cases k0:zaY b.inn c.inn=0
  · rw[←zch.1 k0];exact h
  have:=zeU (a:=a.inn) (b:=b.inn) (c:=c.inn) ya ya
  omega
theorem leC_total (a b:Coin):(decide (zaY a.inn b.inn≤0)||decide (zaY b.inn a.inn≤0))=true:=by
  have:=zcm a.inn b.inn
  simp only[Bool.or_eq_true,uj];omega
theorem zjg (l:List Coin):(zkn l).Perm l:=List.mergeSort_perm l _
theorem zsf {l:List Coin} (h:Apart l):Sorted (zkn l):=by
  have h1:(zkn l).Pairwise fun a b=>decide (zaY a.inn b.inn≤0)=true:=List.pairwise_mergeSort leC_trans leC_total l
  have h2:Apart (zkn l):=((zjg l).pairwise_iff (R:=fun a b:Coin=>zaY a.inn b.inn≠0) (fun {a b} h=>by have:=zcm a.inn b.inn;omega)).2 h;unfold Sorted Apart at *;refine List.Pairwise.imp₂ (fun a b h1 h2=>?_) h1 h2
  have:=of_decide_eq_true h1
  omega
theorem zr6 {t:Tx} (h:zaN t=true):∀o∈t.outs,zma o=false:=fun o ho=>by
  unfold zaN at h;simp only[uk,Bool.not_eq_true'] at h
  have:=List.any_eq_false.1 h.2.2.2.2 o ho
  simpa using this
theorem newN_ok {t:Tx} {id:Ab.Id} {k:Nat} (h:zaN t=true):∀c∈newN id t.outs k,zgV c=true:=fun c hc=>by
  unfold newN at hc;obtain⟨⟨o,i⟩,hx,rfl⟩:=List.mem_map.1 hc;have hi:=List.mk_mem_zipIdx_iff_getElem?.1 hx;have hlt:=(ul.1 hi).1;have ho:o∈t.outs:=List.mem_of_mem_take (ud hi);have h1:=zr6 h o ho;have h3:=(zdv h).2.2;rw[um] at hlt;unfold zma at h1;have h1:=of_decide_eq_false h1;unfold zgV;apply ui;simp only[];omega
theorem zn1 {p:List Coin} {t:Tx} (hp:∀c∈p,zgV c=true) (hs:Sorted p) (ht:zaN t=true):(∀c∈(zaW p t).1,zgV c=true)∧Sorted (zaW p t).1:=by
  unfold zaW
  split
  · exact⟨fun c hc=>absurd hc (List.not_mem_nil),List.Pairwise.nil⟩
  rename_i h;have h:(p.any fun c=>decide (c.inn.tx=idOf t))=false:=by simpa using h
  refine⟨fun c hc=>?_,zsf (zja (Sorted.apart hs) h)⟩
  have:=(zjg _).mem_iff.1 hc
  rcases List.mem_append.1 this with h|h
  · exact hp c h
  exact newN_ok ht c h
theorem ze4:∀{ins:List In} {p rest:List Coin} {n m:Int},zbE p n ins=some (rest,m)→rest.Sublist p
  | [],p,rest,n,m,h=>by
    rw[zbE.eq_1] at h;injection h with h;injection h with h _;subst h;exact List.Sublist.refl _
  | x::ins,p,rest,n,m,h=>by
    rw[zbE.eq_2] at h
    split at h
    · cases h
    split at h
    · have:=ze4 h
      refine this.trans ?_;rw[←List.eraseIdx_eq_take_drop_succ];exact List.eraseIdx_sublist _ _
    cases h
theorem zeT {p:List Coin} {t:Tx} (h:zaw p=true):zaw (zN p t).1=true:=by
  obtain⟨h1,h2,h3⟩:=zac.1 h;unfold zN
  split
  · exact h
  rename_i hn;have hn:=ua hn
  split
  · exact h
  rename_i rest n hrest;have hsub:=ze4 hrest
  split
  · exact h
  split
  · split
    · exact h
    rename_i hl;have hg:=zn1 (p:=rest) (fun c hc=>h1 c (hsub.subset hc)) (h2.sublist hsub) hn.2.1;exact zac.2 ⟨hg.1,hg.2,Nat.le_of_not_lt hl⟩
  exact h
def zeo:List Coin→Int→List Tx→Sum Int (List Coin×Int)
  | out,room,[]=>.inr (out,room)
  | out,room,t::l=>if (zN out t).2.2=0 then zeo (zN out t).1 (IntKind.i64.wrap (room+(zN out t).2.1)) l else .inl (zN out t).2.2
def zc8 (l:List Tx):Bool:=match l with | []=>false|t::_=>decide (t.ins.length=0)
theorem zjn {l:List Tx} {t:Tx} (h:l[0]?=some t):zc8 l=decide (t.ins.length=0):=by
  cases l with
  | nil=>simp at h
  | cons a m=>simp at h;subst h;rfl
theorem zh3 {l:List Tx} (h:¬0<l.length):zc8 l=false:=by
  cases l with
  | nil=>rfl
  | cons a m=>simp at h
def zea (l:List Tx) (k:Nat):List Tx:=if zc8 l=true∧k=0 then l.drop 1 else l.drop k
def zK (p:List Coin) (l:List Tx):List Coin×Int :=
  if ¬zaw p=true then (p,1) else if 4<l.length then (p,3) else
  match zeo p 50 (zea l 0) with
  | .inl e=>(p,e)
  | .inr (out,room)=>match (if zc8 l=true then l[0]? else none) with
    | none=>(out,0)
    | some t=>if ¬zaN t=true then (p,1) else if ¬(zaW out t).2=0 then (p,(zaW out t).2) else if room<zcU (·.v) t.outs then (p,8) else if 48<(zaW out t).1.length then (p,11) else ((zaW out t).1,0)
theorem zga {out:List Coin} {room:Int} {l:List Tx} {k:Nat} {t:Tx} (hk:¬(zc8 l=true∧k=0)) (hx:l[k]?=some t) (h:(zN out t).2.2=0):zeo out room (zea l k)=zeo (zN out t).1 (IntKind.i64.wrap (room+(zN out t).2.1)) (zea l (k+1)):=by
  obtain⟨hlt,rfl⟩:=ul.1 hx;unfold zea;rw[ur hk,ur ya,List.drop_eq_getElem_cons hlt,zeo.eq_2,ut h]
theorem zhR {out:List Coin} {room:Int} {l:List Tx} {k:Nat} {t:Tx} (hk:¬(zc8 l=true∧k=0)) (hx:l[k]?=some t) (h:¬(zN out t).2.2=0):zeo out room (zea l k) = .inl (zN out t).2.2:=by
  obtain⟨hlt,rfl⟩:=ul.1 hx;unfold zea;rw[ur hk,List.drop_eq_getElem_cons hlt,zeo.eq_2,ur h]
theorem zd9 {l:List Tx} (h:zc8 l=true):zea l 0=zea l 1:=by
  unfold zea;rw[ut ⟨h,rfl⟩,ur ya]
theorem zlw {l:List Tx} (k:Nat) (h:l.length≤k):zea l k=[]:=by
  unfold zea
  split
  · exact List.drop_of_length_le ya
  exact List.drop_of_length_le h
theorem zfk (p:List Coin) (e:Int) (hp:p.length≤2000000000000):Tells P 233 [.val i64T e,.rptr (bsl zaz) p] (.tup2 (.fresh 228 zaz p) (.val i64T e)):=by
 refine zc Tryz.func233 rfl rfl rfl (fun ext w hext=>?_);refine ze (d:=0) rfl zu (fun hin0=>?_);refine qap ?_;refine qah ?_;refine A0 (zh rfl rfl zki) ?_;refine zaH (zi6 p yap) rfl zs9 yc rfl rfl rfl ?_;refine qau ?_;refine qcl ?_;exact zx rfl rfl (zf rfl rfl rfl) (zdn rfl)
theorem apply_ok (p:List Coin) (l:List Tx) (hp:p.length≤2000000000000):Tells P 173 [.val (bsl zaz) p,.val (bsl txT) l] (.tup2 (.fresh 228 zaz (zK p l).1) (.val i64T (zK p l).2)):=by
 refine zc Tryz.func173 rfl rfl rfl (fun ext w hext=>?_);refine ze (d:=0) rfl zi (fun hsl0=>?_);refine ze (d:=1) rfl zi (fun hsl1=>?_);refine qca ?_;refine qah ?_;refine qdr ?_;refine A0 aC ?_;refine CNQ ?_;refine CB ?_;refine CQR ?_;refine A0 (oLs rfl rfl rfl zki) ?_;refine A0 (oCl (may_ok _) rfl fn_234 yc) ?_;refine A0 oN ?_;refine qac ?_;refine zq (p:=¬zaw p=true) rfl yw (fun ht17=>?_) (fun ht17=>?_)
 ·
  refine qdj ?_;refine xr ?_;refine qdv ?_;have hS:zK p l=(p,1):=by unfold zK;rw[ut ht17]
  exact zx rfl rfl (zf rfl rfl yB) (za rfl yB)
 have hmp:=ua ht17;have hpl:=zcI hmp;refine qa7 ?_;refine qbZ ?_;refine A0 zjC ?_;refine qac ?_;refine Cf (p:=4<l.length) (fun ht25=>?_) (fun ht25=>?_)
 ·
  refine qdj ?_;refine xr ?_;refine qdv ?_;have hS:zK p l=(p,3):=by unfold zK;rw[ur (Classical.not_not.2 hmp),ut ht25]
  exact zx rfl rfl (zf rfl rfl yB) (za rfl yB)
 refine CS ?_;refine CI ?_;refine CQR ?_;refine A0 (oLs rfl rfl rfl zki) ?_;refine zaH (zi6 p yap) rfl zs9 yc rfl rfl rfl ?_;refine A0 aO ?_;refine qaA ?_;refine qbZ ?_;refine A0 zjC ?_;refine qau ?_;refine Sp (d:=38) (p:=0<l.length) (fun g38=>?_) (fun g38=>?_)
 ·
  obtain⟨t0,ht0⟩:∃t0,l[0]?=some t0:=⟨_,ub g38⟩;refine qbj ?_;refine A1 zbZ ?_;refine A0 oK ?_;refine zj (d:=45) (y:=zc8 l) rfl ybW ?_;refine qaj ?_;refine qbZ ?_;refine qaP ?_;refine Lp (ι:=Nat×List Coin×Int) 2 (fun(k,out,room)=>((((((((Fr.none.set 1 (.val (bsl txT) l)).set 2 (.ptr 0 0)).set 6 (.clo 233 [0])).set 7 (.own 1)).set 8 (.val i64T room)).set 9 (.val zs (zc8 l))).set 46 (.val (bsl txT) l)).set 47 (.val i64T (l.length:Int))).set 48 (.val i64T (k:Int))) (fun(k,out,room)=>(Hp.none.set 0 (.box 63 (bsl zaz) p)).set 1 (.row 228 zaz out)) (fun(k,out,room)=>k≤l.length∧zaw out=true∧zeo p 50 (zea l 0)=zeo out room (zea l k)) (fun(k,out,room)=>l.length-k) ((0,p,50)) (⟨uf _,hmp,rfl⟩) ?_;intro⟨k,out,room⟩ hinv;dsimp only at hinv;have hol:=zcI hinv.2.1;refine qar ?_;refine Cf (p:=k<l.length) (fun ht49=>?_) (fun ht49=>?_)
  ·
   obtain⟨t,hx⟩:∃t,l[k]?=some t:=⟨_,ub ht49⟩;refine qbh ?_;refine qbz ?_;refine A0 aV ?_;refine qcO ?_;refine qbe ?_;refine A0 zbZ ?_;refine qau ?_;refine Sp (d:=55) (p:=k=0) (fun g55=>?_) (fun g55=>?_)
   ·
    refine A1 mV ?_;refine A0 oK ?_;refine zX (d:=57) (p:=zc8 l=true) rfl yw (fun g57=>?_) (fun g57=>?_)
    ·
     refine CN ?_;refine Ct ?_;refine CE ?_;refine CR ?_;refine qan ?_;exact Nx ((k+1,out,room)) yW yaA
    refine CN ?_;refine Cg ?_;refine CSQR ?_;refine A0 mO ?_;refine qbF ?_;refine ztF (zu9 out t ya) rfl fn_235 ⟨(zI rfl rfl),yj,trivial⟩ zaK zaK rfl rfl rfl ?_;refine A0 yr ?_;refine qaa ?_;refine A0 e32 ?_;refine A0 aO ?_;refine qaD ?_;refine zq (p:=¬(zN out t).2.2=0) rfl yN (fun ht66=>?_) (fun ht66=>?_)
    ·
     refine qdj ?_;refine A0 mX ?_;refine xt ?_;refine qdv ?_;have hS:zK p l=(p,(zN out t).2.2):=ycA;exact zx rfl rfl (zf rfl rfl yB) (za rfl yB)
    refine CSQR ?_;refine A0 mO ?_;refine A0 aO ?_;refine CNR ?_;refine qau ?_;refine A0 mX ?_;refine A0 zcn ?_;refine A0 aV ?_;refine qbK ?_;refine zuF 1 ?_;refine xu ?_;exact Nx ((k+1,(zN out t).1,IntKind.i64.wrap (room+(zN out t).2.1))) yW yaA
   refine A2 ?_;refine qao ?_;refine Cg ?_;refine CSQR ?_;refine A0 mO ?_;refine qbF ?_;refine ztF (zu9 out t ya) rfl fn_235 ⟨(zI rfl rfl),yj,trivial⟩ zaK zaK rfl rfl rfl ?_;refine A0 yr ?_;refine qaa ?_;refine A0 e32 ?_;refine A0 aO ?_;refine qaD ?_;refine zq (p:=¬(zN out t).2.2=0) rfl yN (fun ht66=>?_) (fun ht66=>?_)
   ·
    refine qdj ?_;refine A0 mX ?_;refine xt ?_;refine qdv ?_;have hS:zK p l=(p,(zN out t).2.2):=ycA;exact zx rfl rfl (zf rfl rfl yB) (za rfl yB)
   refine CSQR ?_;refine A0 mO ?_;refine A0 aO ?_;refine CNR ?_;refine qau ?_;refine A0 mX ?_;refine A0 zcn ?_;refine A0 aV ?_;refine qbK ?_;refine zuF 1 ?_;refine xu ?_;exact Nx ((k+1,(zN out t).1,IntKind.i64.wrap (room+(zN out t).2.1))) yW yaA
  have hrun:zeo p 50 (zea l 0) = .inr (out,room):=by rw[hinv.2.2,zlw k ya];rfl
  refine CE ?_;refine qaF ?_;refine qaJ ?_;refine zq (p:=¬zc8 l=true) rfl yw (fun ht78=>?_) (fun ht78=>?_)
  ·
   have hnf:=ht78;refine qcb ?_;refine qcl ?_;have hS:zK p l=(out,0):=ycB;exact zx rfl rfl (zf rfl rfl yB) (za rfl yB)
  have hf:=ua ht78;refine qbP ?_;refine qbd ?_;refine A0 (oCl (zq6 _) rfl fn_236 ycg) ?_;refine qaJ ?_;refine zq (p:=¬zaN t0=true) rfl yw (fun ht84=>?_) (fun ht84=>?_)
  ·
   refine qdj ?_;refine xr ?_;refine qdv ?_;have hS:zK p l=(p,1):=by unfold zK;rw[ur (Classical.not_not.2 hmp),ur (show ¬4<l.length by omega)];rw[hrun];simp only[ut hf,ht0];rw[ut ht84]
   exact zx rfl rfl (zf rfl rfl yB) (za rfl yB)
  have hmt:=ua ht84;refine CSQR ?_;refine A0 mO ?_;refine qau ?_;refine qbd ?_;refine ztG (made_ok out t0 ya (zdv hmt).2.2 (zja (Sorted.apart (zac.1 hinv.2.1).2.1))) rfl fn_237 rfl trivial zaK ycl rfl rfl rfl ?_;refine A0 yr ?_;refine qaa ?_;refine A0 aO ?_;refine A0 aX ?_;refine CNQ ?_;refine CB ?_;refine CQR ?_;refine A0 mX ?_;refine A0 zgB ?_;refine qac ?_;refine zq (p:=¬(zaW out t0).2=0) rfl yN (fun ht97=>?_) (fun ht97=>?_)
  ·
   refine qdj ?_;refine A0 mX ?_;refine xt ?_;refine qdv ?_;have hS:zK p l=(p,(zaW out t0).2):=by unfold zK;rw[ur (Classical.not_not.2 hmp),ur (show ¬4<l.length by omega)];rw[hrun];simp only[ut hf,ht0];rw[ur (Classical.not_not.2 hmt),ut ht97]
   exact zx rfl rfl (zf rfl rfl yB) (za rfl yB)
  refine qa7 ?_;refine qbd ?_;refine A0 (oCl (outs_ok _) rfl fn_238 ycg) ?_;refine qau ?_;refine A0 zjC ?_;refine qac ?_;refine Cf (p:=room<zcU (·.v) t0.outs) (fun ht105=>?_) (fun ht105=>?_)
  ·
   refine qdj ?_;refine xr ?_;refine qdv ?_;have hS:zK p l=(p,8):=by unfold zK;rw[ur (Classical.not_not.2 hmp),ur (show ¬4<l.length by omega)];rw[hrun];simp only[ut hf,ht0];rw[ur (Classical.not_not.2 hmt),ur ht97,ut ht105]
   exact zx rfl rfl (zf rfl rfl yB) (za rfl yB)
  refine qcb ?_;refine A0 (zbV rfl rfl rfl zod) ?_;refine A0 zjC ?_;refine qac ?_;refine Cf (p:=48<(zaW out t0).1.length) (fun ht116=>?_) (fun ht116=>?_)
  ·
   refine qdj ?_;refine xr ?_;refine qdv ?_;have hS:zK p l=(p,11):=by unfold zK;rw[ur (Classical.not_not.2 hmp),ur (show ¬4<l.length by omega)];rw[hrun];simp only[ut hf,ht0];rw[ur (Classical.not_not.2 hmt),ur ht97,ur ht105,ut ht116]
   exact zx rfl rfl (zf rfl rfl yB) (za rfl yB)
  refine CS ?_;refine CI ?_;refine qcb ?_;refine qcl ?_;have hS:zK p l=((zaW out t0).1,0):=by unfold zK;rw[ur (Classical.not_not.2 hmp),ur (show ¬4<l.length by omega)];rw[hrun];simp only[ut hf,ht0];rw[ur (Classical.not_not.2 hmt),ur ht97,ur ht105,ur ht116]
  exact zx rfl rfl (zf rfl rfl yB) (za rfl yB)
 refine qbc ?_;refine A0 oK ?_;refine zj (d:=45) (y:=zc8 l) rfl ybW ?_;refine qaj ?_;refine qbZ ?_;refine qaP ?_;refine Lp (ι:=Nat×List Coin×Int) 2 (fun(k,out,room)=>((((((((Fr.none.set 1 (.val (bsl txT) l)).set 2 (.ptr 0 0)).set 6 (.clo 233 [0])).set 7 (.own 1)).set 8 (.val i64T room)).set 9 (.val zs (zc8 l))).set 46 (.val (bsl txT) l)).set 47 (.val i64T (l.length:Int))).set 48 (.val i64T (k:Int))) (fun(k,out,room)=>(Hp.none.set 0 (.box 63 (bsl zaz) p)).set 1 (.row 228 zaz out)) (fun(k,out,room)=>k≤l.length∧zaw out=true∧zeo p 50 (zea l 0)=zeo out room (zea l k)) (fun(k,out,room)=>l.length-k) ((0,p,50)) (⟨uf _,hmp,rfl⟩) ?_;intro⟨k,out,room⟩ hinv;dsimp only at hinv;have hol:=zcI hinv.2.1;refine qar ?_;refine Cf (p:=k<l.length) (fun ht49=>?_) (fun ht49=>?_)
 ·
  exfalso;omega
 have hrun:zeo p 50 (zea l 0) = .inr (out,room):=by rw[hinv.2.2,zlw k ya];rfl
 refine CE ?_;refine qaF ?_;refine qaJ ?_;refine zq (p:=¬zc8 l=true) rfl yw (fun ht78=>?_) (fun ht78=>?_)
 ·
  have hnf:=ht78;refine qcb ?_;refine qcl ?_;have hS:zK p l=(out,0):=ycB;exact zx rfl rfl (zf rfl rfl yB) (za rfl yB)
 exact absurd (ua ht78) (by rw[zh3 g38];simp)
theorem zvR {α:Type} {p:α→Bool}:∀{l:List α},idx p l<0→∀x∈l,p x=false
  | [],_,x,hx=>by cases hx
  | y::l,h,x,hx=>by
    unfold idx at h;cases hy:p y with
    | true=>rw[hy] at h;simp at h
    | false =>
      rw[hy] at h;rcases List.mem_cons.1 hx with e|hx
      · rw[e];exact hy
      refine zvR (l:=l) ?_ x hx
      have:=zof p l
      simp at h
      split at h<;>omega
theorem zvQ {α:Type} {p:α→Bool}:∀{l:List α},0≤idx p l→∃x,l[(idx p l).toNat]?=some x∧p x=true∧∀(j:Nat) y,l[j]?=some y→p y=true→idx p l≤j
  | [],h=>by simp[idx] at h
  | y::l,h=>by
    cases hy:p y with
    | true =>
      have e:idx p (y::l)=0:=by unfold idx;rw[hy];simp
      rw[e];exact⟨y,rfl,hy,fun j z _ _=>by omega⟩
    | false =>
      by_cases h0:0≤idx p l
      · have e : idx p (y :: l) = idx p l + 1 := by
          conv=>lhs;unfold idx
          rw[hy];simp;omega
        obtain⟨x,h1,h2,h3⟩:=zvQ h0;refine⟨x,?_,h2,fun j z hj hz=>?_⟩
        · rw[e,show(idx p l+1).toNat=(idx p l).toNat+1 by omega];exact h1
        cases j with
        | zero=>simp at hj;subst hj;rw[hy] at hz;cases hz
        | succ j=>have:=h3 j z (by simpa using hj) hz;rw[e];omega
      exfalso
      have:=zof p l
      have e:idx p (y::l) = -1:=by
        conv=>lhs;unfold idx
        rw[hy];simp;omega
      omega
def zox (p:List Coin) (x:In):Int:=idx (fun c=>decide (c.inn=x)) p
theorem findC_ge (p:List Coin) (x:In):-1≤zox p x:=zof _ _
theorem findC_some {p:List Coin} {x:In} (h:0≤zox p x):∃c,p[(zox p x).toNat]?=some c∧c.inn=x∧∀(j:Nat) y,p[j]?=some y→y.inn=x→zox p x≤j:=by
  obtain⟨c,h1,h2,h3⟩:=zvQ h;exact⟨c,h1,of_decide_eq_true h2,fun j y hj hy=>h3 j y hj (ui hy)⟩
theorem findC_none {p:List Coin} {x:In} (h:zox p x<0):∀c∈p,c.inn≠x:=fun c hc e=>by
  have:=zvR h c hc
  simp[e] at this
def tot {α:Type} (f:α→Int):List α→Int
  | []=>0
  | x::l=>f x+tot f l
theorem zpk {α:Type} {f:α→Int}:∀{l m:List α},tot f (l++m)=tot f l+tot f m
  | [],m=>by simp[tot]
  | x::l,m=>by rw[List.cons_append,tot,tot,zpk];omega
theorem tot_perm {α:Type} {f:α→Int} {l m:List α} (h:l.Perm m):tot f l=tot f m:=by
  induction h with
  | nil=>rfl
  | cons x _ ih=>rw[tot,tot,ih]
  | swap x y l=>simp only[tot];omega
  | trans _ _ h1 h2=>exact h1.trans h2
theorem tot_del {α:Type} {f:α→Int} {x:α}:∀{l:List α} {i:Nat},l[i]?=some x→tot f (l.take i++l.drop (i+1))+f x=tot f l
  | [],i,h=>by simp at h
  | y::l,0,h=>by simp at h;subst h;simp[tot];omega
  | y::l,i+1,h=>by
    have:=tot_del (f:=f) (l:=l) (i:=i) (by simpa using h)
    simp only[List.take_succ_cons,List.drop_succ_cons,List.cons_append,tot];omega
theorem zjN {α:Type} {f:α→Int}:∀{l:List α},(∀x∈l,0≤f x)→0≤tot f l
  | [],_=>Int.le_refl _
  | x::l,h=>by
    have:=zjN (f:=f) (l:=l) fun y hy=>h y (List.mem_cons_of_mem _ hy)
    have:=h x List.mem_cons_self
    rw[tot];omega
theorem tot_le {α:Type} {f:α→Int} {M:Int}:∀{l:List α},(∀x∈l,f x≤M)→tot f l≤M*l.length
  | [],_=>by simp[tot]
  | x::l,h=>by
    have:=tot_le (f:=f) (M:=M) (l:=l) fun y hy=>h y (List.mem_cons_of_mem _ hy)
    have:=h x List.mem_cons_self
    rw[tot,List.length_cons,Int.natCast_add,Int.mul_add];omega
theorem zv1 {α:Type} {f:α→Int} {M:Int} (hM:0≤M):∀{l:List α} {n:Int},(∀x∈l,0≤f x∧f x≤M)→0≤n→n+M*l.length≤9223372036854775807→l.foldl (fun n x=>IntKind.i64.wrap (n+f x)) n=n+tot f l
  | [],n,_,_,_=>by simp[tot]
  | x::l,n,h,h0,h1=>by
    have hx:=h x List.mem_cons_self;rw[List.length_cons,Int.natCast_add,Int.mul_add] at h1;have h2:0≤M*l.length:=Int.mul_nonneg hM (Int.natCast_nonneg _);have e:IntKind.i64.wrap (n+f x)=n+f x:=zah ya;rw[List.foldl_cons,e,zv1 hM (fun y hy=>h y (List.mem_cons_of_mem _ hy)) ya ya,tot];omega
theorem worth_tot {α:Type} {f:α→Int} {l:List α} (h:∀x∈l,0≤f x∧f x≤2199023255552) (hl:l.length≤60):zcU f l=tot f l:=by
  have:=zv1 (f:=f) (M:=2199023255552) yn (n:=0) h (Int.le_refl _) ya
  unfold zcU;rw[this];omega
theorem zhC {p:List Coin} (h:∀c∈p,zgV c=true):∀c∈p,0≤c.out.v∧c.out.v≤1099511627776:=fun c hc=>by
  have:=of_decide_eq_true (h c hc)
  omega
theorem zeB {p:List Coin} (h:∀c∈p,zgV c=true) (hl:p.length≤48):0≤tot (·.out.v) p∧tot (·.out.v) p≤52776558133248:=by
  have h:=zhC h;refine⟨zjN fun x hx=>(h x hx).1,?_⟩
  have:=tot_le (f:=fun c:Coin=>c.out.v) (M:=1099511627776) (l:=p) fun x hx=>(h x hx).2
  omega
theorem outs_pos {t:Tx} (h:zaN t=true):∀o∈t.outs,0≤o.v∧o.v≤1099511627776:=fun o ho=>by
  have h1:=zr6 h o ho;unfold zma at h1
  have:=of_decide_eq_false h1
  omega
theorem zmR {t:Tx} (h:zaN t=true):zcU (·.v) t.outs=tot (·.v) t.outs∧0≤tot (·.v) t.outs∧tot (·.v) t.outs≤3298534883328:=by
  have h1:=outs_pos h;have h3:=(zdv h).2.2;refine⟨worth_tot (fun x hx=>by have:=h1 x hx;omega) ya,zjN fun x hx=>(h1 x hx).1,?_⟩
  have:=tot_le (f:=fun o:Out=>o.v) (M:=1099511627776) (l:=t.outs) fun x hx=>(h1 x hx).2
  omega
theorem zip_tot {id:Ab.Id}:∀{outs:List Out} {k:Nat},tot (·.out.v) ((outs.zipIdx k).map fun x=>(⟨⟨id,(x.2:Int)⟩,x.1⟩:Coin))=tot (·.v) outs
  | [],_=>rfl
  | o::outs,k=>by rw[List.zipIdx_cons,List.map_cons,tot,tot,zip_tot]
theorem newN_tot {id:Ab.Id} {outs:List Out}:tot (·.out.v) (newN id outs outs.length)=tot (·.v) outs:=by
  unfold newN;rw[List.take_length];exact zip_tot
theorem zpK {p:List Coin} {t:Tx} (h:(zaW p t).2=0):tot (·.out.v) (zaW p t).1=tot (·.out.v) p+tot (·.v) t.outs∧(zaW p t).1.length=p.length+t.outs.length:=by
  unfold zaW at h ⊢
  split
  · rename_i e;rw[ut e] at h;exact absurd h yn
  refine⟨?_,?_⟩
  · rw[tot_perm (zjg _),zpk,newN_tot]
  rw[(zjg _).length_eq,ue,zq1 (ug _)]
theorem zhL:∀{ins:List In} {p rest:List Coin} {n m:Int},zbE p n ins=some (rest,m)→(∀c∈p,zgV c=true)→p.length≤48→0≤n→n+tot (·.out.v) p≤52776558133248→m+tot (·.out.v) rest=n+tot (·.out.v) p∧n≤m∧rest.length+ins.length=p.length
  | [],p,rest,n,m,h,_,_,_,_=>by
    rw[zbE.eq_1] at h;injection h with h;injection h with h1 h2;subst h1;subst h2;exact⟨rfl,Int.le_refl _,rfl⟩
  | x::ins,p,rest,n,m,h,ho,hl,h0,h1=>by
    rw[zbE.eq_2] at h
    split at h
    · cases h
    rename_i c hc
    split at h
    · have hd:=tot_del (f:=fun c:Coin=>c.out.v) hc
      have hcm:=zhC ho c (ud hc);have hlt:=(ul.1 hc).1;have hsub:(p.take (placeOf p x)++p.drop (placeOf p x+1)).Sublist p:=by
        rw[←List.eraseIdx_eq_take_drop_succ];exact List.eraseIdx_sublist _ _
      have hp:=zjN (f:=fun c:Coin=>c.out.v) (l:=p.take (placeOf p x)++p.drop (placeOf p x+1)) fun y hy=>(zhC ho y (hsub.subset hy)).1
      have hll:(p.take (placeOf p x)++p.drop (placeOf p x+1)).length+1=p.length:=yy;have e:IntKind.i64.wrap (n+c.out.v)=n+c.out.v:=zah ya;rw[e] at h
      have:=zhL h (fun y hy=>ho y (hsub.subset hy)) ya ya ya
      rw[List.length_cons];omega
    cases h
theorem zjO {p:List Coin} {t:Tx} (h:zaw p=true):0≤(zN p t).2.1∧tot (·.out.v) (zN p t).1+(zN p t).2.1=tot (·.out.v) p∧((zN p t).2.2≠0→(zN p t).1=p∧(zN p t).2.1=0):=by
  obtain⟨h1,h2,h3⟩:=zac.1 h;have hT:=zeB h1 h3;unfold zN
  split
  · exact⟨Int.le_refl _,by simp,fun _=>⟨rfl,rfl⟩⟩
  rename_i hn;have hn:=ua hn
  split
  · exact⟨Int.le_refl _,by simp,fun _=>⟨rfl,rfl⟩⟩
  rename_i rest n hrest;have ht:=zhL hrest h1 h3 (Int.le_refl _) ya;have ho:=zmR hn.2.1;have hsub:=ze4 hrest;have hr:=zjN (f:=fun c:Coin=>c.out.v) (l:=rest) fun c hc=>(zhC h1 c (hsub.subset hc)).1
  split
  · exact⟨Int.le_refl _,by simp,fun _=>⟨rfl,rfl⟩⟩
  rename_i hw;rw[ho.1] at hw ⊢;have e:IntKind.i64.wrap (n-tot (·.v) t.outs)=n-tot (·.v) t.outs:=zah ya;rw[e] at hw ⊢
  split
  · rename_i hm
    have hmt:=(zpK hm).1
    split
    · exact⟨Int.le_refl _,by simp,fun _=>⟨rfl,rfl⟩⟩
    exact⟨by simp only[];omega,by simp only[];omega,fun h=>absurd rfl h⟩
  exact⟨Int.le_refl _,by simp,fun _=>⟨rfl,rfl⟩⟩
theorem zpv:∀{l:List Tx} {p out:List Coin} {r r':Int},zeo p r l = .inr (out,r')→zaw p=true→0≤r→tot (·.out.v) p+r≤52776558133398→zaw out=true∧r≤r'∧tot (·.out.v) out+r'=tot (·.out.v) p+r
  | [],p,out,r,r',h,hp,_,_=>by
    rw[zeo.eq_1] at h;injection h with h;injection h with h1 h2;subst h1;subst h2;exact⟨hp,Int.le_refl _,rfl⟩
  | t::l,p,out,r,r',h,hp,h0,h1=>by
    rw[zeo.eq_2] at h
    split at h
    · have hs:=zjO (t:=t) hp
      have hm:=zeT (t:=t) hp;have hT:=zeB (zac.1 hm).1 (zac.1 hm).2.2;have e:IntKind.i64.wrap (r+(zN p t).2.1)=r+(zN p t).2.1:=zah ya;rw[e] at h
      have:=zpv h hm ya ya
      exact⟨this.1,by omega,by omega⟩
    cases h
theorem zuJ {p:List Coin} {l:List Tx} (h:zaw p=true):zaw (zK p l).1=true∧tot (·.out.v) (zK p l).1≤tot (·.out.v) p+50∧((zK p l).2≠0→(zK p l).1=p):=by
  have hT:=zeB (zac.1 h).1 (zac.1 h).2.2;have same:∀e:Int,zaw p=true∧tot (·.out.v) p≤tot (·.out.v) p+50∧(e≠0→p=p):=fun _=>⟨h,by omega,fun _=>rfl⟩
  unfold zK;rw[ur (Classical.not_not.2 h)]
  split
  · exact same _
  split
  · exact same _
  rename_i out room hr;have hrt:=zpv hr h yn ya
  split
  · exact⟨hrt.1,by simp only[];omega,fun h=>absurd rfl h⟩
  rename_i t _
  split
  · exact same _
  rename_i hmt;have hmt:=ua hmt;have ho:=zmR hmt
  split
  · exact same _
  rename_i hm;have hm:=ua hm
  split
  · exact same _
  rename_i hw;rw[ho.1] at hw
  split
  · exact same _
  rename_i hl;have hg:=zn1 (p:=out) (zac.1 hrt.1).1 (zac.1 hrt.1).2.1 hmt;have hmt:=(zpK hm).1;exact⟨zac.2 ⟨hg.1,hg.2,Nat.le_of_not_lt hl⟩,by simp only[];omega,fun h=>absurd rfl h⟩
end Go.Proofs.YtjjlfapfjjkomaaGreat
