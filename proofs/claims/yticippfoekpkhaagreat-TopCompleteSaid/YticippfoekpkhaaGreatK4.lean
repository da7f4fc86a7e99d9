/- Parts of the proof: the layer that reads Go values as data, and what the functions of the program tell. -/
import Derived.Test.YticippfoekpkhaaGreatK3
set_option linter.unusedVariables false
set_option linter.unusedSimpArgs false
set_option maxRecDepth 20000
namespace Go.Proofs.YticippfoekpkhaaGreat
open Go.Ab Go.RowKit
theorem ext_bcmp:ExtAt P 246 Extern.BytealgCompare.compare:=⟨_,rfl,rfl,rfl,rfl,rfl⟩
def orL:List Int→Int
  | []=>0
  | x::l=>if x=0 then orL l else x
theorem orL_step {l:List Int} {k:Nat} {x:Int} (h:l[k]?=some x) (e:¬x≠0):orL (l.drop k)=orL (l.drop (k+1)):=by
  obtain⟨hk,rfl⟩:=ul.1 h;rw[List.drop_eq_getElem_cons hk];simp[orL,ua e]
theorem orL_hit {l:List Int} {k:Nat} {x:Int} (h:l[k]?=some x) (e:x≠0):orL (l.drop k)=x:=by
  obtain⟨hk,rfl⟩:=ul.1 h;rw[List.drop_eq_getElem_cons hk];simp[orL,e]
theorem orInt (l:List Int):Tells P 142 [.val (bsl i64T) l] (.val i64T (orL l)):=by
 refine zc Tryz.func142 rfl rfl rfl (fun ext w hext=>?_);refine zf (d:=0) rfl zl (fun hsl0=>?_);refine CQR ?_;refine qa4 ?_;refine qam ?_;refine qcp ?_;refine qa0 ?_;refine Lp (ι:=Nat) 0 (fun (k:Nat)=>((((Fr.none).set 3 (.val i64T 0)).set 6 (.val (bsl i64T) l)).set 7 (.val i64T (l.length:Int))).set 8 (.val i64T (k:Int))) (fun (k:Nat)=>Hp.none) (fun (k:Nat)=>k≤l.length∧orL l=orL (l.drop k)) (fun (k:Nat)=>l.length-k) (0) (⟨uf _,rfl⟩) ?_;intro k hinv;refine qal ?_;refine Cf (p:=k<l.length) (fun ht9=>?_) (fun ht9=>?_)
 ·
  obtain⟨x,hx⟩:∃x,l[k]?=some x:=⟨_,ub ht9⟩;refine CSQBQR ?_;refine A0 (zbM rfl rfl rfl zcv yj) ?_;refine xh ?_;refine qaR ?_;refine A0 mX ?_;refine qaw ?_;refine qbz ?_;refine zo (p:=x≠0) rfl yO (fun ht14=>?_) (fun ht14=>?_)
  ·
   refine qbb ?_;exact zb rfl rfl (za rfl (hinv.2.trans (orL_hit hx ht14)).symm)
  refine qaU ?_;exact Nx (k+1) (⟨by omega,hinv.2.trans (orL_step hx ht14)⟩) ya
 refine CE ?_;refine qcd ?_;exact zb rfl rfl (za rfl (by rw[hinv.2,List.drop_of_length_le ya];rfl))
theorem bcompare (a b:List UInt8):Tells P 230 [.val (bsl u8T) a,.val (bsl u8T) b] (.val i64T (Lib.compareBytes a b)):=by
 refine zc Tryz.func230 rfl rfl rfl (fun ext w hext=>?_);refine zf (d:=0) rfl zl (fun hsl0=>?_);refine zf (d:=1) rfl zl (fun hsl1=>?_);refine qbV ?_;refine qaw ?_;refine A0 (g_bcmp rfl ext_bcmp rfl rfl) ?_;refine qaB ?_;exact zb rfl rfl yE
def za3 (a b:In):Int:=orL [Lib.compareBytes a.tx b.tx,zi5 a.i b.i]
theorem zqs (a b:In):Tells P 199 [.val inT a,.val inT b] (.val i64T (za3 a b)):=by
 refine zc Tryz.func199 rfl rfl rfl (fun ext w hext=>?_);refine qax ?_;refine qcj ?_;refine G0 (oFp zhn) ?_;refine G0 (znH rfl rfl zjz rfl rfl) ?_;refine G0 (oFp zhn) ?_;refine G0 (znH rfl rfl zjz rfl rfl) ?_;refine G0 (oCl (bcompare _ _) rfl fn_230 ⟨(by exact arg_vw rfl rfl zlv),(by exact arg_vw rfl rfl zlv),trivial⟩) ?_;refine G0 (oFp zdX) ?_;refine G0 (oLb zkG ty_3) ?_;refine G0 (oFp zdX) ?_;refine G0 (oLb zkG ty_3) ?_;refine G0 (oCl (cmpInt_ok _ _) rfl fn_231 yi) ?_;refine G0 (zL (T:=i64T) (xs:=[_,_]) rfl zcv ziX yal rfl rfl) ?_;refine G0 (oCl (orInt _) rfl fn_142 yd) ?_;refine qbB ?_;exact zb rfl rfl yE
theorem zgt {p:Nat→Bool} {k:Nat} (h:(List.range k).all p=true) (hk:p k=true):(List.range (k+1)).all p=true:=by
  rw[List.range_succ,List.all_append,h];simp[hk]
theorem zeu {p:Nat→Bool} {k n:Nat} (hk:k<n) (h:p k=false):(List.range n).all p=false:=by
  rw[List.all_eq_false];exact⟨k,by simpa using hk,by simp[h]⟩
def zgb (c:Coin):Bool:=decide (0≤c.inn.i∧c.inn.i<3∧1≤c.out.v∧c.out.v≤1099511627776∧0≤c.out.to∧c.out.to≤255)
def zi4 (p:List Coin) (k:Nat):Bool:=match p[k]? with
  | none=>true
  | some c=>zgb c&&(match k with|0=>true|k+1=>match p[k]? with|none=>true|some b=>decide (za3 b.inn c.inn<0))
def zaO (p:List Coin):Bool:=(List.range p.length).all (zi4 p)&&decide (p.length≤48)
theorem zfi {p:List Coin} {k:Nat} {c:Coin} (h:p[k]?=some c) (hk:k<p.length) (hb:¬(0≤c.inn.i∧c.inn.i<3∧1≤c.out.v∧c.out.v≤1099511627776∧0≤c.out.to∧c.out.to≤255)):zaO p=false:=by
  unfold zaO;rw[zeu hk (by unfold zi4 zgb;rw[h];simp only[uh hb,Bool.false_and]),Bool.false_and]
theorem zn4 {p:List Coin} {k:Nat} {b c:Coin} (h:p[k]?=some c) (hk:k<p.length) (h0:0<k) (hb:p[k-1]?=some b) (ho:¬za3 b.inn c.inn<0):zaO p=false:=by
  unfold zaO;obtain⟨m,rfl⟩:∃m,k=m+1:=⟨k-1,by omega⟩;simp only[Nat.add_sub_cancel] at hb;rw[zeu hk (by unfold zi4;rw[h];simp only[hb,uh ho,Bool.and_false]),Bool.false_and]
theorem zlX {p:List Coin} {c:Coin} (h:p[0]?=some c) (hb:0≤c.inn.i∧c.inn.i<3∧1≤c.out.v∧c.out.v≤1099511627776∧0≤c.out.to∧c.out.to≤255):zi4 p 0=true:=by
  unfold zi4 zgb;rw[h];simp only[ui hb,Bool.and_self]
theorem zn5 {p:List Coin} {k:Nat} {b c:Coin} (h:p[k]?=some c) (h0:0<k) (hb:p[k-1]?=some b) (ho:za3 b.inn c.inn<0) (hc:0≤c.inn.i∧c.inn.i<3∧1≤c.out.v∧c.out.v≤1099511627776∧0≤c.out.to∧c.out.to≤255):zi4 p k=true:=by
  obtain⟨m,rfl⟩:∃m,k=m+1:=⟨k-1,by omega⟩;simp only[Nat.add_sub_cancel] at hb;unfold zi4 zgb;rw[h];simp only[hb,ui ho,ui hc,Bool.and_self]
theorem may_ok (p:List Coin):Tells P 168 [.val (bsl za9) p] (.val zn (zaO p)):=by
 refine zc Tryz.func168 rfl rfl rfl (fun ext w hext=>?_);refine zf (d:=0) rfl zl (fun hsl0=>?_);refine CQR ?_;refine qam ?_;refine A0 (zO rfl rfl zi0) ?_;refine qa0 ?_;refine Lp (ι:=Nat) 0 (fun (k:Nat)=>((((Fr.none).set 0 (.val (bsl za9) p)).set 5 (.val (bsl za9) p)).set 6 (.val i64T (p.length:Int))).set 7 (.val i64T (k:Int))) (fun (k:Nat)=>Hp.none) (fun (k:Nat)=>k≤p.length∧(List.range k).all (zi4 p)=true) (fun (k:Nat)=>p.length-k) (0) (⟨uf _,rfl⟩) ?_;intro k hinv;refine qal ?_;refine Cf (p:=k<p.length) (fun ht8=>?_) (fun ht8=>?_)
 ·
  obtain⟨c,hc⟩:∃c,p[k]?=some c:=⟨_,ub ht8⟩;refine qaL ?_;refine A0 (zbM rfl rfl rfl zl8 yj) ?_;refine A0 (ze rfl rfl zoX) ?_;refine zq ze_211 rfl rfl rfl rfl ?_;refine A0 aV ?_;refine zg rfl rfl rfl rfl rfl (Lens.self _) zoX rfl ?_;refine CNQQR ?_;refine A0 (oFp ze3) ?_;refine A0 (oFp zdX) ?_;refine A0 (oLb (zcT.comp zkG) ty_3) ?_;refine A0 zbu ?_;refine qaw ?_;refine Sp (d:=16) (p:=c.inn.i<0) (fun g16=>?_) (fun g16=>?_)
  ·
   refine qac ?_;refine qar ?_;refine qaH ?_;refine qar ?_;refine qaH ?_;refine A2 ?_;refine qas ?_;refine Ct ?_;refine qau ?_;exact zb rfl rfl (za rfl (zfi hc ht8 ya).symm)
  refine A1 (oFp ze3) ?_;refine A1 (oFp zdX) ?_;refine A1 (oLb (zcT.comp zkG) ty_3) ?_;refine A1 zfR ?_;refine qaj ?_;refine Sp (d:=22) (p:=3≤c.inn.i) (fun g22=>?_) (fun g22=>?_)
  ·
   refine qac ?_;refine qar ?_;refine qaH ?_;refine qar ?_;refine qas ?_;refine Ct ?_;refine qau ?_;exact zb rfl rfl (za rfl (zfi hc ht8 ya).symm)
  refine A1 (oFp ziF) ?_;refine A1 (oFp ze4) ?_;refine A1 (oLb (zfj.comp zit) ty_3) ?_;refine A1 zbu ?_;refine qaj ?_;refine Sp (d:=28) (p:=c.out.v<1) (fun g28=>?_) (fun g28=>?_)
  ·
   refine qac ?_;refine qar ?_;refine qaH ?_;refine A2 ?_;refine qas ?_;refine Ct ?_;refine qau ?_;exact zb rfl rfl (za rfl (zfi hc ht8 ya).symm)
  refine A1 (oFp ziF) ?_;refine A1 (oFp ze4) ?_;refine A1 (oLb (zfj.comp zit) ty_3) ?_;refine A1 zcq ?_;refine qaj ?_;refine Sp (d:=34) (p:=1099511627776<c.out.v) (fun g34=>?_) (fun g34=>?_)
  ·
   refine qac ?_;refine qar ?_;refine qas ?_;refine Ct ?_;refine qau ?_;exact zb rfl rfl (za rfl (zfi hc ht8 ya).symm)
  refine A1 (oFp ziF) ?_;refine A1 (oFp zf6) ?_;refine A1 (oLb (zfj.comp ziQ) ty_3) ?_;refine A1 zbu ?_;refine qaj ?_;refine Sp (d:=40) (p:=c.out.to<0) (fun g40=>?_) (fun g40=>?_)
  ·
   refine qbA ?_;refine qas ?_;refine Ct ?_;refine qau ?_;exact zb rfl rfl (za rfl (zfi hc ht8 ya).symm)
  refine A1 (oFp ziF) ?_;refine A1 (oFp zf6) ?_;refine A1 (oLb (zfj.comp ziQ) ty_3) ?_;refine A1 zcq ?_;refine A0 oK ?_;refine Sp (d:=45) (p:=255<c.out.to) (fun g45=>?_) (fun g45=>?_)
  ·
   refine CN ?_;refine Ct ?_;refine qau ?_;exact zb rfl rfl (za rfl (zfi hc ht8 ya).symm)
  refine CN ?_;refine Cg ?_;refine CS ?_;refine qbc ?_;refine G0 mV ?_;refine G0 zcq ?_;refine G0 mV ?_;refine zaH (d:=48) (p:=0<k) rfl yv (fun g48=>?_) (fun g48=>?_)
  ·
   obtain⟨b,hb⟩:∃b,p[k-1]?=some b:=yo;refine G1 mV ?_;refine G1 mV ?_;refine G1 zbh ?_;refine G1 (zR (i:=k-1) rfl rfl rfl ya zl8 yj) ?_;refine G1 (oFr ze3 zcT) ?_;refine G1 (ze rfl rfl zdx) ?_;refine G1 (oFp ze3) ?_;refine G1 (oLb zcT zdx) ?_;refine G1 (oCl (zqs _ _) rfl fn_199 ybB) ?_;refine G1 zfR ?_;refine G0 oK ?_;refine zaH (d:=59) (p:=¬za3 b.inn c.inn<0) rfl yv (fun g59=>?_) (fun g59=>?_)
   ·
    refine GK.nil ?_;refine Ct ?_;refine qau ?_;exact zb rfl rfl (za rfl (zn4 hc ht8 ya hb g59).symm)
   refine GK.nil ?_;refine Cg ?_;refine qaU ?_;exact Nx (k+1) (⟨by omega,zgt hinv.2 yaW⟩) ya
  refine qab ?_;refine qaY ?_;refine G2 ?_;refine qaM ?_;refine Cg ?_;refine qaU ?_;exact Nx (k+1) (⟨by omega,zgt hinv.2 yaW⟩) ya
 refine CE ?_;refine qa6 ?_;refine A0 (zO rfl rfl zi0) ?_;refine A0 zh2 ?_;refine qad ?_;exact zb rfl rfl (za rfl (by unfold zaO;rw[show k=p.length by omega] at hinv;rw[hinv.2,Bool.true_and,uo];simp only[IntL.toI,id_eq];omega))
set_option maxRecDepth 20000
def zfk {α:Type} (f:α→Int) (l:List α):Int:=l.foldl (fun n x=>IntKind.i64.wrap (n+f x)) 0
theorem worth_step {α:Type} {f:α→Int} {l:List α} {k:Nat} {x:α} (h:l[k]?=some x):zfk f (l.take (k+1))=IntKind.i64.wrap (zfk f (l.take k)+f x):=by
  unfold zfk;rw[un,h,List.foldl_append];rfl
theorem worthOut (l:List Out) (f:Out→Int):Tells P 210 [.val (bsl outT) l,.fn1 P outT i64T f] (.val i64T (zfk f l)):=by
 refine zc Tryz.func210 rfl rfl rfl (fun ext w hext=>?_);refine zf (d:=0) rfl zl (fun hsl0=>?_);refine CQR ?_;refine qa4 ?_;refine qam ?_;refine A0 (zO rfl rfl zeO) ?_;refine qa0 ?_;refine Lp (ι:=Nat) 0 (fun (k:Nat)=>(((((Fr.none).set 1 (.fn1 P outT i64T f)).set 5 (.val i64T (zfk f (l.take k)))).set 8 (.val (bsl outT) l)).set 9 (.val i64T (l.length:Int))).set 10 (.val i64T (k:Int))) (fun (k:Nat)=>Hp.none) (fun (k:Nat)=>k≤l.length) (fun (k:Nat)=>l.length-k) (0) (uf _) ?_;intro k hinv;refine qal ?_;refine Cf (p:=k<l.length) (fun ht11=>?_) (fun ht11=>?_)
 ·
  obtain⟨x,hx⟩:∃x,l[k]?=some x:=ybr;refine CSQBQR ?_;refine qbY ?_;refine zg rfl rfl rfl rfl rfl (Lens.self _) zhM rfl ?_;refine CNR ?_;refine qaw ?_;refine A0 mF ?_;refine A0 (oLs rfl rfl rfl zhM) ?_;refine A0 (ziD rfl rfl yl) ?_;refine A0 zdo ?_;refine A0 aV ?_;refine qaV ?_;refine zj (d:=5) rfl (worth_step hx).symm ?_;exact Nx (k+1) ya ya
 refine CE ?_;refine qcd ?_;exact zb rfl rfl (za rfl yN)
theorem zu6 (o:Out):Tells P 211 [.val outT o] (.val i64T o.v):=by
 refine zc Tryz.func211 rfl rfl rfl (fun ext w hext=>?_);refine qai ?_;refine qa4 ?_;refine A0 (oFp ze4) ?_;refine A0 (oLb zit ty_3) ?_;refine qad ?_;exact zb rfl rfl yE
theorem outs_ok (t:Tx):Tells P 172 [.val txT t] (.val i64T (zfk (·.v) t.outs)):=by
 refine zc Tryz.func172 rfl rfl rfl (fun ext w hext=>?_);refine qai ?_;refine qa4 ?_;refine A0 (oFp zes) ?_;refine A0 (oLb zd4 ziW) ?_;refine A0 (oCl (worthOut _ _) rfl fn_210 ⟨yl,(by first|exact zdu (Cs:=[]) rfl fn_211 yC trivial rfl (fun x=>zu6 _)|exact zdt (Cs:=[]) rfl fn_211 yC trivial rfl (fun x y=>zu6 _)|exact zdv rfl),trivial⟩) ?_;refine qad ?_;exact zb rfl rfl yE
theorem zve (id:Ab.Id) (c:Coin):Tells P 207 [.val za9 c,.rptr idT id] (.val zn (decide (c.inn.tx=id))):=by
 refine zc Tryz.func207 rfl rfl rfl (fun ext w hext=>?_);refine qai ?_;refine qa4 ?_;refine A0 (oFp ze3) ?_;refine A0 (oFp zhn) ?_;refine A0 (oLb (zcT.comp zlv) zaA) ?_;refine A0 (ze rfl rfl zaA) ?_;refine A0 (zlS rfl rfl rfl (zkn)) ?_;refine qad ?_;exact zb rfl rfl yE
theorem made2_ok (a b:Coin):Tells P 209 [.val za9 a,.val za9 b] (.val i64T (za3 a.inn b.inn)):=by
 refine zc Tryz.func209 rfl rfl rfl (fun ext w hext=>?_);refine qax ?_;refine qa4 ?_;refine A0 (oFp ze3) ?_;refine A0 (oLb zcT zdx) ?_;refine A0 (oFp ze3) ?_;refine A0 (oLb zcT zdx) ?_;refine A0 (oCl (zqs _ _) rfl fn_199 yi) ?_;refine qad ?_;exact zb rfl rfl yE
theorem zsc (c:Coin) (x:In):Tells P 233 [.val za9 c,.val inT x] (.val i64T (za3 c.inn x)):=by
 refine zc Tryz.func233 rfl rfl rfl (fun ext w hext=>?_);refine qax ?_;refine qa4 ?_;refine A0 (oFp ze3) ?_;refine A0 (oLb zcT zdx) ?_;refine A0 (oLs rfl rfl rfl zdx) ?_;refine A0 (oCl (zqs _ _) rfl fn_199 yi) ?_;refine qad ?_;exact zb rfl rfl yE
theorem indexIn (l:List In) (v:In):Tells P 234 [.val (bsl inT) l,.val inT v] (.val i64T (idx (fun c=>decide (v=c)) l)):=by
 refine zc Tryz.func234 rfl rfl rfl (fun ext w hext=>?_);refine zf (d:=0) rfl zl (fun hsl0=>?_);refine qai ?_;refine qam ?_;refine A0 (zO rfl rfl zgn) ?_;refine qa0 ?_;refine Lp (ι:=Nat) 1 (fun (k:Nat)=>(((((Fr.none).set 0 (.val (bsl inT) l)).set 3 (.ptr 0 0)).set 6 (.val (bsl inT) l)).set 7 (.val i64T (l.length:Int))).set 8 (.val i64T (k:Int))) (fun (k:Nat)=>(Hp.none).set 0 (.box 201 inT v)) (fun (k:Nat)=>k≤l.length∧idx (fun c=>decide (v=c)) l=shift k (idx (fun c=>decide (v=c)) (l.drop k))) (fun (k:Nat)=>l.length-k) (0) (⟨uf _,zgC _ l⟩) ?_;intro k hinv;refine qal ?_;refine Cf (p:=k<l.length) (fun ht9=>?_) (fun ht9=>?_)
 ·
  obtain⟨x,hx⟩:∃x,l[k]?=some x:=⟨_,ub ht9⟩;refine qaL ?_;refine qcj ?_;refine G0 (oLs rfl rfl rfl zdx) ?_;refine qck ?_;refine G0 (zlS rfl rfl rfl (eqt_201)) ?_;refine GK.nil ?_;refine zo (p:=decide (v=x)=true) rfl yB (fun ht16=>?_) (fun ht16=>?_)
  ·
   refine qcd ?_;exact zb rfl rfl (za rfl (hinv.2.trans (znC hx ht16)).symm)
  refine qaU ?_;exact Nx (k+1) (⟨by omega,hinv.2.trans (zsv hx ht16)⟩) ya
 refine CE ?_;refine qau ?_;exact zb rfl rfl (za rfl (hinv.2.trans (znD ya)).symm)
theorem containsIn (l:List In) (v:In):Tells P 203 [.val (bsl inT) l,.val inT v] (.val zn (l.any fun c=>decide (v=c))):=by
 refine zc Tryz.func203 rfl rfl rfl (fun ext w hext=>?_);refine zf (d:=0) rfl zl (fun hsl0=>?_);refine qai ?_;refine qag ?_;refine A0 (oLs rfl rfl rfl zdx) ?_;refine A0 (oCl (indexIn _ _) rfl fn_234 yi) ?_;refine A0 zfR ?_;refine qad ?_;exact zb rfl rfl (za rfl (zk4 _ l))
theorem odd_ok (o:Out):Tells P 204 [.val outT o] (.val zn (decide (o.v<1∨1099511627776<o.v∨o.to<0∨255<o.to))):=by
 refine zc Tryz.func204 rfl rfl rfl (fun ext w hext=>?_);refine qai ?_;refine qa4 ?_;refine A0 (oFp ze4) ?_;refine A0 (oLb zit ty_3) ?_;refine A0 zbu ?_;refine qaw ?_;refine Sp (d:=6) (p:=o.v<1) (fun g6=>?_) (fun g6=>?_)
 ·
  refine qac ?_;refine qaH ?_;refine qaH ?_;refine qaD ?_;exact zb rfl rfl (za rfl yai)
 refine A1 (oFp ze4) ?_;refine A1 (oLb zit ty_3) ?_;refine A1 zcq ?_;refine qaj ?_;refine Sp (d:=11) (p:=1099511627776<o.v) (fun g11=>?_) (fun g11=>?_)
 ·
  refine qac ?_;refine qaH ?_;refine qaD ?_;exact zb rfl rfl (za rfl yai)
 refine A1 (oFp zf6) ?_;refine A1 (oLb ziQ ty_3) ?_;refine A1 zbu ?_;refine qaj ?_;refine Sp (d:=16) (p:=o.to<0) (fun g16=>?_) (fun g16=>?_)
 ·
  refine qac ?_;refine qaD ?_;exact zb rfl rfl (za rfl yai)
 refine A1 (oFp zf6) ?_;refine A1 (oLb ziQ ty_3) ?_;refine A1 zcq ?_;refine A0 oK ?_;refine Sp (d:=20) (p:=255<o.to) (fun g20=>?_) (fun g20=>?_)
 ·
  refine qad ?_;exact zb rfl rfl (za rfl yai)
 refine qad ?_;exact zb rfl rfl (za rfl yai)
def zu7 (o:Out):Bool:=decide (o.v<1∨1099511627776<o.v∨o.to<0∨255<o.to)
def inAt (t:Tx) (k:Nat):Bool:=match t.ins[k]? with
  | none=>true
  | some x=>decide (0≤x.i∧x.i<3) && !((t.ins.take k).any fun c=>decide (x=c))
def zeh (t:Tx):Bool:=(List.range t.ins.length).all (inAt t)&&(decide (t.ins.length≤3)&&(decide (0<t.outs.length)&&(decide (t.outs.length≤3) && !(t.outs.any zu7))))
theorem zvq {t:Tx} {k:Nat} {x:In} (h:t.ins[k]?=some x) (hk:k<t.ins.length) (hb:¬(0≤x.i∧x.i<3)):zeh t=false:=by
  unfold zeh;rw[zeu hk (by unfold inAt;rw[h];simp only[uh hb,Bool.false_and]),Bool.false_and]
theorem inAt_twice {t:Tx} {k:Nat} {x:In} (h:t.ins[k]?=some x) (hk:k<t.ins.length) (hb:((t.ins.take k).any fun c=>decide (x=c))=true):zeh t=false:=by
  unfold zeh;rw[zeu hk (by unfold inAt;rw[h];simp only[hb,Bool.not_true,Bool.and_false]),Bool.false_and]
theorem inAt_good {t:Tx} {k:Nat} {x:In} (h:t.ins[k]?=some x) (hb:0≤x.i∧x.i<3) (hc:¬((t.ins.take k).any fun c=>decide (x=c))=true):inAt t k=true:=by
  unfold inAt;rw[h];simp only[ui hb,Bool.true_and];cases hh:((t.ins.take k).any fun c=>decide (x=c)) with
  | true=>exact absurd hh hc
  | false=>rfl
theorem zqA (t:Tx):Tells P 170 [.val txT t] (.val zn (zeh t)):=by
 refine zc Tryz.func170 rfl rfl rfl (fun ext w hext=>?_);refine qai ?_;refine qce ?_;refine qbf ?_;refine qa0 ?_;refine Lp (ι:=Nat) 1 (fun (k:Nat)=>((((Fr.none).set 1 (.ptr 0 0)).set 7 (.val (sl inT) t.ins)).set 8 (.val i64T (t.ins.length:Int))).set 9 (.val i64T (k:Int))) (fun (k:Nat)=>(Hp.none).set 0 (.box 124 txT t)) (fun (k:Nat)=>k≤t.ins.length∧(List.range k).all (inAt t)=true) (fun (k:Nat)=>t.ins.length-k) (0) (⟨uf _,rfl⟩) ?_;intro k hinv;refine zf (d:=7) rfl zl (fun hsi=>?_);refine qal ?_;refine Cf (p:=k<t.ins.length) (fun ht10=>?_) (fun ht10=>?_)
 ·
  obtain⟨x,hx⟩:∃x,t.ins[k]?=some x:=⟨_,ub ht10⟩;refine qaL ?_;refine qbZ ?_;refine A0 aV ?_;refine zg rfl rfl rfl rfl rfl (Lens.self _) zdx rfl ?_;refine CNQ ?_;refine CD mixed ?_;refine G0 (oFp zdX) ?_;refine G0 (oLb zkG ty_3) ?_;refine G0 zbu ?_;refine G0 mV ?_;refine zaH (d:=17) (p:=x.i<0) rfl yv (fun g17=>?_) (fun g17=>?_)
  ·
   refine qaY ?_;refine qbk ?_;refine qab ?_;refine qaM ?_;refine Ct ?_;refine qau ?_;exact zb rfl rfl (za rfl (zvq hx ht10 ya).symm)
  refine G1 (oFp zdX) ?_;refine G1 (oLb zkG ty_3) ?_;refine G1 zfR ?_;refine qbk ?_;refine zaH (d:=22) (p:=3≤x.i) rfl yv (fun g22=>?_) (fun g22=>?_)
  ·
   refine qab ?_;refine qaM ?_;refine Ct ?_;refine qau ?_;exact zb rfl rfl (za rfl (zvq hx ht10 ya).symm)
  refine G1 (oFp zdY) ?_;refine G1 (oLb zev zhN) ?_;refine G1 mV ?_;refine G1 (by first|exact zer rfl rfl rfl yah zo4|exact zi1 rfl rfl rfl zo4 yh) ?_;refine G1 (oLs rfl rfl rfl zdx) ?_;refine G1 (oCl (containsIn _ _) rfl fn_203 yi) ?_;refine qaM ?_;refine zo (p:=((t.ins.take k).any fun c=>decide (x=c))=true) rfl (Bool.decide_eq_true.symm) (fun ht29=>?_) (fun ht29=>?_)
  ·
   refine qau ?_;exact zb rfl rfl (za rfl (inAt_twice hx ht10 ht29).symm)
  refine qaU ?_;exact Nx (k+1) (⟨by omega,zgt hinv.2 (inAt_good hx ya ht29)⟩) ya
 refine CE ?_;refine CQR ?_;refine A0 aC ?_;refine CNQR ?_;refine qbf ?_;refine A0 zh2 ?_;refine qaw ?_;refine Sp (d:=35) (p:=t.ins.length≤3) (fun g35=>?_) (fun g35=>?_)
 ·
  refine qbX ?_;refine A1 (zO rfl rfl zeO) ?_;refine A1 zcq ?_;refine qaj ?_;refine Sp (d:=41) (p:=0<t.outs.length) (fun g41=>?_) (fun g41=>?_)
  ·
   refine qbX ?_;refine A1 (zO rfl rfl zeO) ?_;refine A1 zh2 ?_;refine qaj ?_;refine Sp (d:=47) (p:=t.outs.length≤3) (fun g47=>?_) (fun g47=>?_)
   ·
    refine qbX ?_;refine A1 mC ?_;refine A1 (oCl (zn0 _ _) rfl fn_205 ⟨yl,(by first|exact zdu (Cs:=[]) rfl fn_204 yC trivial rfl (fun x=>odd_ok _)|exact zdt (Cs:=[]) rfl fn_204 yC trivial rfl (fun x y=>odd_ok _)|exact zdv rfl),trivial⟩) ?_;refine A1 oN ?_;refine qaD ?_;exact zb rfl rfl (za rfl (by rw[show k=t.ins.length by omega] at hinv;unfold zeh;rw[hinv.2,ui g35,ui g41,ui g47];rfl))
   refine qbA ?_;refine A2 ?_;refine qaD ?_;exact zb rfl rfl (za rfl (by unfold zeh;simp only[uh g47,Bool.false_and,Bool.and_false]))
  refine qac ?_;refine qar ?_;refine A2 ?_;refine qaD ?_;exact zb rfl rfl (za rfl (by unfold zeh;simp only[uh g41,Bool.false_and,Bool.and_false]))
 refine qac ?_;refine qar ?_;refine qaH ?_;refine A2 ?_;refine A2 ?_;refine qaD ?_;exact zb rfl rfl (za rfl (by unfold zeh;simp only[uh g35,Bool.false_and,Bool.and_false]))
def halves {α:Type} (c:α→Int) (l:List α) (lo hi:Nat):Nat :=
  if h:lo<hi then
    match l[(lo+hi)/2]? with
    | none=>lo
    | some x=>if c x<0 then halves c l ((lo+hi)/2+1) hi else halves c l lo ((lo+hi)/2)
  else lo
termination_by hi-lo
theorem zia {α:Type} {c:α→Int} {l:List α} {lo hi:Nat} {x:α} (h:lo<hi) (hx:l[(lo+hi)/2]?=some x) (hc:c x<0):halves c l lo hi=halves c l ((lo+hi)/2+1) hi:=by
  rw[halves,dif_pos h];simp only[hx,if_pos hc]
theorem zib {α:Type} {c:α→Int} {l:List α} {lo hi:Nat} {x:α} (h:lo<hi) (hx:l[(lo+hi)/2]?=some x) (hc:¬c x<0):halves c l lo hi=halves c l lo ((lo+hi)/2):=by
  rw[halves,dif_pos h];simp only[hx,if_neg hc]
theorem zbW {α:Type} {c:α→Int} {l:List α} {lo:Nat}:halves c l lo lo=lo:=by rw[halves,dif_neg (Nat.lt_irrefl _)]
def zeP {α:Type} (c:α→Int) (l:List α) (i:Nat):Bool:=match l[i]? with|none=>false|some x=>decide (c x=0)
theorem mid_eq {lo hi:Nat} (h:lo+hi<18446744073709551616):IntKind.i64.wrap (IntL.toI u64T (zaN (zac (IntL.toI i64T ((lo:Int)+(hi:Int)))) (IntL.toI u64T (1:UInt64)).toNat))=(((lo+hi)/2:Nat):Int):=by
  have e1:(zac ((lo:Int)+(hi:Int))).toNat=lo+hi:=by
    unfold zac;rw[UInt64.toNat_ofNat_of_lt' (by show(((lo:Int)+hi)%18446744073709551616).toNat<18446744073709551616;omega)];omega
  have e2:(zaN (zac ((lo:Int)+(hi:Int))) 1).toNat=(lo+hi)/2:=by
    unfold zaN;rw[e1,UInt64.toNat_ofNat_of_lt' (by show(lo+hi)/2^min 1 64<18446744073709551616;rw[show min 1 64=1 from rfl];omega)];rfl
  show IntKind.i64.wrap (((zaN (zac ((lo:Int)+(hi:Int))) 1).toNat:Nat):Int)=_;rw[e2];exact zaz ya
theorem bsearch (l:List Coin) (y:In) (f:Coin→In→Int) (hl:l.length<4611686018427387904):Tells P 232 [.val (bsl za9) l,.val inT y,.fn2 P za9 inT i64T f] (.tup2 (.val i64T (halves (fun x=>f x y) l 0 l.length:Nat)) (.val zn (zeP (fun x=>f x y) l (halves (fun x=>f x y) l 0 l.length)))):=by
 refine zc Tryz.func232 rfl rfl rfl (fun ext w hext=>?_);refine zf (d:=0) rfl zl (fun hsl0=>?_);refine qai ?_;refine A0 aV ?_;refine qag ?_;refine A0 (zO rfl rfl zi0) ?_;refine qag ?_;refine A0 aV ?_;refine qaA ?_;refine CB ?_;refine Lp (ι:=Nat×Nat) 1 (fun(lo,hi)=>(((((Fr.none.set 0 (.val (bsl za9) l)).set 2 (.fn2 P za9 inT i64T f)).set 4 (.ptr 0 0)).set 8 (.val i64T (l.length:Int))).set 9 (.val i64T (lo:Int))).set 10 (.val i64T (hi:Int))) (fun(lo,hi)=>Hp.none.set 0 (.box 201 inT y)) (fun(lo,hi)=>lo≤hi∧hi≤l.length∧halves (fun x=>f x y) l 0 l.length=halves (fun x=>f x y) l lo hi) (fun(lo,hi)=>hi-lo) ((0,l.length)) (⟨uf _,ug _,rfl⟩) ?_;intro⟨lo,hi⟩ hinv;dsimp only at hinv;refine CQQR ?_;refine qaq ?_;refine qaT ?_;refine Cf (p:=lo<hi) (fun ht17=>?_) (fun ht17=>?_)
 ·
  obtain⟨x,hx⟩:∃x,l[(lo+hi)/2]?=some x:=yo;refine CS ?_;refine CB ?_;refine CQR ?_;refine qaq ?_;refine A0 zdo ?_;refine qcm ?_;refine xi ?_;refine A0 (zmh rfl (ui_3) (zuB) rfl (mid_eq ya)) ?_;refine qcj ?_;refine G0 mH ?_;refine G0 mV ?_;refine G0 mV ?_;refine G0 (zbM rfl rfl rfl zl8 yj) ?_;refine G0 (ze rfl rfl zoX) ?_;refine G0 (oLs rfl rfl rfl zdx) ?_;refine G0 (zmw rfl rfl yb yl) ?_;refine G0 zbu ?_;refine GK.nil ?_;refine Cf (p:=f x y<0) (fun ht31=>?_) (fun ht31=>?_)
  ·
   refine CR ?_;refine qaW ?_;refine qad ?_;refine CI ?_;exact Nx (((lo+hi)/2+1,hi)) yaC yap
  refine CR ?_;refine qaw ?_;refine qad ?_;refine CI ?_;exact Nx ((lo,(lo+hi)/2)) yaC yap
 refine CE ?_;refine qbc ?_;refine G0 mV ?_;refine G0 mV ?_;refine G0 mV ?_;refine G0 zbu ?_;refine G0 mV ?_;refine zaH (d:=39) (p:=lo<l.length) rfl yv (fun g39=>?_) (fun g39=>?_)
 ·
  obtain⟨x,hx⟩:∃x,l[lo]?=some x:=⟨_,ub g39⟩;refine G1 mH ?_;refine G1 mV ?_;refine G1 mV ?_;refine G1 (zbM rfl rfl rfl zl8 yj) ?_;refine G1 (ze rfl rfl zoX) ?_;refine G1 (oLs rfl rfl rfl zdx) ?_;refine G1 (zmw rfl rfl yb yl) ?_;refine G1 zcw ?_;refine G0 oK ?_;refine G0 aV ?_;refine qbB ?_;exact zU rfl rfl (za rfl yas) (za rfl (by rw[hinv.2.2,show hi=lo by omega,zbW];unfold zeP;rw[hx];rfl))
 refine qab ?_;refine G2 ?_;refine G2 ?_;refine G0 oK ?_;refine G0 aV ?_;refine qbB ?_;exact zU rfl rfl (za rfl yas) (za rfl (by rw[hinv.2.2,show hi=lo by omega,zbW];unfold zeP;rw[List.getElem?_eq_none ya]))
def placeOf (p:List Coin) (x:In):Nat:=halves (fun c=>za3 c.inn x) p 0 p.length
def zk3 (p:List Coin) (x:In):Bool:=zeP (fun c=>za3 c.inn x) p (placeOf p x)
theorem place_ok (p:List Coin) (x:In) (hl:p.length<4611686018427387904):Tells P 201 [.val (bsl za9) p,.val inT x] (.tup2 (.val i64T (placeOf p x:Nat)) (.val zn (zk3 p x))):=by
 refine zc Tryz.func201 rfl rfl rfl (fun ext w hext=>?_);refine zf (d:=0) rfl zl (fun hsl0=>?_);refine qai ?_;refine A0 aV ?_;refine qag ?_;refine A0 (oLs rfl rfl rfl zdx) ?_;refine A0 (oCl (bsearch p x (fun c x=>za3 c.inn x) hl) rfl fn_232 ⟨yl,yl,(by first|exact zdu (Cs:=[]) rfl fn_233 yC trivial rfl (fun x=>zsc _ _)|exact zdt (Cs:=[]) rfl fn_233 yC trivial rfl (fun x y=>zsc _ _)|exact zdv rfl),trivial⟩) ?_;refine qaa ?_;refine qbu ?_;exact zU rfl rfl (zcA rfl) (zcA rfl)
theorem delete_ok (l:List Coin) (i:Nat) (hi:i<l.length):zee P 202 (.row 211 za9 l) [.own 0,.val i64T (i:Int),.val i64T ((i:Int)+1)] (.fresh 211 za9 (l.take i++l.drop (i+1))) (.none_):=by
 refine zeD trivial Tryz.func202 rfl rfl ⟨Nat.one_pos,⟨trivial,⟨trivial,trivial⟩⟩⟩ (fun ext pg w hext hgr=>?_);refine zf (d:=1) rfl zt (fun hin1=>?_);refine zf (d:=2) rfl zt (fun hin2=>?_);refine zgT (n:=0) rfl (fun hrl=>?_);refine qbv ?_;refine A0 mO ?_;refine qaq ?_;refine A0 mO ?_;refine A0 (zaV rfl rfl rfl zi0) ?_;refine A0 (g_os_chk (p:=i) (q:=i+1) (r:=l.length) rfl rfl rfl rfl rfl rfl zl8 ym ym ym yh) ?_;refine CNQQR ?_;refine qaq ?_;refine A0 zcw ?_;refine zed (d:=16) rfl ybj ?_;refine CN ?_;refine Cg ?_;refine CSQR ?_;refine A0 mO ?_;refine A0 (zaV rfl rfl rfl zi0) ?_;refine qaA ?_;refine xj ?_;refine qcf ?_;refine X0 (znJ (q:=i) rfl rfl rfl rfl zl8 ym yh) ?_;refine qcf ?_;refine X0 (zvw (p:=i+1) rfl rfl rfl rfl zl8 ym yh) ?_;refine XK.e (fun fr' hfr kk H=>by exact ztc rfl rfl rfl rfl ((hfr 22 yc).trans rfl) ((hfr 25 yc).trans rfl) rfl zpc ya (zr H)) ?_;refine X0 aS ?_;refine XK.nil' ?_;refine CQR ?_;refine A0 mS ?_;refine A0 mS ?_;refine A0 (g_len_s rfl rfl ya zi0) ?_;refine qaw ?_;refine A0 (g_os_lh (p:=i+(l.length-(i+1))) (q:=l.length) rfl rfl rfl rfl rfl zl8 ym ym yh) ?_;refine zv4 rfl rfl rfl rfl rfl zpc ze_211 yA ?_;refine CNQR ?_;refine A0 mS ?_;refine A0 aS ?_;refine CN ?_;exact zdk rfl rfl rfl rfl rfl zcF (zlI rfl rfl yA (by rw[List.take_append_of_le_length yA,List.take_take,Nat.min_self,List.take_append_of_le_length yA];exact uc yA))
def rotl (x:UInt32) (n:Int):UInt32:=shl32 x ((zac n)&&&31).toNat|||zoy x (32-((zac n)&&&31)).toNat
theorem rotl_ok (x:UInt32) (n:Int):Tells P 227 [.val u32T x,.val i64T n] (.val u32T (rotl x n)):=by
 refine zc Tryz.func227 rfl rfl rfl (fun ext w hext=>?_);refine zf (d:=1) rfl zt (fun hin1=>?_);refine qbV ?_;refine qcm ?_;refine A0 (zqJ rfl rfl rfl) ?_;refine qag ?_;refine qaw ?_;refine A0 (zqH rfl rfl rfl yg rfl) ?_;refine qaq ?_;refine A0 (g_sub64 rfl rfl rfl) ?_;refine A0 (znI rfl rfl rfl yg rfl) ?_;refine A0 (zvx rfl rfl rfl) ?_;refine qad ?_;exact zb rfl rfl (za rfl rfl)
theorem zuZ (x:UInt32) (n:Int):Tells P 194 [.val u32T x,.val i64T n] (.val u32T (rotl x (IntKind.i64.wrap (0-n)))):=by
 refine zc Tryz.func194 rfl rfl rfl (fun ext w hext=>?_);refine zf (d:=1) rfl zt (fun hin1=>?_);refine qbV ?_;refine qaw ?_;refine A0 (g_neg rfl rfl rfl) ?_;refine A0 (oCl (rotl_ok _ _) rfl fn_227 yi) ?_;refine qad ?_;exact zb rfl rfl (za rfl rfl)
def shaK:List UInt32:=[1116352408,1899447441,3049323471,3921009573,961987163,1508970993,2453635748,2870763221,3624381080,310598401,607225278,1426881987,1925078388,2162078206,2614888103,3248222580,3835390401,4022224774,264347078,604807628,770255983,1249150122,1555081692,1996064986,2554220882,2821834349,2952996808,3210313671,3336571891,3584528711,113926993,338241895,666307205,773529912,1294757372,1396182291,1695183700,1986661051,2177026350,2456956037,2730485921,2820302411,3259730800,3345764771,3516065817,3600352804,4094571909,275423344,430227734,506948616,659060556,883997877,958139571,1322822218,1537002063,1747873779,1955562222,2024104815,2227730452,2361852424,2428436474,2756734187,3204031479,3329325298]
def zw (n:UInt64) (size:Nat):List UInt8:=(List.range size).map fun j=>zbH (IntL.toI u64T (zaN n (8*(size-1-j))))
theorem zqv {n:UInt64} {size k:Nat} {l:List UInt8} (hk:k<size) (hl:l.length=size) (h:∀j,size-k≤j→j<size→l[j]?=(zw n size)[j]?):∀j,size-(k+1)≤j→j<size→(l.set (size-1-k) (zbH (IntL.toI u64T (zaN n (8*k)))))[j]?=(zw n size)[j]?:=fun j h1 h2=>by
  rw[List.getElem?_set];by_cases c:size-1-k=j
  · rw[if_pos c,if_pos ya]
    unfold zw;rw[List.getElem?_map,List.getElem?_range h2,Option.map_some];congr 4;omega
  rw[if_neg c];exact h j ya h2
theorem zsh {n:UInt64} {size:Nat} {l:List UInt8} (hl:l.length=size) (h:∀j,size-size≤j→j<size→l[j]?=(zw n size)[j]?):l=zw n size:=by
  apply List.ext_getElem?;intro j;by_cases c:j<size
  · exact h j ya c
  rw[List.getElem?_eq_none ya,List.getElem?_eq_none (by unfold zw;simp;omega)]
theorem numbers_ok:Tells P 195 [] (.val (arrT 64 yn u32T) shaK):=by
 refine zc Tryz.func195 rfl rfl rfl (fun ext w hext=>?_);refine CQR ?_;refine zq zut rfl rfl rfl rfl ?_;refine CNQR ?_;refine A0 (zkh (T:=u32T) (xs:=[_,_,_,_,_,_,_,_,_,_,_,_,_,_,_,_,_,_,_,_,_,_,_,_,_,_,_,_,_,_,_,_,_,_,_,_,_,_,_,_,_,_,_,_,_,_,_,_,_,_,_,_,_,_,_,_,_,_,_,_,_,_,_,_]) rfl zkD zut ⟨rfl,rfl,rfl,rfl,rfl,rfl,rfl,rfl,rfl,rfl,rfl,rfl,rfl,rfl,rfl,rfl,rfl,rfl,rfl,rfl,rfl,rfl,rfl,rfl,rfl,rfl,rfl,rfl,rfl,rfl,rfl,rfl,rfl,rfl,rfl,rfl,rfl,rfl,rfl,rfl,rfl,rfl,rfl,rfl,rfl,rfl,rfl,rfl,rfl,rfl,rfl,rfl,rfl,rfl,rfl,rfl,rfl,rfl,rfl,rfl,rfl,rfl,rfl,rfl,rfl,rfl,rfl,rfl,rfl,rfl,rfl,rfl,rfl,rfl,rfl,rfl,rfl,rfl,rfl,rfl,rfl,rfl,rfl,rfl,rfl,rfl,rfl,rfl,rfl,rfl,rfl,rfl,rfl,rfl,rfl,rfl,rfl,rfl,rfl,rfl,rfl,rfl,rfl,rfl,rfl,rfl,rfl,rfl,rfl,rfl,rfl,rfl,rfl,rfl,rfl,rfl,rfl,rfl,rfl,rfl,rfl,rfl,rfl,rfl,rfl,rfl,rfl,rfl,trivial⟩ rfl) ?_;refine zg rfl rfl rfl rfl rfl (Lens.self _) ty_296 rfl ?_;refine CN ?_;exact zab rfl rfl rfl rfl ty_296 (rfl)
theorem zky (n:UInt64) (size:Nat) (hs:size≤8):Tells P 100 [.val u64T n,.val i64T (size:Int)] (.fresh 5 u8T (zw n size)):=by
 refine zc Tryz.func100 rfl rfl rfl (fun ext w hext=>?_);refine zf (d:=1) rfl zt (fun hin1=>?_);refine qap ?_;refine qaN ?_;refine A0 zbu ?_;refine qaw ?_;refine zed (d:=9) rfl (uh (by show ¬((size:Int)<0);omega)) ?_;refine qbx ?_;refine A0 oK ?_;refine zed (d:=12) rfl (uh (by show ¬((8:Int)<(size:Int));omega)) ?_;refine CN ?_;refine Cg ?_;refine CSQR ?_;refine qaw ?_;refine aw_mks (T:=u8T) (n:=size) rfl rfl rfl rfl rfl rfl ym ym zcg ze_5 ⟨by omega,by omega,(show(size)*1≤16777216 by omega)⟩ ?_;refine A0 aO ?_;refine CNQQR ?_;refine qaq ?_;refine CNB ?_;refine Lp (ι:=Nat×List UInt8) 1 (fun(k,l)=>((((Fr.none.set 0 (.val u64T n)).set 1 (.val i64T (size:Int))).set 5 (.own 0)).set 15 (.val i64T (size:Int))).set 16 (.val i64T (k:Int))) (fun(k,l)=>Hp.none.set 0 (.row 5 u8T l)) (fun(k,l)=>k≤size∧l.length=size∧∀j,size-k≤j→j<size→l[j]?=(zw n size)[j]?) (fun(k,l)=>size-k) ((0,List.replicate size 0)) (⟨uf _,by simp,fun j h1 h2=>by omega⟩) ?_;intro⟨k,l⟩ hinv;dsimp only at hinv;refine qal ?_;refine Cf (p:=k<size) (fun ht17=>?_) (fun ht17=>?_)
 ·
  obtain⟨x,hx⟩:∃x,l[size-1-k]?=some x:=yo;refine qaL ?_;refine A0 aV ?_;refine CNR ?_;refine A0 mO ?_;refine qbI ?_;refine qbI ?_;refine qaq ?_;refine A0 zoF ?_;refine xi ?_;refine xf ?_;refine A0 (zdc (i:=size-1-k) rfl rfl rfl rfl ym zcP yh) ?_;refine zdF rfl rfl rfl rfl rfl rfl yj (Lens.self _) ty_5 rfl ?_;refine qaV ?_;exact Nx ((k+1,l.set (size-1-k) (zbH (IntL.toI u64T (zaN n (8*k)))))) (⟨by omega,by simp;exact hinv.2.1,zqv ht17 hinv.2.1 hinv.2.2⟩) (by show _<size-k;simp only[];omega)
 refine qa3 ?_;exact zb rfl rfl (zh rfl rfl (zsh hinv.2.1 (by rw[show k=size by omega] at hinv;exact hinv.2.2)))
theorem growNil (n:Nat) (hn:n≤140737488355328):Tells P 155 [.lit (.slice none 0 0),.val i64T (n:Int)] (.fresh 5 u8T []):=by
 refine zc Tryz.func155 rfl rfl rfl (fun ext w hext=>?_);refine zf (d:=1) rfl zt (fun hin1=>?_);refine qap ?_;refine qaN ?_;refine qaT ?_;refine zgs rfl (uh (by show ¬((n:Int)<0);omega)) ?_;refine qb2 ?_;refine A0 mL ?_;refine A0 (zgL rfl rfl zcW) ?_;refine A0 mL ?_;refine qb4 ?_;refine A0 zbh ?_;refine A0 zbh ?_;refine qag ?_;refine qcs ?_;refine zo (p:=0<n) rfl yaJ (fun ht16=>?_) (fun ht16=>?_)
 ·
  refine CR ?_;refine A0 mL ?_;refine A0 mL ?_;refine A0 (zgL rfl rfl zcW) ?_;refine A0 yaO ?_;refine qaw ?_;refine zlr (T:=u8T) (n:=n) rfl rfl rfl rfl rfl rfl yah zcg ze_5 (ui_3) (⟨by assumption,by omega,by omega⟩) ?_;refine A0 mL ?_;refine qb4 ?_;refine A0 (znJ (q:=0) rfl rfl rfl rfl zcP ym yh) ?_;refine A0 aS ?_;refine CNQR ?_;refine A0 mS ?_;refine A0 aS ?_;refine CN ?_;exact zb rfl rfl (zje rfl rfl yA rfl)
 refine CSQR ?_;refine A0 mL ?_;refine A0 aL ?_;refine CN ?_;exact zb rfl rfl (zm rfl)
theorem zaE {α:Type} {ls:List (List α)} {k:Nat} {x:List α} (h:ls[k]?=some x):(ls.take (k+1)).flatten=(ls.take k).flatten++x:=by
  rw[un,h];simp
theorem zdC {α:Type} (ls:List (List α)) (k:Nat):(ls.take k).flatten.length≤ls.flatten.length:=by
  conv=>rhs;rw[←List.take_append_drop k ls,List.flatten_append,ue]
  omega
theorem zgO (ls:List (List UInt8)) (hl:ls.flatten.length≤140737488355328):Tells P 99 [.val (bsl (bsl u8T)) ls] (.fresh 5 u8T ls.flatten):=by
 refine zc Tryz.func99 rfl rfl rfl (fun ext w hext=>?_);refine zf (d:=0) rfl zl (fun hsl0=>?_);refine qbv ?_;refine qam ?_;refine A0 (zO rfl rfl zhf) ?_;refine qa0 ?_;refine Lp (ι:=Nat) 0 (fun (k:Nat)=>(((((Fr.none).set 0 (.val (bsl (bsl u8T)) ls)).set 3 (.val i64T ((ls.take k).flatten.length:Int))).set 9 (.val (bsl (bsl u8T)) ls)).set 10 (.val i64T (ls.length:Int))).set 11 (.val i64T (k:Int))) (fun (k:Nat)=>Hp.none) (fun (k:Nat)=>k≤ls.length) (fun (k:Nat)=>ls.length-k) (0) (uf _) ?_;intro k hinv;refine qal ?_;refine Cf (p:=k<ls.length) (fun ht12=>?_) (fun ht12=>?_)
 ·
  obtain⟨x,hx⟩:∃x,ls[k]?=some x:=⟨_,ub ht12⟩;have hle:=zdC ls (k+1);rw[zaE hx,ue] at hle;refine CSQBQR ?_;refine A0 (zbM rfl rfl rfl zc8 yj) ?_;refine A0 (ze rfl rfl zfl) ?_;refine qaR ?_;refine qaw ?_;refine A0 mX ?_;refine qb4 ?_;refine A0 zdo ?_;refine qag ?_;refine qaT ?_;refine zgs rfl (uh ybb) ?_;refine qaU ?_;refine zj (d:=3) (y:=((ls.take (k+1)).flatten.length:Int)) rfl (by rw[zaE hx,ue];omega) ?_;exact Nx (k+1) ya ya
 refine zj (d:=3) (y:=((ls.flatten.length:Nat):Int)) rfl yN ?_;refine CE ?_;refine qa6 ?_;refine zaT (growNil ls.flatten.length hl) rfl fn_155 ybB rfl rfl rfl ?_;refine A0 aO ?_;refine qaN ?_;refine A0 (zO rfl rfl zhf) ?_;refine qa0 ?_;refine Lp (ι:=Nat) 1 (fun k=>(((Fr.none.set 6 (.own 0)).set 25 (.val (bsl (bsl u8T)) ls)).set 26 (.val i64T (ls.length:Int))).set 27 (.val i64T (k:Int))) (fun k=>Hp.none.set 0 (.row 5 u8T (ls.take k).flatten)) (fun k=>k≤ls.length) (fun k=>ls.length-k) (0) (uf _) ?_;intro k hinv;refine qal ?_;refine Cf (p:=k<ls.length) (fun ht28=>?_) (fun ht28=>?_)
 ·
  obtain⟨x,hx⟩:∃x,ls[k]?=some x:=⟨_,ub ht28⟩;have hle:=zdC ls (k+1);rw[zaE hx,ue] at hle;refine CSQBQR ?_;refine A0 (zbM rfl rfl rfl zc8 yj) ?_;refine A0 (ze rfl rfl zfl) ?_;refine A0 aX ?_;refine CNR ?_;refine A0 mO ?_;refine A0 mX ?_;refine zN rfl rfl rfl rfl rfl rfl rfl zcg ya ?_;refine A0 aO ?_;refine qaV ?_;refine xk ?_;refine zz (n:=0) rfl (zaE hx).symm ?_;exact Nx (k+1) ya ya
 refine qa3 ?_;exact zb rfl rfl (zh rfl rfl yN)
def padZ (n:Nat):Nat:=(64-(n+9)%64)%64
def zeN (b:List UInt8):List UInt8:=(b++128::List.replicate (padZ b.length) 0)++zw (8*zac (IntL.toI i64T (b.length:Int))) 8
theorem zj0 (b:List UInt8):(b++128::List.replicate (padZ b.length) 0).length=b.length+1+padZ b.length:=yA
theorem pad_step {b l:List UInt8} {k:Nat} (hk:k<8) (hl:l.length=b.length+padZ b.length+9) (h:∀j,j<b.length+padZ b.length+1∨b.length+padZ b.length+9-k≤j→l[j]?=(zeN b)[j]?) :
    ∀j,j<b.length+padZ b.length+1∨b.length+padZ b.length+9-(k+1)≤j→(l.set (b.length+padZ b.length+8-k) (zbH (IntL.toI u64T (zaN (8*zac (IntL.toI i64T (b.length:Int))) (8*k)))))[j]?=(zeN b)[j]?:=fun j hj=>by
  rw[List.getElem?_set];by_cases c:b.length+padZ b.length+8-k=j
  · rw[if_pos c,if_pos ya]
    unfold zeN;rw[List.getElem?_append_right (by rw[zj0];omega),zj0];unfold zw;rw[List.getElem?_map,List.getElem?_range ya,Option.map_some];congr 4;omega
  rw[if_neg c];exact h j ya
theorem pad_start {b:List UInt8} {j:Nat} (hj:j<b.length+padZ b.length+1∨b.length+padZ b.length+9-0≤j):([b,[128],List.replicate (padZ b.length+8) 0].flatten)[j]?=(zeN b)[j]?:=by
  unfold zeN;have e:[b,[128],List.replicate (padZ b.length+8) (0:UInt8)].flatten=(b++128::List.replicate (padZ b.length) 0)++List.replicate 8 0:=by
    rw[←List.replicate_append_replicate];simp
  rw[e];have hl:=zj0 b;generalize b++128::List.replicate (padZ b.length) 0=pre at hl;rcases hj with hj|hj
  · rw[List.getElem?_append_left ya,List.getElem?_append_left ya]
  rw[List.getElem?_append_right ya,List.getElem?_append_right ya,hl];rw[List.getElem?_eq_none yA,List.getElem?_eq_none (by unfold zw;simp;omega)]
theorem pad_all {b l:List UInt8} (h:∀j,j<b.length+padZ b.length+1∨b.length+padZ b.length+9-8≤j→l[j]?=(zeN b)[j]?):l=zeN b:=List.ext_getElem? fun j=>h j ya
theorem pad_ok (b:List UInt8) (hb:b.length≤70368744177664):Tells P 157 [.val (sl u8T) b] (.fresh 5 u8T (zeN b)):=by
 have hz:((padZ b.length:Nat):Int)=(64-((b.length:Int)+1+8)%64)%64:=by unfold padZ;omega
 have hz2:padZ b.length<64:=by unfold padZ;omega
 refine zc Tryz.func157 rfl rfl rfl (fun ext w hext=>?_);refine zf (d:=0) rfl zl (fun hsl0=>?_);refine qbv ?_;refine qaw ?_;refine xl ?_;refine A0 zdo ?_;refine A0 zdo ?_;refine qbp ?_;refine A0 zbh ?_;refine qbp ?_;refine qag ?_;refine qba ?_;refine qaW ?_;refine aw_mks (T:=u8T) (n:=padZ b.length+8) rfl rfl rfl rfl rfl rfl ym ym zcg ze_5 ⟨by omega,by omega,(show(padZ b.length+8)*1≤16777216 by omega)⟩ ?_;refine aw_pub (d:=17) rfl rfl ?_;refine A0 (zL (T:=(sl u8T)) (xs:=[_,_,_]) rfl zc8 zcz yaf rfl rfl) ?_;refine zaT (zgO [b,[128],List.replicate (padZ b.length+8) 0] yA) rfl fn_99 yd rfl rfl rfl ?_;refine A0 aO ?_;refine CNQQR ?_;refine qa0 ?_;refine Lp (ι:=Nat×List UInt8) 2 (fun(k,l)=>((Fr.none.set 0 (.val (sl u8T) b)).set 4 (.own 1)).set 20 (.val i64T (k:Int))) (fun(k,l)=>Hp.none.set 1 (.row 5 u8T l)) (fun(k,l)=>k≤8∧l.length=b.length+padZ b.length+9∧∀j,j<b.length+padZ b.length+1∨b.length+padZ b.length+9-k≤j→l[j]?=(zeN b)[j]?) (fun(k,l)=>8-k) ((0,[b,[128],List.replicate (padZ b.length+8) 0].flatten)) (⟨uf _,by simp;omega,fun j h=>pad_start h⟩) ?_;intro⟨k,l⟩ hinv;dsimp only at hinv;refine qal ?_;refine Cf (p:=k<8) (fun ht21=>?_) (fun ht21=>?_)
 ·
  obtain⟨x,hx⟩:∃x,l[b.length+padZ b.length+8-k]?=some x:=yo;refine qaL ?_;refine A0 aV ?_;refine CNR ?_;refine A0 mO ?_;refine A0 mO ?_;refine A0 (zaV rfl rfl rfl zcW) ?_;refine A0 zbh ?_;refine qbI ?_;refine qaw ?_;refine xl ?_;refine A0 (zi2 rfl (zou) (us_3) rfl) ?_;refine A0 (zk6 rfl rfl rfl) ?_;refine qaw ?_;refine A0 zoF ?_;refine xi ?_;refine xf ?_;refine A0 (zdc (i:=b.length+padZ b.length+8-k) rfl rfl rfl rfl ym zcP yh) ?_;refine zdF rfl rfl rfl rfl rfl rfl yj (Lens.self _) ty_5 rfl ?_;refine qaV ?_;exact Nx ((k+1,l.set (b.length+padZ b.length+8-k) (zbH (IntL.toI u64T (zaN (8*zac (IntL.toI i64T (b.length:Int))) (8*k)))))) (⟨by omega,by simp;exact hinv.2.1,pad_step ht21 hinv.2.1 hinv.2.2⟩) (by show _<8-k;simp only[];omega)
 refine qa3 ?_;exact zb rfl rfl (zh rfl rfl (pad_all (by rw[show k=8 by omega] at hinv;exact hinv.2.2)))
def putIn (x:In):List UInt8:=x.tx++[zbH (IntL.toI i64T x.i)]
def zu3 (o:Out):List UInt8:=zw (zac (IntL.toI i64T o.v)) 6++[zbH (IntL.toI i64T o.to)]
def zlK (t:Tx) (k:Nat):List UInt8:=zbH (IntL.toI i64T (t.ins.length:Int))::((t.ins.take k).map putIn).flatten
def zgl (t:Tx) (k:Nat):List UInt8:=zlK t t.ins.length++[zbH (IntL.toI i64T (t.outs.length:Int))]++((t.outs.take k).map zu3).flatten
def putTx (t:Tx):List UInt8:=zgl t t.outs.length
theorem zni {t:Tx} {k:Nat} {x:In} (h:t.ins[k]?=some x):zlK t (k+1)=zlK t k++x.tx++[zbH (IntL.toI i64T x.i)]:=by
  unfold zlK;rw[un,h];simp[putIn]
theorem zlJ {t:Tx} {k:Nat} {x:Out} (h:t.outs[k]?=some x):zgl t (k+1)=zgl t k++zw (zac (IntL.toI i64T x.v)) 6++[zbH (IntL.toI i64T x.to)]:=by
  unfold zgl;rw[un,h];simp[zu3]
theorem fact_in {U N:Nat→Prop} {w:World} {x:In} {cs:List Value} (h:inT.rel U N w x cs):x.tx.length=32:=by
  obtain⟨c1,c2,_,h1,_⟩:=h;exact h1.1
theorem zP (n:UInt64) (s:Nat):(zw n s).length=s:=by simp[zw]
theorem zff {t:Tx} (h:zeh t=true):t.ins.length≤3∧0<t.outs.length∧t.outs.length≤3:=by
  unfold zeh at h;simp only[uk,uj] at h;exact⟨h.2.1,h.2.2.1,h.2.2.2.1⟩
theorem put_ok (t:Tx):Tells P 163 [.val txT t] (.tup2 (.fresh 5 u8T (if zeh t=true then putTx t else [])) (.val zn (zeh t))):=by
 refine zc Tryz.func163 rfl rfl rfl (fun ext w hext=>?_);refine qai ?_;refine A0 aL ?_;refine qce ?_;refine qcb ?_;refine A0 (oCl (zqA _) rfl fn_170 yd) ?_;refine qbj ?_;refine zo (p:=¬zeh t=true) rfl yB (fun ht11=>?_) (fun ht11=>?_)
 ·
  refine qbe ?_;exact zU rfl rfl (by rw[if_neg ht11];exact zm rfl) (za rfl (by simpa using ht11))
 have hmay:=ua ht11;obtain⟨hmi,hm0,hmo⟩:=zff hmay;refine CSQR ?_;refine qbf ?_;refine A0 (zhh rfl (ui_5) (us_3) rfl) ?_;refine zb0 (T:=u8T) (xs:=[_]) rfl rfl rfl rfl zcP zcg yx rfl rfl ?_;refine A0 aO ?_;refine CNQQR ?_;refine qbf ?_;refine qa0 ?_;refine Lp (ι:=Nat) 2 (fun k=>((((Fr.none.set 1 (.ptr 0 0)).set 4 (.own 1)).set 18 (.val (sl inT) t.ins)).set 19 (.val i64T (t.ins.length:Int))).set 20 (.val i64T (k:Int))) (fun k=>(Hp.none.set 0 (.box 124 txT t)).set 1 (.row 5 u8T (zlK t k))) (fun k=>k≤t.ins.length∧(zlK t k).length=33*k+1) (fun k=>t.ins.length-k) (0) (⟨uf _,by simp[zlK]⟩) ?_;intro k hinv;obtain⟨hk,hpl⟩:=hinv;have hinv:=And.intro hk hpl;refine qal ?_;refine Cf (p:=k<t.ins.length) (fun ht21=>?_) (fun ht21=>?_)
 ·
  obtain⟨x,hx⟩:∃x,t.ins[k]?=some x:=⟨_,ub ht21⟩;refine CSQBQR ?_;refine qbZ ?_;refine zg rfl rfl rfl rfl rfl (Lens.self _) zdx rfl ?_;refine CN ?_;refine aw_factb (n:=2) rfl fact_in (fun hx32=>?_);refine zC [some 1,some 1,some 1,none,some 2,some 2,some 2,some 2,none,some 1] mixed yc ?_;refine X0 mO ?_;refine X0 (oFp zhn) ?_;refine X0 (znH rfl rfl zjz rfl rfl) ?_;refine XK.e (fun fr' hfr kk H=>by exact zuj rfl rfl rfl rfl ((hfr 24 yc).trans rfl) rfl ((hfr 26 yc).trans rfl) rfl zlv zcg (by show(_+x.tx.length)*1≤_∧_+x.tx.length≤_;omega) (zr H)) ?_;refine XK.g2 (zf3 rfl rfl zdX rfl) (zf3 rfl rfl zdX rfl) rfl rfl rfl ?_;refine XK.gb (t:=28) rfl rfl (fun _ he=>zs rfl rfl he zkG ty_3) rfl yx rfl rfl rfl ?_;refine XK.g2 (zhh rfl (ui_5) (us_3) rfl) (zhh rfl (ui_5) (us_3) rfl) rfl rfl rfl ?_;refine XK.g2 (zL (T:=u8T) (xs:=[_]) rfl zcP zcg yx rfl rfl) (zL (T:=u8T) (xs:=[_]) rfl zcP zcg yx rfl rfl) rfl rfl rfl ?_;refine XK.e (fun fr' hfr kk H=>by exact zN rfl rfl rfl rfl ((hfr 27 yc).trans rfl) rfl ((hfr 31 yc).trans rfl) zcg (by simp only[ue,List.length_cons,List.length_nil,hx32];omega) (zr H)) ?_;refine X0 aO ?_;refine qaI ?_;refine zaS 4 1 5 rfl rfl rfl rfl rfl rfl ?_;refine zz (n:=1) rfl (zni hx).symm ?_;exact Nx (k+1) (⟨by omega,by rw[zni hx];simp only[ue,List.length_cons,List.length_nil,hx32];omega⟩) ya
 obtain rfl:k=t.ins.length:=ya;obtain⟨hli,_⟩:=hinv;refine CE ?_;refine qb3 ?_;refine A0 (oFp zes) ?_;refine A0 (oLb zd4 ziW) ?_;refine A0 (zO rfl rfl zeO) ?_;refine A0 (zhh rfl (ui_5) (us_3) rfl) ?_;refine qba ?_;refine zN rfl rfl rfl rfl rfl rfl rfl zcg (by simp only[ue,List.length_cons,List.length_nil];omega) ?_;refine A0 aO ?_;refine CNQQR ?_;refine A0 (oFp zes) ?_;refine A0 (oLb zd4 ziW) ?_;refine A0 (zO rfl rfl zeO) ?_;refine qa0 ?_;refine zaS 2 1 3 rfl rfl rfl rfl rfl rfl ?_;refine zz (y:=zgl t 0) (n:=1) rfl (by simp[zgl]) ?_;refine Lp (ι:=Nat) 2 (fun k=>((((Fr.none.set 1 (.ptr 0 0)).set 4 (.own 1)).set 42 (.val (sl outT) t.outs)).set 43 (.val i64T (t.outs.length:Int))).set 44 (.val i64T (k:Int))) (fun k=>(Hp.none.set 0 (.box 124 txT t)).set 1 (.row 5 u8T (zgl t k))) (fun k=>k≤t.outs.length∧(zgl t k).length=7*k+2+33*t.ins.length) (fun k=>t.outs.length-k) (0) (⟨uf _,by simp[zgl,hpl];omega⟩) ?_;intro k hinv;refine qal ?_;refine Cf (p:=k<t.outs.length) (fun ht45=>?_) (fun ht45=>?_)
 ·
  obtain⟨x,hx⟩:∃x,t.outs[k]?=some x:=⟨_,ub ht45⟩;refine CSQBQR ?_;refine qbY ?_;refine zg rfl rfl rfl rfl rfl (Lens.self _) zhM rfl ?_;refine CN ?_;refine zC [some 1,some 1,some 1,some 1,some 1,none,some 2,some 2,some 2,some 2,none,some 1] mixed yc ?_;refine X0 mO ?_;refine X0 (oFp ze4) ?_;refine X0 (oLb zit ty_3) ?_;refine X0 (zi2 rfl (zou) (us_3) rfl) ?_;refine X0 (oCl (zB (zky _ 6 yn)) rfl zvJ yi) ?_;refine XK.e (fun fr' hfr kk H=>by exact zN rfl rfl rfl rfl ((hfr 48 yc).trans rfl) rfl ((hfr 52 yc).trans rfl) zcg (by simp only[ue,List.length_cons,List.length_nil,zP];omega) (zr H)) ?_;refine XK.g2 (zf3 rfl rfl zf6 rfl) (zf3 rfl rfl zf6 rfl) rfl rfl rfl ?_;refine XK.gb (t:=54) rfl rfl (fun _ he=>zs rfl rfl he ziQ ty_3) rfl yx rfl rfl rfl ?_;refine XK.g2 (zhh rfl (ui_5) (us_3) rfl) (zhh rfl (ui_5) (us_3) rfl) rfl rfl rfl ?_;refine XK.g2 (zL (T:=u8T) (xs:=[_]) rfl zcP zcg yx rfl rfl) (zL (T:=u8T) (xs:=[_]) rfl zcP zcg yx rfl rfl) rfl rfl rfl ?_;refine XK.e (fun fr' hfr kk H=>by exact zN rfl rfl rfl rfl ((hfr 53 yc).trans rfl) rfl ((hfr 57 yc).trans rfl) zcg (by simp only[ue,List.length_cons,List.length_nil,zP];omega) (zr H)) ?_;refine X0 aO ?_;refine qaI ?_;refine zaS 4 1 5 rfl rfl rfl rfl rfl rfl ?_;refine zz (n:=1) rfl (zlJ hx).symm ?_;exact Nx (k+1) (⟨by omega,by rw[zlJ hx];simp only[ue,List.length_cons,List.length_nil,zP];omega⟩) ya
 refine CE ?_;refine qb3 ?_;refine qcc ?_;exact zU rfl rfl (zh rfl rfl (by rw[if_pos hmay,show k=t.outs.length by omega];rfl)) (za rfl hmay.symm)
def rr (x:UInt32) (n:Int):UInt32:=rotl x (IntKind.i64.wrap (0-n))
def beWord (x0 x1 x2 x3:UInt8):UInt32:=shl32 (zjG (IntL.toI u8T x0)) 24|||shl32 (zjG (IntL.toI u8T x1)) 16|||shl32 (zjG (IntL.toI u8T x2)) 8|||zjG (IntL.toI u8T x3)
def zrW (a b x y:UInt32):UInt32:=a+b+(rr x 7^^^rr x 18^^^zoy x 3)+(rr y 17^^^rr y 19^^^zoy y 10)
def zjQ (b:List UInt8) (w:List UInt32) (i:Nat):List UInt32 :=
  if i<16 then w.set i (beWord (b.getD (4*i) default) (b.getD (4*i+1) default) (b.getD (4*i+2) default) (b.getD (4*i+3) default))
  else w.set i (zrW (w.getD (i-16) default) (w.getD (i-7) default) (w.getD (i-15) default) (w.getD (i-2) default))
def zd9 (b:List UInt8) (k:Nat):List UInt32:=(List.range k).foldl (zjQ b) (List.replicate 64 0)
def roundX (v w:List UInt32) (i:Nat):UInt32:=v.getD 7 default+(rr (v.getD 4 default) 6^^^rr (v.getD 4 default) 11^^^rr (v.getD 4 default) 25)+((v.getD 4 default&&&v.getD 5 default)^^^(~~~ (v.getD 4 default)&&&v.getD 6 default))+shaK.getD i default+w.getD i default
def roundY (v:List UInt32):UInt32:=(rr (v.getD 0 default) 2^^^rr (v.getD 0 default) 13^^^rr (v.getD 0 default) 22)+((v.getD 0 default&&&v.getD 1 default)^^^(v.getD 0 default&&&v.getD 2 default)^^^(v.getD 1 default&&&v.getD 2 default))
def zr4 (w v:List UInt32) (i:Nat):List UInt32:=[roundX v w i+roundY v,v.getD 0 default,v.getD 1 default,v.getD 2 default,v.getD 3 default+roundX v w i,v.getD 4 default,v.getD 5 default,v.getD 6 default]
def zlG (w s:List UInt32) (k:Nat):List UInt32:=(List.range k).foldl (zr4 w) s
def sumN (v s:List UInt32) (k:Nat):List UInt32:=(List.range k).foldl (fun s i=>s.set i (s.getD i default+v.getD i default)) s
def addOf (s:List UInt32) (b:List UInt8):List UInt32:=sumN (zlG (zd9 b 64) s 64) s 8
theorem zdU {α:Type} {f:α→Nat→α} {z:α} {k:Nat}:(List.range (k+1)).foldl f z=f ((List.range k).foldl f z) k:=by rw[List.range_succ,List.foldl_append];rfl
theorem sched_lo {b:List UInt8} {k:Nat} {x0 x1 x2 x3:UInt8} (hk:k<16) (h0:b[4*k]?=some x0) (h1:b[4*k+1]?=some x1) (h2:b[4*k+2]?=some x2) (h3:b[4*k+3]?=some x3):(zd9 b k).set k (beWord x0 x1 x2 x3)=zd9 b (k+1):=by
  unfold zd9;rw[zdU];unfold zjQ;rw[if_pos hk];simp only[uq,h0,h1,h2,h3,Option.getD_some]
theorem sched_hi {b:List UInt8} {k:Nat} (hk:¬k<16):(zd9 b k).set k (zrW ((zd9 b k).getD (k-16) default) ((zd9 b k).getD (k-7) default) ((zd9 b k).getD (k-15) default) ((zd9 b k).getD (k-2) default))=zd9 b (k+1):=by
  have e:zd9 b (k+1)=zjQ b (zd9 b k) k:=zdU;rw[e];unfold zjQ;rw[if_neg hk]
theorem zpd {w s:List UInt32} {k:Nat}:zr4 w (zlG w s k) k=zlG w s (k+1):=zdU.symm
theorem sum_succ {v s:List UInt32} {k:Nat} {x:UInt32} (h:v[k]?=some x):(sumN v s k).set k ((sumN v s k).getD k default+x)=sumN v s (k+1):=by
  have e:sumN v s (k+1)=_:=zdU;rw[e];show _=(sumN v s k).set k ((sumN v s k).getD k default+v.getD k default);rw[uq (l:=v),h];rfl
theorem roundN_len {w s:List UInt32} (hs:s.length=8):∀k,(zlG w s k).length=8
  | 0=>hs
  | k+1=>by rw[←zpd];rfl
theorem add_ok (s:List UInt32) (b:List UInt8) (hb:b.length=64) (hs:s.length=8):zee P 158 (.box 257 (arrT 8 yn u32T) s) [.ptr 0 0,.val (bsl u8T) b] (.lit (.tuple #[])) (.box 257 (arrT 8 yn u32T) (addOf s b)):=by
 refine zeD trivial Tryz.func158 rfl rfl ⟨Nat.one_pos,⟨trivial,trivial⟩⟩ (fun ext pg w hext hgr=>?_);refine zf (d:=1) rfl zl (fun hsl1=>?_);refine CQR ?_;refine zq zut rfl rfl rfl rfl ?_;refine CNQQR ?_;refine qa0 ?_;refine Lp (ι:=Nat) 2 (fun (k:Nat)=>((((Fr.none).set 0 (.ptr 0 0)).set 1 (.val (bsl u8T) b)).set 4 (.ptr 1 0)).set 17 (.val i64T (k:Int))) (fun (k:Nat)=>((Hp.none).set 0 (.box 257 (arrT 8 yn u32T) s)).set 1 (.box 296 (arrT 64 yn u32T) (zd9 b k))) (fun (k:Nat)=>k≤64) (fun (k:Nat)=>64-k) (0) (uf _) ?_;intro k hinv;refine qal ?_;refine Cf (p:=k<64) (fun ht18=>?_) (fun ht18=>?_)
 ·
  refine qaL ?_;refine qam ?_;refine qaT ?_;refine Cf (p:=k<16) (fun ht21=>?_) (fun ht21=>?_)
  ·
   obtain⟨x0,hx0⟩:∃x,b[4*k]?=some x:=yo;obtain⟨x1,hx1⟩:∃x,b[4*k+1]?=some x:=yo;obtain⟨x2,hx2⟩:∃x,b[4*k+2]?=some x:=yo;obtain⟨x3,hx3⟩:∃x,b[4*k+3]?=some x:=yo;refine CQ ?_;refine zC [some 1,some 1,some 1,some 1,some 1,some 1,some 1,some 1,some 1,some 1,some 1,some 1,some 1,some 1,some 1,some 1,some 1,some 1,some 1,some 1,some 1,some 1,some 1,some 1,some 1,some 1,some 1,some 1,some 1,some 1,some 1,some 1,some 1,some 1,some 1,none] mixed yc ?_;refine qb9 ?_;refine X0 mV ?_;refine X0 zoF ?_;refine X0 (zR (i:=4*k) rfl rfl rfl ya zcP yj) ?_;refine X0 (ze rfl rfl ty_5) ?_;refine X0 (zsB rfl (ui_30) (us_5) rfl) ?_;refine X0 (zqH rfl rfl rfl yg rfl) ?_;refine qb9 ?_;refine X0 zoF ?_;refine X0 zdo ?_;refine X0 (zR (i:=4*k+1) rfl rfl rfl ya zcP yj) ?_;refine X0 (ze rfl rfl ty_5) ?_;refine X0 (zsB rfl (ui_30) (us_5) rfl) ?_;refine X0 (zqH rfl rfl rfl yg rfl) ?_;refine X0 (zvx rfl rfl rfl) ?_;refine qb9 ?_;refine X0 zoF ?_;refine X0 zdo ?_;refine X0 (zR (i:=4*k+2) rfl rfl rfl ya zcP yj) ?_;refine X0 (ze rfl rfl ty_5) ?_;refine X0 (zsB rfl (ui_30) (us_5) rfl) ?_;refine X0 (zqH rfl rfl rfl yg rfl) ?_;refine X0 (zvx rfl rfl rfl) ?_;refine qb9 ?_;refine X0 zoF ?_;refine X0 zdo ?_;refine X0 (zR (i:=4*k+3) rfl rfl rfl ya zcP yj) ?_;refine X0 (ze rfl rfl ty_5) ?_;refine X0 (zsB rfl (ui_30) (us_5) rfl) ?_;refine X0 (zvx rfl rfl rfl) ?_;refine X0 (zT (i:=k) rfl rfl rfl ym zkD ya) ?_;refine XK.e (x:=.idk) (fun fr' hfr kk H=>by exact zg rfl rfl rfl ((hfr 56 yc).trans rfl) rfl (Lens.elem (i:=k) ya u32T) zbS ((hfr 55 yc).trans rfl) (zr H)) ?_;refine XK.nil' ?_;refine CE ?_;refine CR ?_;refine qah ?_;refine z8 (n:=1) rfl (sched_lo ht21 hx0 hx1 hx2 hx3) ?_;exact Nx (k+1) ya ya
  refine CS ?_;refine qbc ?_;refine G0 mV ?_;refine G0 zbh ?_;refine G0 (zT (i:=k-15) rfl rfl rfl ym zkD ya) ?_;refine G0 (zs rfl rfl rfl (Lens.elem (i:=k-15) ya u32T) zbS) ?_;refine G0 mV ?_;refine G0 zbh ?_;refine G0 (zT (i:=k-2) rfl rfl rfl ym zkD ya) ?_;refine G0 (zs rfl rfl rfl (Lens.elem (i:=k-2) ya u32T) zbS) ?_;refine G0 aV ?_;refine qbB ?_;refine zC [some 1,some 1,some 1,some 1,some 1,some 1,some 1,some 1,some 1,some 1,some 1,some 1,some 1,some 1,some 1,some 1,some 1,some 1,some 1,some 1,some 1,some 1,some 1,some 1,some 1,some 1,some 1,some 1,some 1,none] mixed yc ?_;refine qb9 ?_;refine X0 zbh ?_;refine X0 (zT (i:=k-16) rfl rfl rfl ym zkD ya) ?_;refine X0 (zs rfl rfl rfl (Lens.elem (i:=k-16) ya u32T) zbS) ?_;refine X0 mV ?_;refine X0 zbh ?_;refine X0 (zT (i:=k-7) rfl rfl rfl ym zkD ya) ?_;refine X0 (zs rfl rfl rfl (Lens.elem (i:=k-7) ya u32T) zbS) ?_;refine X0 (zfA rfl rfl rfl) ?_;refine qbR ?_;refine qbR ?_;refine X0 (zfy rfl rfl rfl) ?_;refine X0 mV ?_;refine X0 (znI rfl rfl rfl yg rfl) ?_;refine X0 (zfy rfl rfl rfl) ?_;refine X0 (zfA rfl rfl rfl) ?_;refine qbR ?_;refine qbR ?_;refine X0 (zfy rfl rfl rfl) ?_;refine X0 mV ?_;refine X0 (znI rfl rfl rfl yg rfl) ?_;refine X0 (zfy rfl rfl rfl) ?_;refine X0 (zfA rfl rfl rfl) ?_;refine X0 (zT (i:=k) rfl rfl rfl ym zkD ya) ?_;refine XK.e (x:=.idk) (fun fr' hfr kk H=>by exact zg rfl rfl rfl ((hfr 93 yc).trans rfl) rfl (Lens.elem (i:=k) ya u32T) zbS ((hfr 92 yc).trans rfl) (zr H)) ?_;refine qaI ?_;refine z8 (n:=1) rfl (sched_hi ht21) ?_;exact Nx (k+1) ya ya
 obtain rfl:k=64:=ya;refine CE ?_;refine CQR ?_;refine A0 (oCl (numbers_ok) rfl fn_195 trivial) ?_;refine zq zut rfl rfl rfl rfl ?_;refine zg rfl rfl rfl rfl rfl (Lens.self _) ty_296 rfl ?_;refine CNQR ?_;refine qbE ?_;refine A0 (oLs rfl rfl rfl zuE) ?_;refine zq ze_257 rfl rfl rfl rfl ?_;refine zg rfl rfl rfl rfl rfl (Lens.self _) zuE rfl ?_;refine CNQQR ?_;refine qa0 ?_;refine Lp (ι:=Nat) 4 (fun k=>((((Fr.none.set 0 (.ptr 0 0)).set 4 (.ptr 1 0)).set 8 (.ptr 2 0)).set 9 (.ptr 3 0)).set 99 (.val i64T (k:Int))) (fun k=>(((Hp.none.set 0 (.box 257 (arrT 8 yn u32T) s)).set 1 (.box 296 (arrT 64 yn u32T) (zd9 b 64))).set 2 (.box 296 (arrT 64 yn u32T) shaK)).set 3 (.box 257 (arrT 8 yn u32T) (zlG (zd9 b 64) s k))) (fun k=>k≤64) (fun k=>64-k) (0) (uf _) ?_;intro k hinv;refine qal ?_;refine Cf (p:=k<64) (fun ht100=>?_) (fun ht100=>?_)
 ·
  refine qaL ?_;refine qcj ?_;refine G0 (zT (i:=0) rfl rfl rfl ym zdJ ya) ?_;refine G0 (zs rfl rfl rfl (Lens.elem (i:=0) ya u32T) zbS) ?_;refine G0 (zT (i:=4) rfl rfl rfl ym zdJ ya) ?_;refine G0 (zs rfl rfl rfl (Lens.elem (i:=4) ya u32T) zbS) ?_;refine G0 aV ?_;refine qbB ?_;refine qbc ?_;refine G0 (zT (i:=7) rfl rfl rfl ym zdJ ya) ?_;refine G0 (zs rfl rfl rfl (Lens.elem (i:=7) ya u32T) zbS) ?_;refine qbg ?_;refine qbg ?_;refine G0 (zfy rfl rfl rfl) ?_;refine qbg ?_;refine G0 (zfy rfl rfl rfl) ?_;refine G0 (zfA rfl rfl rfl) ?_;refine G0 mV ?_;refine G0 (zT (i:=5) rfl rfl rfl ym zdJ ya) ?_;refine G0 (zs rfl rfl rfl (Lens.elem (i:=5) ya u32T) zbS) ?_;refine G0 (zla rfl rfl rfl) ?_;refine G0 mV ?_;refine G0 (g_not32 rfl rfl) ?_;refine G0 (zT (i:=6) rfl rfl rfl ym zdJ ya) ?_;refine G0 (zs rfl rfl rfl (Lens.elem (i:=6) ya u32T) zbS) ?_;refine G0 (zla rfl rfl rfl) ?_;refine G0 (zfy rfl rfl rfl) ?_;refine G0 (zfA rfl rfl rfl) ?_;refine G0 mV ?_;refine G0 (zT (i:=k) rfl rfl rfl ym zkD ya) ?_;refine G0 (zs rfl rfl rfl (Lens.elem (i:=k) ya u32T) zbS) ?_;refine G0 (zfA rfl rfl rfl) ?_;refine G0 mV ?_;refine G0 (zT (i:=k) rfl rfl rfl ym zkD ya) ?_;refine G0 (zs rfl rfl rfl (Lens.elem (i:=k) ya u32T) zbS) ?_;refine G0 (zfA rfl rfl rfl) ?_;refine qbB ?_;refine qbc ?_;refine qbg ?_;refine qbg ?_;refine G0 (zfy rfl rfl rfl) ?_;refine qbg ?_;refine G0 (zfy rfl rfl rfl) ?_;refine G0 mV ?_;refine G0 (zT (i:=1) rfl rfl rfl ym zdJ ya) ?_;refine G0 (zs rfl rfl rfl (Lens.elem (i:=1) ya u32T) zbS) ?_;refine G0 (zla rfl rfl rfl) ?_;refine G0 mV ?_;refine G0 (zT (i:=2) rfl rfl rfl ym zdJ ya) ?_;refine G0 (zs rfl rfl rfl (Lens.elem (i:=2) ya u32T) zbS) ?_;refine G0 (zla rfl rfl rfl) ?_;refine G0 (zfy rfl rfl rfl) ?_;refine G0 (zT (i:=1) rfl rfl rfl ym zdJ ya) ?_;refine G0 (zs rfl rfl rfl (Lens.elem (i:=1) ya u32T) zbS) ?_;refine G0 (zT (i:=2) rfl rfl rfl ym zdJ ya) ?_;refine G0 (zs rfl rfl rfl (Lens.elem (i:=2) ya u32T) zbS) ?_;refine G0 (zla rfl rfl rfl) ?_;refine G0 (zfy rfl rfl rfl) ?_;refine G0 (zfA rfl rfl rfl) ?_;refine qbB ?_;refine CR ?_;refine qaq ?_;refine A0 (zfA rfl rfl rfl) ?_;refine qaw ?_;refine A0 (zT (i:=1) rfl rfl rfl ym zdJ ya) ?_;refine A0 (zs rfl rfl rfl (Lens.elem (i:=1) ya u32T) zbS) ?_;refine A0 (zT (i:=2) rfl rfl rfl ym zdJ ya) ?_;refine A0 (zs rfl rfl rfl (Lens.elem (i:=2) ya u32T) zbS) ?_;refine A0 (zT (i:=3) rfl rfl rfl ym zdJ ya) ?_;refine A0 (zs rfl rfl rfl (Lens.elem (i:=3) ya u32T) zbS) ?_;refine qaw ?_;refine A0 (zfA rfl rfl rfl) ?_;refine qaw ?_;refine A0 (zT (i:=5) rfl rfl rfl ym zdJ ya) ?_;refine A0 (zs rfl rfl rfl (Lens.elem (i:=5) ya u32T) zbS) ?_;refine A0 (zT (i:=6) rfl rfl rfl ym zdJ ya) ?_;refine A0 (zs rfl rfl rfl (Lens.elem (i:=6) ya u32T) zbS) ?_;refine A0 (zkh (T:=u32T) (xs:=[_,_,_,_,_,_,_,_]) rfl zdJ ze_257 yaw rfl) ?_;refine zg rfl rfl rfl rfl rfl (Lens.self _) zuE rfl ?_;refine qaV ?_;refine z8 (n:=3) rfl zpd ?_;exact Nx (k+1) ya ya
 obtain rfl:k=64:=ya;refine CE ?_;refine CQR ?_;refine A0 (oLs rfl rfl rfl zuE) ?_;refine qa0 ?_;refine Lp (ι:=Nat) 1 (fun (k:Nat)=>(((Fr.none).set 0 (.ptr 0 0)).set 179 (.val (arrT 8 yn u32T) (zlG (zd9 b 64) s 64))).set 180 (.val i64T (k:Int))) (fun (k:Nat)=>(Hp.none).set 0 (.box 257 (arrT 8 yn u32T) (sumN (zlG (zd9 b 64) s 64) s k))) (fun (k:Nat)=>k≤8) (fun (k:Nat)=>8-k) (0) (uf _) ?_;intro k hinv;refine qal ?_;refine Cf (p:=k<8) (fun ht181=>?_) (fun ht181=>?_)
 ·
  obtain⟨x,hx⟩:∃x,(zlG (zd9 b 64) s 64)[k]?=some x:=⟨_,ub (by rw[roundN_len hs];exact ht181)⟩;refine qaL ?_;refine A0 (znK rfl rfl rfl rfl zdJ zbS yj) ?_;refine qbu ?_;refine xm ?_;refine X0 mP ?_;refine X0 mV ?_;refine xe ?_;refine X0 (zT (i:=k) rfl rfl rfl ym zdJ ya) ?_;refine X0 (zs rfl rfl rfl (Lens.elem (i:=k) ya u32T) zbS) ?_;refine X0 mV ?_;refine X0 (zfA rfl rfl rfl) ?_;refine xe ?_;refine X0 (zT (i:=k) rfl rfl rfl ym zdJ ya) ?_;refine XK.e (x:=.idk) (fun fr' hfr kk H=>by exact zg rfl rfl rfl ((hfr 192 yc).trans rfl) rfl (Lens.elem (i:=k) ya u32T) zbS ((hfr 190 yc).trans rfl) (zr H)) ?_;refine qaI ?_;refine z8 (n:=0) rfl (sum_succ hx) ?_;exact Nx (k+1) ya ya
 obtain rfl:k=8:=ya;refine CE ?_;exact zoh rfl rfl rfl rfl rfl (zbK rfl rfl)
theorem padOf_len (b:List UInt8):(zeN b).length=64*((b.length+padZ b.length+9)/64):=by
  have h:(zeN b).length=b.length+padZ b.length+9:=by
    unfold zeN;rw[ue,zj0];unfold zw;simp;omega
  rw[h];unfold padZ;omega
def shaH:List UInt32:=[1779033703,3144134277,1013904242,2773480762,1359893119,2600822924,528734635,1541459225]
def shaN (p:List UInt8) (n:Nat):List UInt32:=(List.range n).foldl (fun s i=>addOf s ((p.take (64*i+64)).drop (64*i))) shaH
def zuO (b:List UInt8):List UInt32:=shaN (zeN b) ((zeN b).length/64)
def zm7 (v:List UInt32) (i:Nat):UInt8:=zbH (IntL.toI u32T (zoy (v.getD (i/4) default) (24-8*(i%4))))
def zfr (b:List UInt8):Ab.Id:=(List.range 32).map (zm7 (zuO b))
def zm6 (v:List UInt32) (k:Nat):Ab.Id:=(List.range k).foldl (fun l i=>l.set i (zm7 v i)) zId
theorem zid {α:Type} (f:Nat→α) (l:List α):∀k j,((List.range k).foldl (fun l i=>l.set i (f i)) l)[j]?=if j<k∧j<l.length then some (f j) else l[j]?
  | 0,j=>by simp
  | k+1,j=>by
    rw[List.range_succ,List.foldl_append];show(List.set _ k (f k))[j]?=_;have hl:∀k,((List.range k).foldl (fun l i=>l.set i (f i)) l).length=l.length:=fun k=>by
      induction k with
      | zero=>rfl
      | succ k ih=>rw[List.range_succ,List.foldl_append];simp only[List.foldl_cons,List.foldl_nil,List.length_set];exact ih
    rw[List.getElem?_set,zid f l k j,hl];by_cases c:k=j
    · subst c
      by_cases d:k<l.length
      · simp[d]
      simp[d]
    rw[if_neg c];by_cases d:j<k
    · have:j<k+1:=by omega
      simp[d,this]
    have:¬j<k+1:=ya
    simp[d,this]
theorem shaOut_all (v:List UInt32):zm6 v 32=(List.range 32).map (zm7 v):=by
  apply List.ext_getElem?;intro j;unfold zm6;rw[zid,List.getElem?_map];have hz:zId.length=32:=rfl;rw[hz];by_cases c:j<32
  · rw[if_pos ⟨c,c⟩,List.getElem?_range c];rfl
  rw[if_neg (fun h=>c h.1),List.getElem?_eq_none (by first|(rw[hz];omega)|(rw[List.length_range];omega)),List.getElem?_eq_none (by first|(rw[hz];omega)|(rw[List.length_range];omega))];rfl
theorem zty {v:List UInt32} {k:Nat} {x:UInt8} (h:x=zm7 v k):(zm6 v k).set k x=zm6 v (k+1):=by
  subst h;unfold zm6;rw[List.range_succ,List.foldl_append];rfl
theorem zrT {p:List UInt8} {k:Nat}:addOf (shaN p k) ((p.take (64*k+64)).drop (64*k))=shaN p (k+1):=by
  unfold shaN;rw[List.range_succ,List.foldl_append];rfl
theorem zuI {v s:List UInt32}:∀k,(sumN v s k).length=s.length
  | 0=>rfl
  | k+1=>by
    unfold sumN;rw[List.range_succ,List.foldl_append];simp only[List.foldl_cons,List.foldl_nil,List.length_set];exact zuI k
theorem zuP (p:List UInt8):∀k,(shaN p k).length=8
  | 0=>rfl
  | k+1=>by rw[←zrT];unfold addOf;rw[zuI];exact zuP p k
theorem zuH (b:List UInt8) (hb:b.length≤70368744177664):Tells P 101 [.val (sl u8T) b] (.val idT (zfr b)):=by
 obtain⟨m,hm⟩:∃m,m=(b.length+padZ b.length+9)/64:=⟨_,rfl⟩;have hz2:padZ b.length<64:=by unfold padZ;omega
 have hpl:(zeN b).length=64*m:=by rw[padOf_len,hm]
 have hmb:m≤2000000000000:=ya;refine zc Tryz.func101 rfl rfl rfl (fun ext w hext=>?_);refine zf (d:=0) rfl zl (fun hsl0=>?_);refine qbM ?_;refine A0 (zkh (T:=u32T) (xs:=[_,_,_,_,_,_,_,_]) rfl zdJ ze_257 yaw rfl) ?_;refine xc ?_;refine ziO zp_255 rfl rfl rfl rfl rfl rfl ?_;refine zaB rfl rfl rfl rfl rfl rfl rfl rfl rfl rfl zrE ?_;refine qaN ?_;refine A0 (oCl (zB (pad_ok b hb)) rfl fn_157 yd) ?_;refine zaa rfl rfl rfl rfl Tryz.func156 fn_156 rfl rfl (fun ia2 iok2=>?_);refine qax ?_;refine A0 aL ?_;refine CNQQR ?_;refine A0 (oLs rfl rfl rfl ty_3) ?_;refine qaT ?_;refine zgs rfl yn ?_;refine CSQR ?_;refine xn ?_;refine A0 aC ?_;refine CN ?_;refine zet rfl ?_;refine CNB ?_;refine ziL rfl rfl rfl Tryz.func193 fn_193 rfl rfl yI (fun fid3 ca3 lN3 DN3 cok3 rc3 hrc3=>?_);refine CQR ?_;refine A0 aV ?_;refine CNB ?_;refine Lp (ι:=Nat) 7 (fun (k:Nat)=>((((Fr.none).set 0 (.lit (.func (.yield lN3) #[] #[]))).set 1 (.ptr 3 0)).set 2 (.ptr 4 0)).set 4 (.val i64T ((64*k:Nat):Int))) (fun (k:Nat)=>(((((((Hp.none).set 0 (.box 26 idT zId)).set 1 (.box 257 (arrT 8 yn u32T) (shaN (zeN b) k))).set 2 (.parts 255 [.ptr 1 0])).set 3 (.box 49 (sl u8T) (zeN b))).set 4 (.box 3 i64T 64)).set 5 (.objAt DN3 (.deferred (some [])))).set 6 (.objAt lN3 (rc3 .ready none))) (fun (k:Nat)=>k≤m) (fun (k:Nat)=>m-k) (0) (uf _) ?_;intro k hinv;refine qb5 ?_;refine xo ?_;refine xl ?_;refine qaT ?_;refine Cf (p:=64*k<(zeN b).length) (fun ht9=>?_) (fun ht9=>?_)
 ·
  refine CS ?_;refine CQ ?_;refine CB ?_;refine qbc ?_;refine G0 (oLs rfl rfl rfl ty_3) ?_;refine G0 (oLs rfl rfl rfl zfl) ?_;refine G0 mV ?_;refine G0 (zlR rfl rfl rfl zcP yh) ?_;refine G0 (zO rfl rfl zcW) ?_;refine G0 (g_min rfl rfl rfl) ?_;refine qbB ?_;refine zj (d:=5) (y:=(64:Int)) rfl yA ?_;refine CQR ?_;refine A0 mL ?_;refine xo ?_;refine qaq ?_;refine qaW ?_;refine qaq ?_;refine A0 zdo ?_;refine A0 (zvv rfl rfl rfl rfl rfl zcP yA) ?_;refine zj (d:=28) (y:=((zeN b).take (64*k+64)).drop (64*k)) rfl (by congr 1) ?_;refine ziJ (nL:=6) rfl rfl rfl rfl rfl hrc3 rfl rfl rfl (fun ya4 yok4=>?_);refine CR ?_;refine qad ?_;refine ziN (nL:=6) hrc3 rfl ?_;refine CB ?_;refine CR ?_;refine A0 ybx ?_;refine qaw ?_;refine zgf (add_ok (shaN (zeN b) k) (((zeN b).take (64*k+64)).drop (64*k)) (by rw[List.length_drop,um];omega) (zuP _ k)) rfl fn_158 rfl trivial trivial rfl ybD rfl rfl rfl ?_;refine CN ?_;refine CI ?_;refine zdG (nL:=6) hrc3 rfl ?_;refine qbj ?_;refine Cg ?_;refine CSIR ?_;refine qaw ?_;refine A0 (oLs rfl rfl rfl ty_3) ?_;refine A0 zdo ?_;refine qad ?_;refine zj (d:=4) (y:=((64*(k+1):Nat):Int)) rfl ya ?_;refine z8 (n:=1) (y:=shaN (zeN b) (k+1)) rfl zrT ?_;exact Nx (k+1) ya ya
 obtain rfl:m=k:=ya;refine CE ?_;refine zge (nL:=6) rfl hrc3 rfl yn ?_;refine CI ?_;refine CQR ?_;refine qaF ?_;refine CNQQR ?_;refine qa0 ?_;refine Lp (ι:=Nat) 8 (fun (j:Nat)=>((((Fr.none).set 2 (.ptr 0 0)).set 3 (.ptr 2 0)).set 5 (.ptr 7 0)).set 16 (.val i64T (j:Int))) (fun (j:Nat)=>(((((Hp.none).set 0 (.box 26 idT zId)).set 1 (.box 257 (arrT 8 yn u32T) (shaN (zeN b) m))).set 2 (.parts 255 [.ptr 1 0])).set 5 (.objAt DN3 (.deferred (some [])))).set 7 (.box 26 idT (zm6 (shaN (zeN b) m) j))) (fun (j:Nat)=>j≤32) (fun (j:Nat)=>32-j) (0) (uf _) ?_;intro j hinv;refine qal ?_;refine Cf (p:=j<32) (fun ht17=>?_) (fun ht17=>?_)
 ·
  refine qaL ?_;refine A0 aV ?_;refine CNR ?_;refine qaw ?_;refine A0 ybx ?_;refine qaw ?_;refine qb6 ?_;refine xb ?_;refine A0 (zT (i:=j/4) rfl rfl rfl ym zdJ ya) ?_;refine A0 (zs rfl rfl rfl (Lens.elem (i:=j/4) ya u32T) zbS) ?_;refine qaw ?_;refine qbp ?_;refine A0 zoF ?_;refine A0 zbh ?_;refine A0 (znI rfl rfl rfl yg rfl) ?_;refine A0 (zhh rfl (ui_5) (us_30) rfl) ?_;refine A0 (zT (i:=j) rfl rfl rfl ym zjz ya) ?_;refine zg rfl rfl rfl rfl rfl (Lens.elem (i:=j) ya u8T) ty_5 rfl ?_;refine qaV ?_;refine z8 (n:=7) (y:=zm6 (shaN (zeN b) m) (j+1)) rfl (zty (by unfold zm7;congr 3;simp only[IntL.toI,id_eq];omega)) ?_;exact Nx (j+1) ya ya
 obtain rfl:j=32:=ya;refine CE ?_;refine CQR ?_;refine qb7 ?_;refine qat ?_;refine CN ?_;refine zaD (zb1 (nD:=5) rfl rfl rfl ?_);exact zrh rfl rfl rfl rfl zaA (by rw[shaOut_all];unfold zfr zuO;rw[hpl,Nat.mul_div_cancel_left m yn])
def idOf (t:Tx):Ab.Id:=if zeh t=true then zfr ([6]++putTx t) else zId
theorem ziz {α:Type} {T:GoT α} {U N:Nat→Prop} {w:World}:∀{l:List α} {cs:List Value},zaf T U N w l cs→∀x∈l,∃c,T.rel U N w x c
  | [],_,_,x,hx=>by cases hx
  | y::l,_,⟨c1,c2,_,h1,h2⟩,x,hx=>by
    rcases List.mem_cons.1 hx with e|e
    · exact⟨c1,e▸h1⟩
    exact ziz h2 x e
theorem fact_tx {t:Tx} {ρ:Nat→Value} {B:Nat→Prop} {U N:Nat→Prop} {w:World} {v:Value} (h:(AV.val txT t).rel ρ B U N w v):∀x∈t.ins,x.tx.length=32:=fun x hx=>by
  obtain⟨cs,⟨c1,c2,_,⟨ad,cap,_,_,_,h3⟩,_⟩,_⟩:=h;obtain⟨_,ds,_,_,hr,_⟩:=h3 (List.ne_nil_of_mem hx);obtain⟨c,hc⟩:=ziz hr x hx;exact fact_in hc
theorem zqK {α β:Type} {f:α→List β} {n:Nat}:∀{l:List α},(∀x∈l,(f x).length=n)→(l.map f).flatten.length=l.length*n
  | [],_=>by simp
  | x::l,h=>by
    rw[List.map_cons,List.flatten_cons,ue,h x yB,zqK (fun y hy=>h y yaM),List.length_cons,Nat.add_mul];omega
theorem putTx_len {t:Tx} (h:zeh t=true) (h32:∀x∈t.ins,x.tx.length=32):(putTx t).length≤200:=by
  obtain⟨h1,_,h2⟩:=zff h;unfold putTx zgl zlK;have e1:=zqK (f:=putIn) (n:=33) (l:=t.ins.take t.ins.length) (fun x hx=>by
    rw[List.take_length] at hx;unfold putIn;rw[ue,h32 x hx];rfl)
  have e2:=zqK (f:=zu3) (n:=7) (l:=t.outs.take t.outs.length) (fun x hx=>by
    unfold zu3;rw[ue,zP];rfl)
  rw[List.take_length] at e1 e2;simp only[ue,List.length_cons,List.length_nil,List.take_length,e1,e2];omega
theorem of_ok (ls:List (List UInt8)) (hl:ls.flatten.length≤70368744177664):Tells P 49 [.val (bsl (bsl u8T)) ls] (.val idT (zfr ls.flatten)):=by
 refine zc Tryz.func49 rfl rfl rfl (fun ext w hext=>?_);refine zf (d:=0) rfl zl (fun hsl0=>?_);refine qbM ?_;refine qaw ?_;refine A0 (oCl (zB (zgO ls ya)) rfl fn_99 yd) ?_;refine A0 (oCl (zuH ls.flatten hl) rfl zvI yd) ?_;refine qat ?_;refine CN ?_;exact zab rfl rfl rfl rfl zaA (rfl)
theorem id_ok (t:Tx):Tells P 107 [.val txT t] (.val idT (idOf t)):=by
 refine zc Tryz.func107 rfl rfl rfl (fun ext w hext=>?_);refine zf (d:=0) rfl fact_tx (fun h32=>?_);refine qai ?_;refine qaF ?_;refine CNQR ?_;refine qcb ?_;refine A0 (oCl (zcO (put_ok t)) rfl fn_163 yd) ?_;refine qaQ ?_;refine A0 aV ?_;refine qam ?_;refine qbj ?_;refine zo (p:=¬zeh t=true) rfl yB (fun ht11=>?_) (fun ht11=>?_)
 ·
  refine CQR ?_;refine A0 (zhi rfl zjz ze_26 rfl) ?_;refine qat ?_;refine CN ?_;exact zab rfl rfl rfl rfl zaA (by unfold idOf;rw[if_neg ht11])
 refine zj (d:=3) rfl (if_pos (ua ht11)) ?_;refine CSQR ?_;refine qba ?_;refine qaw ?_;refine A0 (zL (T:=(sl u8T)) (xs:=[_,_]) rfl zc8 zcz yal rfl rfl) ?_;refine A0 (oCl (of_ok [[6],putTx t] (by have:=putTx_len (ua ht11) h32;simp;omega)) rfl fn_49 yd) ?_;refine qat ?_;refine CN ?_;exact zab rfl rfl rfl rfl zaA (by unfold idOf;rw[if_pos (ua ht11)];simp)
theorem zoc:∀{a b:List UInt8},Lib.compareBytes a b=0↔a=b
  | [],[]=>by simp[Lib.compareBytes]
  | [],_::_=>by simp[Lib.compareBytes]
  | _::_,[]=>by simp[Lib.compareBytes]
  | x::a,y::b=>by
    unfold Lib.compareBytes;by_cases h1:x<y
    · rw[if_pos h1]
      constructor
      · intro h;omega
      intro h;injection h with h _;subst h;exact absurd h1 (UInt8.lt_irrefl _)
    rw[if_neg h1];by_cases h2:y<x
    · rw[if_pos h2]
      constructor
      · intro h;omega
      intro h;injection h with h _;subst h;exact absurd h2 (UInt8.lt_irrefl _)
    rw[if_neg h2];have e:x=y:=UInt8.le_antisymm (UInt8.not_lt.1 h2) (UInt8.not_lt.1 h1);subst e;rw[zoc (a:=a) (b:=b)];simp
theorem cb_neg:∀{a b:List UInt8},Lib.compareBytes b a = -Lib.compareBytes a b
  | [],[]=>by simp[Lib.compareBytes]
  | [],_::_=>by simp[Lib.compareBytes]
  | _::_,[]=>by simp[Lib.compareBytes]
  | x::a,y::b=>by
    unfold Lib.compareBytes;by_cases h1:x<y
    · have h2:¬y<x:=fun h=>UInt8.lt_irrefl _ (UInt8.lt_trans h1 h)
      simp[h1,h2]
    by_cases h2:y<x
    · simp[h1,h2]
    simp only[if_neg h1,if_neg h2];exact cb_neg
theorem zvW:∀{a b c:List UInt8},Lib.compareBytes a b<0→Lib.compareBytes b c<0→Lib.compareBytes a c<0
  | [],[],_,h,_=>by simp[Lib.compareBytes] at h
  | _::_,[],_,h,_=>by simp[Lib.compareBytes] at h
  | _,_::_,[],_,h=>by simp[Lib.compareBytes] at h
  | [],_::_,_::_,_,_=>by simp[Lib.compareBytes]
  | x::a,y::b,z::c,h,k=>by
    unfold Lib.compareBytes at h k ⊢;by_cases h1:x<y
    · by_cases k1:y<z
      · rw[if_pos (UInt8.lt_trans h1 k1)];omega
      rw[if_neg k1] at k;by_cases k2:z<y
      · rw[if_pos k2] at k;omega
      have e:y=z:=UInt8.le_antisymm (UInt8.not_lt.1 k2) (UInt8.not_lt.1 k1);subst e;rw[if_pos h1];omega
    rw[if_neg h1] at h;by_cases h2:y<x
    · rw[if_pos h2] at h;omega
    rw[if_neg h2] at h;have e:x=y:=UInt8.le_antisymm (UInt8.not_lt.1 h2) (UInt8.not_lt.1 h1);subst e;by_cases k1:x<z
    · rw[if_pos k1];omega
    rw[if_neg k1] at k ⊢;by_cases k2:z<x
    · rw[if_pos k2] at k;omega
    rw[if_neg k2] at k ⊢;exact zvW h k
theorem zms (a b:In):za3 a b=if Lib.compareBytes a.tx b.tx=0 then zi5 a.i b.i else Lib.compareBytes a.tx b.tx:=by
  unfold za3;simp only[orL];by_cases h:Lib.compareBytes a.tx b.tx=0
  · rw[if_pos h,if_pos h]
    split<;>simp_all
  rw[if_neg h,if_neg h]
theorem zt7 {x y:Int}:zi5 x y=0↔x=y:=by unfold zi5;split<;>(try split)<;>omega
theorem zcR {a b:In}:za3 a b=0↔a=b:=by
  rw[zms];by_cases h:Lib.compareBytes a.tx b.tx=0
  · rw[if_pos h,zt7]
    have:=zoc.1 h
    cases a;cases b;simp_all
  rw[if_neg h]
  constructor
  · intro e;exact absurd e h
  intro e;subst e;exact absurd (zoc.2 rfl) h
theorem zda (a b:In):za3 b a = -za3 a b:=by
  rw[zms,zms,cb_neg (a:=a.tx) (b:=b.tx)];by_cases h:Lib.compareBytes a.tx b.tx=0
  · rw[if_pos h,if_pos ya]
    unfold zi5;split<;>split<;>(try split)<;>omega
  rw[if_neg h,if_neg ya]
theorem zfs {a b c:In} (h:za3 a b<0) (k:za3 b c<0):za3 a c<0:=by
  rw[zms] at h k ⊢;by_cases h1:Lib.compareBytes a.tx b.tx=0
  · rw[if_pos h1] at h
    have e:=zoc.1 h1;rw[e];by_cases k1:Lib.compareBytes b.tx c.tx=0
    · rw[if_pos k1] at k ⊢
      unfold zi5 at *;split at h<;>split at k<;>(try split at h)<;>(try split at k)<;>split<;>(try split)<;>omega
    rw[if_neg k1] at k ⊢;exact k
  rw[if_neg h1] at h;by_cases k1:Lib.compareBytes b.tx c.tx=0
  · have e:=zoc.1 k1
    rw[←e,if_neg h1];exact h
  rw[if_neg k1] at k
  have:=zvW h k
  rw[if_neg ya];exact this
def sortL_ren:Go.Shelf.Ren:=⟨fun|6=>208|15=>185|14=>237|28=>223|29=>224|20=>247|21=>248|22=>249|23=>250|24=>251|25=>252|26=>253|27=>254|46=>256|47=>240|48=>241|49=>257|50=>258|57=>259|n=>n,fun|22=>38|24=>211|25=>313|3=>3|39=>157|0=>0|53=>30|55=>27|4=>4|46=>322|45=>321|50=>93|5=>5|9=>9|66=>339|70=>343|76=>353|77=>354|n=>n,fun|n=>n⟩
theorem sortL:Go.Proofs.SlLaysF0.n6 P sortL_ren:={
  mixed:=by kernel_rfl,
  f6:=⟨Tryz.f208.name,by decide,Tryz.func208.trans (congrArg some yq)⟩,
  f14:=⟨Tryz.f237.name,by decide,Tryz.func237.trans (congrArg some yq)⟩,
  f15:=Tryz.func185.trans (congrArg some yq),
  f20:=⟨Tryz.f247.name,by decide,Tryz.func247.trans (congrArg some yq)⟩,
  f21:=⟨Tryz.f248.name,by decide,Tryz.func248.trans (congrArg some yq)⟩,
  f22:=⟨Tryz.f249.name,by decide,Tryz.func249.trans (congrArg some yq)⟩,
  f23:=⟨Tryz.f250.name,by decide,Tryz.func250.trans (congrArg some yq)⟩,
  f24:=⟨Tryz.f251.name,by decide,Tryz.func251.trans (congrArg some yq)⟩,
  f25:=⟨Tryz.f252.name,by decide,Tryz.func252.trans (congrArg some yq)⟩,
  f26:=⟨Tryz.f253.name,by decide,Tryz.func253.trans (congrArg some yq)⟩,
  f27:=⟨Tryz.f254.name,by decide,Tryz.func254.trans (congrArg some yq)⟩,
  f28:=Tryz.func223.trans (congrArg some yq),
  f29:=Tryz.func224.trans (congrArg some yq),
  f46:=⟨Tryz.f256.name,by decide,Tryz.func256.trans (congrArg some yq)⟩,
  f47:=Tryz.func240.trans (congrArg some yq),
  f48:=Tryz.func241.trans (congrArg some yq),
  f49:=⟨Tryz.f257.name,by decide,Tryz.func257.trans (congrArg some yq)⟩,
  f50:=⟨Tryz.f258.name,by decide,Tryz.func258.trans (congrArg some yq)⟩,
  f57:=⟨Tryz.f259.name,by decide,Tryz.func259.trans (congrArg some yq)⟩,
  t0:=Tryz.underlying0,
  a0:=Tryz.isAgg0,
  z0:=Tryz.sizeOf0,
  v0:=Tryz.zeroValue0,
  t3:=Tryz.underlying3,
  a3:=Tryz.isAgg3,
  z3:=Tryz.sizeOf3,
  v3:=Tryz.zeroValue3,
  t4:=Tryz.underlying4,
  a4:=Tryz.isAgg4,
  z4:=Tryz.sizeOf4,
  v4:=Tryz.zeroValue4,
  t5:=Tryz.underlying5,
  a5:=Tryz.isAgg5,
  z5:=Tryz.sizeOf5,
  v5:=Tryz.zeroValue5,
  t9:=Tryz.underlying9,
  a9:=Tryz.isAgg9,
  z9:=Tryz.sizeOf9,
  v9:=Tryz.zeroValue9,
  t22:=Tryz.underlying38,
  a22:=Tryz.isAgg38,
  z22:=Tryz.sizeOf38,
  v22:=Tryz.zeroValue38,
  t25:=Tryz.underlying313,
  a25:=Tryz.isAgg313,
  z25:=Tryz.sizeOf313,
  v25:=Tryz.zeroValue313,
  t39:=Tryz.underlying157,
  a39:=Tryz.isAgg157,
  z39:=Tryz.sizeOf157,
  v39:=Tryz.zeroValue157,
  t45:=Tryz.underlying321,
  a45:=Tryz.isAgg321,
  z45:=Tryz.sizeOf321,
  v45:=Tryz.zeroValue321,
  t46:=Tryz.underlying322,
  a46:=Tryz.isAgg322,
  z46:=Tryz.sizeOf322,
  v46:=Tryz.zeroValue322,
  t50:=Tryz.underlying93,
  a50:=Tryz.isAgg93,
  z50:=Tryz.sizeOf93,
  v50:=Tryz.zeroValue93,
  t53:=Tryz.underlying30,
  a53:=Tryz.isAgg30,
  z53:=Tryz.sizeOf30,
  v53:=Tryz.zeroValue30,
  t55:=Tryz.underlying27,
  a55:=Tryz.isAgg27,
  z55:=Tryz.sizeOf27,
  v55:=Tryz.zeroValue27,
  t66:=Tryz.underlying339,
  a66:=Tryz.isAgg339,
  z66:=Tryz.sizeOf339,
  v66:=Tryz.zeroValue339,
  t70:=Tryz.underlying343,
  a70:=Tryz.isAgg343,
  z70:=Tryz.sizeOf343,
  v70:=Tryz.zeroValue343,
  t76:=Tryz.underlying353,
  a76:=Tryz.isAgg353,
  z76:=Tryz.sizeOf353,
  v76:=Tryz.zeroValue353,
  t77:=Tryz.underlying354,
  a77:=Tryz.isAgg354,
  z77:=Tryz.sizeOf354,
  v77:=Tryz.zeroValue354 }
def Apart (l:List Coin):Prop:=l.Pairwise fun a b=>za3 a.inn b.inn≠0
def zjK (l:List Coin):List Coin:=l.mergeSort fun a b=>decide (za3 a.inn b.inn≤0)
def zsK (l:Ab.Id):List Value:=l.map fun b=>.int .u8 b.toNat
def znW (c:Coin):List Value:=zsK c.inn.tx++[.int .i64 c.inn.i,.int .i64 c.out.v,.int .i64 c.out.to]
def okCoin (c:Coin):Prop:=c.inn.tx.length=32∧IntKind.InR .i64 c.inn.i∧IntKind.InR .i64 c.out.v∧IntKind.InR .i64 c.out.to
theorem flat_u8:Flat1 u8T (fun b=>[.int .u8 b.toNat]) (fun _=>True):=fun _ _ _ _ _=>Iff.rfl
theorem flat_id:Flat1 idT zsK (fun l=>l.length=32):=fun U N w l cs=>by
  show(l.length=32∧zaf u8T U N w l cs)↔_;rw[zhj flat_u8];have e:(l.map fun b:UInt8=>[Value.int .u8 b.toNat]).flatten=zsK l:=by
    unfold zsK
    induction l with
    | nil=>rfl
    | cons x l ih=>rw[List.map_cons,List.flatten_cons,ih];rfl
  rw[e];exact⟨fun h=>⟨h.2.1,h.1⟩,fun h=>⟨h.2,h.1,fun _ _=>trivial⟩⟩
theorem flat_coin:Flat1 za9 znW okCoin:=fun U N w c cs=>by
  constructor
  · rintro ⟨c1,c2,rfl,⟨d1,d2,rfl,h1,h2⟩,⟨d3,d4,rfl,h3,h4⟩⟩
    obtain⟨rfl,k1⟩:=(flat_id _ _ _ _ _).1 h1;obtain⟨rfl,k2⟩:=h2;obtain⟨rfl,k3⟩:=h3;obtain⟨rfl,k4⟩:=h4;exact⟨by simp[znW],k1,k2,k3,k4⟩
  rintro ⟨rfl,k1,k2,k3,k4⟩
  exact⟨zsK c.inn.tx++[.int .i64 c.inn.i],[.int .i64 c.out.v,.int .i64 c.out.to],by simp[znW],⟨zsK c.inn.tx,[.int .i64 c.inn.i],rfl,(flat_id _ _ _ _ _).2 ⟨rfl,k1⟩,rfl,k2⟩,⟨[.int .i64 c.out.v],[.int .i64 c.out.to],rfl,⟨rfl,k3⟩,rfl,k4⟩⟩
theorem ztu {l r:List Coin} (hl:Apart l) (hp:r.Perm l) (hs:r.Pairwise fun a b=>¬za3 b.inn a.inn<0):r=zjK l:=by
  have hle:∀a b c:Coin,(decide (za3 a.inn b.inn≤0))=true→(decide (za3 b.inn c.inn≤0))=true→(decide (za3 a.inn c.inn≤0))=true:=fun a b c h1 h2=>by
    have h1:=of_decide_eq_true h1;have h2:=of_decide_eq_true h2;apply ui;by_cases e1:za3 a.inn b.inn=0
    · rw[zcR.1 e1];exact h2
    by_cases e2:za3 b.inn c.inn=0
    · rw[←zcR.1 e2];exact h1
    have:=zfs (show za3 a.inn b.inn<0 by omega) (show za3 b.inn c.inn<0 by omega);omega
  have htot:∀a b:Coin,(decide (za3 a.inn b.inn≤0)||decide (za3 b.inn a.inn≤0))=true:=fun a b=>by
    have:=zda a.inn b.inn
    rw[Bool.or_eq_true,uj,uj];omega
  have h1:(zjK l).Pairwise fun a b=>(decide (za3 a.inn b.inn≤0))=true:=List.pairwise_mergeSort (fun a b c=>hle a b c) (fun a b=>htot a b) l
  have h2:r.Pairwise fun a b=>(decide (za3 a.inn b.inn≤0))=true:=hs.imp fun {a b} h=>by
    have:=zda a.inn b.inn
    exact ui ya
  have hperm:r.Perm (zjK l):=hp.trans (List.mergeSort_perm l _).symm;have hap:Apart (zjK l):=(List.mergeSort_perm l _).symm.pairwise hl (fun {a b} h=>by have:=zda a.inn b.inn;omega);have hinj:∀a∈zjK l,∀b∈zjK l,za3 a.inn b.inn=0→a=b:=by
    intro a ha b hb h0;apply Classical.byContradiction;intro hne;obtain⟨i,hi,rfl⟩:=List.getElem_of_mem ha;obtain⟨j,hj,rfl⟩:=List.getElem_of_mem hb;have hw:=List.pairwise_iff_getElem.1 hap;rcases Nat.lt_trichotomy i j with h|h|h
    · exact hw i j hi hj h h0
    · subst h;exact hne rfl
    have:=zda (zjK l)[i].inn (zjK l)[j].inn
    exact hw j i hj hi h ya
  refine hperm.eq_of_pairwise (le:=fun a b=>(decide (za3 a.inn b.inn≤0))=true) (fun a b ha hb x y=>?_) h2 h1;have x:=of_decide_eq_true x;have y:=of_decide_eq_true y
  have:=zda a.inn b.inn
  exact hinj a (hperm.mem_iff.1 ha) b hb ya
theorem sort_ok (l:List Coin) (hl:Apart l) (hn:l.length<1000000):zee P 208 (.row 211 za9 l) [.own 0,.clo 209 []] (.lit (.tuple #[])) (.row 211 za9 (zjK l)) :=
  sort_tells sortL flat_coin (fun c h=>by unfold znW zsK;simp only[ue,List.length_map,h.1,List.length_cons,List.length_nil];rfl) (fun c _ v hv=>by
    unfold znW zsK at hv;simp only[List.mem_append,List.mem_map,List.mem_cons,List.not_mem_nil,or_false] at hv;rcases hv with ⟨b,_,rfl⟩|rfl|rfl|rfl<;>rfl) rfl (x0:=⟨⟨zId,0⟩,⟨0,0⟩⟩) ⟨rfl,zcY.2 yn,zcY.2 yn,zcY.2 yn⟩ zoX (cf:=fun a b=>za3 a.inn b.inn)
    (fun c _ h=>by have:=zcR.2 (rfl:c.inn=c.inn);omega) (fun a b c _ _ _ h1 h2=>zfs h1 h2)
    (fun a b c _ _ _ h1 h2 h3=>by
      have n1:=zda a.inn b.inn;have n2:=zda b.inn c.inn;by_cases e1:za3 a.inn b.inn=0
      · rw[zcR.1 e1] at h3;exact h2 h3
      by_cases e2:za3 b.inn c.inn=0
      · rw[←zcR.1 e2] at h3;exact h1 h3
      have:=zfs (show za3 c.inn b.inn<0 by omega) (show za3 b.inn a.inn<0 by omega)
      have n3:=zda a.inn c.inn;omega) fn_209 (fun x y=>made2_ok x y) ya (fun r hp hs=>ztu hl hp hs)
def newN (id:Ab.Id) (outs:List Out) (k:Nat):List Coin:=(outs.take k).zipIdx.map fun x=>⟨⟨id,(x.2:Int)⟩,x.1⟩
theorem zqx {id:Ab.Id} {outs:List Out} {k:Nat} (h:k≤outs.length):(newN id outs k).length=k:=by simp[newN];omega
theorem newN_succ {id:Ab.Id} {outs:List Out} {k:Nat} {o:Out} (h:outs[k]?=some o) (p:List Coin):p++newN id outs k++[⟨⟨id,(k:Int)⟩,o⟩]=p++newN id outs (k+1):=by
  have hk:=(ul.1 h).1;unfold newN;rw[un,h,List.zipIdx_append,List.map_append,List.append_assoc];simp;omega
def zbI (p:List Coin) (t:Tx):List Coin×Int:=if (p.any fun c=>decide (c.inn.tx=idOf t))=true then ([],10) else (zjK (p++newN (idOf t) t.outs t.outs.length),0)
theorem made_ok (p:List Coin) (t:Tx) (hp:p.length≤48) (hto:t.outs.length≤3) (hd:(p.any fun c=>decide (c.inn.tx=idOf t))=false→Apart (p++newN (idOf t) t.outs t.outs.length)):zee P 171 (.row 211 za9 p) [.own 0,.val txT t] (.tup2 (.fresh 211 za9 (zbI p t).1) (.val i64T (zbI p t).2)) (.none_):=by
 refine zeD trivial Tryz.func171 rfl rfl ⟨Nat.one_pos,⟨trivial,trivial⟩⟩ (fun ext pg w hext hgr=>?_);refine zgT (n:=0) rfl (fun hrl=>?_);refine qai ?_;refine A0 aL ?_;refine qa4 ?_;refine qcb ?_;refine A0 (oCl (id_ok t) rfl fn_107 yd) ?_;refine qaF ?_;refine qat ?_;refine CNQQR ?_;refine A0 mO ?_;refine xg ?_;refine A0 (oCl (zmi _ _) rfl fn_206 ⟨(zI rfl rfl),(by first|exact zdu (Cs:=[_]) rfl fn_207 yk ybA rfl (fun x=>zve _ x)|exact zdt (Cs:=[_]) rfl fn_207 yk ybA rfl (fun x y=>zve _ x)|exact zdv rfl),trivial⟩) ?_;refine CN ?_;refine zo (p:=(p.any fun c=>decide (c.inn.tx=idOf t))=true) rfl (Bool.decide_eq_true.symm) (fun ht13=>?_) (fun ht13=>?_)
 ·
  refine qbe ?_;exact zv2 rfl rfl rfl rfl rfl zcF (by unfold zbI;rw[if_pos ht13];exact zoC rfl) (zgk zcF rfl (by unfold zbI;rw[if_pos ht13]))
 have hnot:(p.any fun c=>decide (c.inn.tx=idOf t))=false:=by simpa using ht13
 refine CSQQR ?_;refine A0 (oFp zes) ?_;refine A0 (oLb zd4 ziW) ?_;refine A0 (zO rfl rfl zeO) ?_;refine qa0 ?_;refine zaS 0 3 4 rfl rfl rfl rfl rfl rfl ?_;refine zz (n:=3) (y:=p++newN (idOf t) t.outs 0) rfl (by simp[newN]) ?_;refine Lp (ι:=Nat) 4 (fun k=>(((((Fr.none.set 0 (.own 3)).set 3 (.ptr 1 0)).set 6 (.ptr 2 0)).set 15 (.val (sl outT) t.outs)).set 16 (.val i64T (t.outs.length:Int))).set 17 (.val i64T (k:Int))) (fun k=>((Hp.none.set 1 (.box 124 txT t)).set 2 (.box 26 idT (idOf t))).set 3 (.row 211 za9 (p++newN (idOf t) t.outs k))) (fun k=>k≤t.outs.length) (fun k=>t.outs.length-k) (0) (uf _) ?_;intro k hinv;refine qal ?_;refine Cf (p:=k<t.outs.length) (fun ht18=>?_) (fun ht18=>?_)
 ·
  obtain⟨o,ho⟩:∃o,t.outs[k]?=some o:=⟨_,ub ht18⟩;have hnl:=zqx (id:=idOf t) hinv;refine qaL ?_;refine qbY ?_;refine A0 aV ?_;refine zg rfl rfl rfl rfl rfl (Lens.self _) zhM rfl ?_;refine CNR ?_;refine A0 mO ?_;refine qb7 ?_;refine qaw ?_;refine A0 (zu rfl ze_201 bd_201 (.cons zhn zlv zaA rfl (.cons zdX zkG ty_3 rfl .nil)) rfl) ?_;refine A0 (oLs rfl rfl rfl zhM) ?_;refine A0 (zu rfl ze_211 bd_211 (.cons ze3 zcT zdx rfl (.cons ziF zfj zhM rfl .nil)) rfl) ?_;refine A0 (zL (T:=za9) (xs:=[_]) rfl zl8 zpc yx rfl rfl) ?_;refine zN rfl rfl rfl rfl rfl rfl rfl zpc (by simp only[ue,List.length_cons,List.length_nil,hnl];omega) ?_;refine A0 aO ?_;refine qaV ?_;refine zaS 5 3 6 rfl rfl rfl rfl rfl rfl ?_;refine zz (n:=3) rfl (newN_succ ho p) ?_;exact Nx (k+1) ya ya
 obtain rfl:k=t.outs.length:=ya;refine CE ?_;refine qb3 ?_;refine zgf (sort_ok _ (hd hnot) (by rw[ue,zqx (ug _)];omega)) rfl fn_208 rfl trivial trivial rfl ybD rfl rfl rfl ?_;refine CNQR ?_;refine A0 mO ?_;refine qcc ?_;exact zv2 rfl rfl rfl rfl rfl zcF (zkT zcF (fun h=>False.elim h) rfl rfl (by unfold zbI;rw[if_neg ht13])) (zgk zcF rfl (by unfold zbI;rw[if_neg ht13]))
def Sorted (p:List Coin):Prop:=p.Pairwise fun a b=>za3 a.inn b.inn<0
theorem zpD {p:List Coin} {k:Nat} {c:Coin} (h:p[k]?=some c):zi4 p k=true↔zgb c=true∧∀j b,k=j+1→p[j]?=some b→za3 b.inn c.inn<0:=by
  unfold zi4;rw[h];simp only[uk];cases k with
  | zero=>simp
  | succ k =>
    constructor
    · rintro ⟨h1,h2⟩
      refine⟨h1,fun j b e hb=>?_⟩;obtain rfl:k=j:=ya;simp only[hb] at h2;exact of_decide_eq_true h2
    rintro ⟨h1,h2⟩
    refine⟨h1,?_⟩;simp only[];cases hb:p[k]? with
    | none=>rfl
    | some b=>exact ui (h2 k b rfl hb)
theorem zaZ {p:List Coin}:zaO p=true↔(∀c∈p,zgb c=true)∧Sorted p∧p.length≤48:=by
  unfold zaO;simp only[uk,uj,List.all_eq_true,List.mem_range]
  constructor
  · rintro ⟨h1,h2⟩
    have hat:∀k c,p[k]?=some c→zgb c=true∧∀j b,k=j+1→p[j]?=some b→za3 b.inn c.inn<0:=fun k c hc=>(zpD hc).1 (h1 k (ul.1 hc).1)
    refine⟨fun c hc=>?_,?_,h2⟩
    · obtain⟨k,hk⟩:=List.mem_iff_getElem?.1 hc
      exact(hat k c hk).1
    have key : ∀ (k i : Nat) (a b : Coin), i < k → p[i]? = some a → p[k]? = some b → za3 a.inn b.inn < 0 := fun k => by
      induction k with
      | zero=>intro i a b h;omega
      | succ k ih =>
        intro i a b h ha hb;obtain⟨m,hm⟩:∃m,p[k]?=some m:=⟨_,ub (by have:=(ul.1 hb).1;omega)⟩;have hlast:=(hat (k+1) b hb).2 k m rfl hm;by_cases e:i=k
        · subst e;rw[ha] at hm;injection hm with hm;subst hm;exact hlast
        exact zfs (ih i a m ya ha hm) hlast
    unfold Sorted;rw[List.pairwise_iff_getElem];intro i j hi hj hij;exact key j i _ _ hij (ub hi) (ub hj)
  rintro ⟨h1,h2,h3⟩
  refine⟨fun k hk=>?_,h3⟩;refine(zpD (ub hk)).2 ⟨h1 _ (List.getElem_mem hk),fun j b e hb=>?_⟩;subst e;have hj:=(ul.1 hb).1
  have:=List.pairwise_iff_getElem.1 h2 j (j+1) hj hk ya
  rw[ub hj] at hb;injection hb with hb;rw[←hb];exact this
theorem Sorted.apart {p:List Coin} (h:Sorted p):Apart p:=List.Pairwise.imp (fun h=>by omega) h
theorem zom {p:List Coin} {id:Ab.Id} {outs:List Out} {k:Nat} (h:Apart p) (hn:(p.any fun c=>decide (c.inn.tx=id))=false):Apart (p++newN id outs k):=by
  unfold Apart;rw[List.pairwise_append];refine⟨h,?_,fun a ha b hb e=>?_⟩
  · unfold newN
    rw[List.pairwise_map,List.pairwise_iff_getElem];intro i j hi hj hij e
    have:=zcR.1 e
    injection this with _ h2;simp at h2;omega
  have:=zcR.1 e
  unfold newN at hb;obtain⟨x,_,rfl⟩:=List.mem_map.1 hb;have h2:=List.any_eq_false.1 hn a ha;rw[this] at h2;simp at h2
theorem del_sorted {l:List Coin} (i:Nat) (h:Sorted l):Sorted (l.take i++l.drop (i+1)):=by
  rw[←List.eraseIdx_eq_take_drop_succ];exact List.Pairwise.sublist (List.eraseIdx_sublist _ _) h
def zc1:List Coin→Int→List In→Option (List Coin×Int)
  | p,n,[]=>some (p,n)
  | p,n,x::l=>match p[placeOf p x]? with
    | none=>none
    | some c=>if za3 c.inn x=0 then zc1 (p.take (placeOf p x)++p.drop (placeOf p x+1)) (IntKind.i64.wrap (n+c.out.v)) l else none
def zae (p:List Coin) (t:Tx):List Coin×Int×Int :=
  if ¬(zaO p=true∧zeh t=true∧t.ins≠[]) then (p,0,1) else
  match zc1 p 0 t.ins with
  | none=>(p,0,8)
  | some (rest,n) =>
    if IntKind.i64.wrap (n-zfk (·.v) t.outs)<0 then (p,0,8)
    else if (zbI rest t).2=0 then (if 48<(zbI rest t).1.length then (p,0,11) else ((zbI rest t).1,IntKind.i64.wrap (n-zfk (·.v) t.outs),0))
    else (p,0,(zbI rest t).2)
theorem zeA {p:List Coin} (h:zaO p=true):p.length≤48:=by
  unfold zaO at h;simp only[uk,uj] at h;exact h.2
theorem zrM {p:List Coin} {n:Int} {ins:List In} {k:Nat} {x:In} {c:Coin} (hx:ins[k]?=some x) (hc:p[placeOf p x]?=some c) (h0:za3 c.inn x=0):zc1 p n (ins.drop k)=zc1 (p.take (placeOf p x)++p.drop (placeOf p x+1)) (IntKind.i64.wrap (n+c.out.v)) (ins.drop (k+1)):=by
  obtain⟨hk,rfl⟩:=ul.1 hx;rw[List.drop_eq_getElem_cons hk];rw[zc1.eq_2];simp only[hc,if_pos h0]
theorem zrL {p:List Coin} {n:Int} {ins:List In} {k:Nat} {x:In} (hx:ins[k]?=some x) (h:¬zk3 p x=true):zc1 p n (ins.drop k)=none:=by
  obtain⟨hk,rfl⟩:=ul.1 hx;rw[List.drop_eq_getElem_cons hk];rw[zc1.eq_2];unfold zk3 zeP at h
  split
  · rfl
  rename_i c hc;rw[hc] at h;simp only[uj] at h;rw[if_neg h]
theorem isThere_at {p:List Coin} {x:In} (h:zk3 p x=true):∃c,p[placeOf p x]?=some c∧za3 c.inn x=0:=by
  unfold zk3 zeP at h
  split at h
  · cases h
  rename_i c hc;exact⟨c,hc,by simpa using h⟩
theorem zfo (p:List Coin) (e:Int) (hp:p.length≤2000000000000):Tells P 200 [.val i64T e,.rptr (bsl za9) p] (.tup3 (.fresh 211 za9 p) (.val i64T 0) (.val i64T e)):=by
 refine zc Tryz.func200 rfl rfl rfl (fun ext w hext=>?_);refine zf (d:=0) rfl zt (fun hin0=>?_);refine qap ?_;refine A0 aV ?_;refine qa4 ?_;refine A0 (ze rfl rfl zl6) ?_;refine zaT (zik p yac) rfl zsG yd rfl rfl rfl ?_;refine qaw ?_;refine A0 aO ?_;refine qbu ?_;exact zeT rfl rfl (zh rfl rfl rfl) (zcA rfl) (zcA rfl)
theorem zuN (p:List Coin) (t:Tx) (hp:p.length≤2000000000000):Tells P 169 [.val (bsl za9) p,.val txT t] (.tup3 (.fresh 211 za9 (zae p t).1) (.val i64T (zae p t).2.1) (.val i64T (zae p t).2.2)):=by
 refine zc Tryz.func169 rfl rfl rfl (fun ext w hext=>?_);refine zf (d:=0) rfl zl (fun hsl0=>?_);refine qax ?_;refine A0 aL ?_;refine A0 aV ?_;refine qa4 ?_;refine xg ?_;refine A0 aC ?_;refine CNQQR ?_;refine A0 (oLs rfl rfl rfl zl6) ?_;refine A0 (oCl (may_ok _) rfl fn_168 yd) ?_;refine A0 oN ?_;refine qaw ?_;refine zbj (d:=21) (p:=¬zaO p=true) rfl yB (fun g21=>?_) (fun g21=>?_)
 ·
  refine qac ?_;refine qaH ?_;refine A2 ?_;refine qas ?_;refine Ct ?_;refine qcn ?_;refine xp ?_;refine qbl ?_;refine qaB ?_;have hS:zae p t=(p,0,1):=by unfold zae;rw[if_pos (fun h=>g21 h.1)]
  exact zeT rfl rfl (zh rfl rfl yK) (za rfl yK) (za rfl yK)
 refine A1 (oLs rfl rfl rfl zgx) ?_;refine A1 (oCl (zqA _) rfl fn_170 yd) ?_;refine A1 oN ?_;refine qaj ?_;refine zbj (d:=26) (p:=¬zeh t=true) rfl yB (fun g26=>?_) (fun g26=>?_)
 ·
  refine qbA ?_;refine qas ?_;refine Ct ?_;refine qcn ?_;refine xp ?_;refine qbl ?_;refine qaB ?_;have hS:zae p t=(p,0,1):=by unfold zae;rw[if_pos (fun h=>g26 h.2.1)]
  exact zeT rfl rfl (zh rfl rfl yK) (za rfl yK) (za rfl yK)
 refine A1 (oFp zdY) ?_;refine A1 (oLb zev zhN) ?_;refine A1 (zO rfl rfl zgn) ?_;refine A1 zcw ?_;refine A0 oK ?_;refine Sp (d:=31) (p:=t.ins.length=0) (fun g31=>?_) (fun g31=>?_)
 ·
  refine CN ?_;refine Ct ?_;refine qcn ?_;refine xp ?_;refine qbl ?_;refine qaB ?_;have hS:zae p t=(p,0,1):=by unfold zae;rw[if_pos (fun h=>h.2.2 (List.length_eq_zero_iff.1 g31))]
  exact zeT rfl rfl (zh rfl rfl yK) (za rfl yK) (za rfl yK)
 have hmp:=ua g21;have hmt:=ua g26;have hpl:=zeA hmp;have hne:t.ins≠[]:=fun e=>g31 (by rw[e];rfl)
 refine CN ?_;refine Cg ?_;refine CSQR ?_;refine A0 (oLs rfl rfl rfl zl6) ?_;refine zaT (zik p yac) rfl zsG yd rfl rfl rfl ?_;refine A0 aO ?_;refine CNQR ?_;refine qce ?_;refine qbf ?_;refine qa0 ?_;refine Lp (ι:=Nat×List Coin×Int) 3 (fun(k,rest,n)=>(((((((Fr.none.set 2 (.ptr 0 0)).set 3 (.ptr 1 0)).set 7 (.clo 200 [0])).set 8 (.own 2)).set 9 (.val i64T n)).set 40 (.val (sl inT) t.ins)).set 41 (.val i64T (t.ins.length:Int))).set 42 (.val i64T (k:Int))) (fun(k,rest,n)=>((Hp.none.set 0 (.box 38 (bsl za9) p)).set 1 (.box 124 txT t)).set 2 (.row 211 za9 rest)) (fun(k,rest,n)=>k≤t.ins.length∧Sorted rest∧rest.length≤48∧zc1 p 0 t.ins=zc1 rest n (t.ins.drop k)) (fun(k,rest,n)=>t.ins.length-k) ((0,p,0)) (⟨uf _,(zaZ.1 hmp).2.1,hpl,rfl⟩) ?_;intro⟨k,rest,n⟩ hinv;dsimp only at hinv;refine zf (d:=40) rfl zl (fun hsi=>?_);refine qal ?_;refine Cf (p:=k<t.ins.length) (fun ht43=>?_) (fun ht43=>?_)
 ·
  obtain⟨x,hx⟩:∃x,t.ins[k]?=some x:=⟨_,ub ht43⟩;refine CSQBQR ?_;refine qbZ ?_;refine zg rfl rfl rfl rfl rfl (Lens.self _) zdx rfl ?_;refine CNQR ?_;refine A0 mO ?_;refine A0 (oLs rfl rfl rfl zdx) ?_;refine A0 (oCl (place_ok rest x ya) rfl fn_201 ⟨(zI rfl rfl),yl,trivial⟩) ?_;refine qaQ ?_;refine A0 aV ?_;refine qam ?_;refine qbj ?_;refine zo (p:=¬zk3 rest x=true) rfl yB (fun ht53=>?_) (fun ht53=>?_)
  ·
   refine qcn ?_;refine xp ?_;refine qbl ?_;refine qaB ?_;have hS:zae p t=(p,0,8):=by unfold zae;rw[if_neg (Classical.not_not.2 ⟨hmp,hmt,hne⟩)];rw[hinv.2.2.2,zrL hx ht53]
   exact zeT rfl rfl (zh rfl rfl yK) (za rfl yK) (za rfl yK)
  obtain⟨c,hc,h0⟩:=isThere_at (ua ht53);have hlt:placeOf rest x<rest.length:=(ul.1 hc).1;refine CSQR ?_;refine qaw ?_;refine A0 mO ?_;refine qaw ?_;refine A0 (zdc (i:=placeOf rest x) rfl rfl rfl rfl ym zl8 yh) ?_;refine A0 (zvy rfl rfl ziF rfl) ?_;refine A0 (zvy rfl rfl ze4 rfl) ?_;refine A0 (zbR rfl rfl rfl rfl yj (zfj.comp zit) ty_3) ?_;refine A0 zdo ?_;refine A0 aV ?_;refine CNR ?_;refine A0 mO ?_;refine qaq ?_;refine A0 zdo ?_;refine zv5 (delete_ok rest (placeOf rest x) hlt) rfl fn_202 rfl trivial ⟨ye,ye,ye,trivial⟩ rfl rfl rfl ?_;refine A0 aO ?_;refine qaV ?_;refine zaS 4 2 5 rfl rfl rfl rfl rfl rfl ?_;exact Nx ((k+1,rest.take (placeOf rest x)++rest.drop (placeOf rest x+1),IntKind.i64.wrap (n+c.out.v))) (⟨by omega,del_sorted _ hinv.2.1,by simp;omega,hinv.2.2.2.trans (zrM hx hc h0)⟩) (by show _<t.ins.length-k;simp only[];omega)
 obtain rfl:k=t.ins.length:=ya;have htk:zc1 p 0 t.ins=some (rest,n):=by rw[hinv.2.2.2,List.drop_of_length_le (ug _)];rfl
 refine CE ?_;refine qa6 ?_;refine qcb ?_;refine A0 (oCl (outs_ok _) rfl fn_172 yd) ?_;refine A0 zbh ?_;refine qam ?_;refine qaT ?_;refine Cf (p:=IntKind.i64.wrap (n-zfk (·.v) t.outs)<0) (fun ht78=>?_) (fun ht78=>?_)
 ·
  refine qcn ?_;refine xp ?_;refine qbl ?_;refine qaB ?_;have hS:zae p t=(p,0,8):=by unfold zae;rw[if_neg (Classical.not_not.2 ⟨hmp,hmt,hne⟩)];rw[htk];exact if_pos ht78
  exact zeT rfl rfl (zh rfl rfl yK) (za rfl yK) (za rfl yK)
 refine CSQR ?_;refine A0 mO ?_;refine qcb ?_;refine zta (made_ok rest t ya (zff hmt).2.2 (zom (Sorted.apart hinv.2.1))) rfl fn_171 rfl trivial zaC ybD rfl rfl rfl ?_;refine A0 yt ?_;refine qaa ?_;refine A0 aO ?_;refine A0 aX ?_;refine CNQQR ?_;refine A0 mX ?_;refine A0 zcw ?_;refine qaw ?_;refine Sp (d:=92) (p:=(zbI rest t).2=0) (fun g92=>?_) (fun g92=>?_)
 ·
  refine A1 mO ?_;refine A1 (zaV rfl rfl rfl zi0) ?_;refine A1 zcq ?_;refine A0 oK ?_;refine Sp (d:=96) (p:=48<(zbI rest t).1.length) (fun g96=>?_) (fun g96=>?_)
  ·
   refine CN ?_;refine Ct ?_;refine CR ?_;refine qam ?_;refine qbz ?_;refine Ct ?_;refine qcn ?_;refine qaw ?_;refine xp ?_;refine qbl ?_;refine qaB ?_;have hS:zae p t=(p,0,11):=by unfold zae;rw[if_neg (Classical.not_not.2 ⟨hmp,hmt,hne⟩)];rw[htk];simp only[if_neg ht78,if_pos g92,if_pos g96]
   exact zeT rfl rfl (zh rfl rfl yK) (za rfl yK) (za rfl yK)
  refine CN ?_;refine Cg ?_;refine CSQQR ?_;refine qav ?_;refine zgs rfl (by simp[IntL.toI,g92]) ?_;refine CSQR ?_;refine A0 mO ?_;refine qaw ?_;refine A0 aO ?_;refine qbu ?_;have hS:zae p t=((zbI rest t).1,IntKind.i64.wrap (n-zfk (·.v) t.outs),0):=by unfold zae;rw[if_neg (Classical.not_not.2 ⟨hmp,hmt,hne⟩)];rw[htk];simp only[if_neg ht78,if_pos g92,if_neg g96]
  exact zeT rfl rfl (zh rfl rfl yK) (za rfl yK) (za rfl yK)
 refine qac ?_;refine qas ?_;refine Cg ?_;refine CSQQR ?_;refine qav ?_;refine ziq rfl (by simp[IntL.toI,g92]) ?_;refine qcn ?_;refine A0 mX ?_;refine zfK (As:=[_]) (Cs:=[_]) (zfo p _ hp) rfl rfl znP ybz yk ybA zaC zaC rfl rfl rfl ?_;refine qbl ?_;refine qaB ?_;have hS:zae p t=(p,0,(zbI rest t).2):=by unfold zae;rw[if_neg (Classical.not_not.2 ⟨hmp,hmt,hne⟩)];rw[htk];simp only[if_neg ht78,if_neg g92]
 exact zeT rfl rfl (zh rfl rfl yK) (za rfl yK) (za rfl yK)
theorem leC_trans (a b c:Coin) (h:decide (za3 a.inn b.inn≤0)=true) (k:decide (za3 b.inn c.inn≤0)=true):decide (za3 a.inn c.inn≤0)=true:=by
  simp only[uj] at *;by_cases h0:za3 a.inn b.inn=0
  · rw[zcR.1 h0];exact k
  by_cases k0:za3 b.inn c.inn=0
  · rw[←zcR.1 k0];exact h
  have:=zfs (a:=a.inn) (b:=b.inn) (c:=c.inn) ya ya
  omega
theorem leC_total (a b:Coin):(decide (za3 a.inn b.inn≤0)||decide (za3 b.inn a.inn≤0))=true:=by
  have:=zda a.inn b.inn
  simp only[Bool.or_eq_true,uj];omega
theorem zix (l:List Coin):(zjK l).Perm l:=List.mergeSort_perm l _
theorem zrP {l:List Coin} (h:Apart l):Sorted (zjK l):=by
  have h1:(zjK l).Pairwise fun a b=>decide (za3 a.inn b.inn≤0)=true:=List.pairwise_mergeSort leC_trans leC_total l
  have h2:Apart (zjK l):=((zix l).pairwise_iff (R:=fun a b:Coin=>za3 a.inn b.inn≠0) (fun {a b} h=>by have:=zda a.inn b.inn;omega)).2 h;unfold Sorted Apart at *;refine List.Pairwise.imp₂ (fun a b h1 h2=>?_) h1 h2
  have:=of_decide_eq_true h1
  omega
theorem zrI {t:Tx} (h:zeh t=true):∀o∈t.outs,zu7 o=false:=fun o ho=>by
  unfold zeh at h;simp only[uk,Bool.not_eq_true'] at h
  have:=List.any_eq_false.1 h.2.2.2.2 o ho
  simpa using this
theorem newN_ok {t:Tx} {id:Ab.Id} {k:Nat} (h:zeh t=true):∀c∈newN id t.outs k,zgb c=true:=fun c hc=>by
  unfold newN at hc;obtain⟨⟨o,i⟩,hx,rfl⟩:=List.mem_map.1 hc;have hi:=List.mk_mem_zipIdx_iff_getElem?.1 hx;have hlt:=(ul.1 hi).1;have ho:o∈t.outs:=List.mem_of_mem_take (ud hi);have h1:=zrI h o ho;have h3:=(zff h).2.2;rw[um] at hlt;unfold zu7 at h1;have h1:=of_decide_eq_false h1;unfold zgb;apply ui;simp only[];omega
theorem znt {p:List Coin} {t:Tx} (hp:∀c∈p,zgb c=true) (hs:Sorted p) (ht:zeh t=true):(∀c∈(zbI p t).1,zgb c=true)∧Sorted (zbI p t).1:=by
  unfold zbI
  split
  · exact⟨fun c hc=>absurd hc (List.not_mem_nil),List.Pairwise.nil⟩
  rename_i h;have h:(p.any fun c=>decide (c.inn.tx=idOf t))=false:=by simpa using h
  refine⟨fun c hc=>?_,zrP (zom (Sorted.apart hs) h)⟩
  have:=(zix _).mem_iff.1 hc
  rcases List.mem_append.1 this with h|h
  · exact hp c h
  exact newN_ok ht c h
theorem zhO:∀{ins:List In} {p rest:List Coin} {n m:Int},zc1 p n ins=some (rest,m)→rest.Sublist p
  | [],p,rest,n,m,h=>by
    rw[zc1.eq_1] at h;injection h with h;injection h with h _;subst h;exact List.Sublist.refl _
  | x::ins,p,rest,n,m,h=>by
    rw[zc1.eq_2] at h
    split at h
    · cases h
    split at h
    · have:=zhO h
      refine this.trans ?_;rw[←List.eraseIdx_eq_take_drop_succ];exact List.eraseIdx_sublist _ _
    cases h
theorem zg7 {p:List Coin} {t:Tx} (h:zaO p=true):zaO (zae p t).1=true:=by
  obtain⟨h1,h2,h3⟩:=zaZ.1 h;unfold zae
  split
  · exact h
  rename_i hn;have hn:=ua hn
  split
  · exact h
  rename_i rest n hrest;have hsub:=zhO hrest
  split
  · exact h
  split
  · split
    · exact h
    rename_i hl;have hg:=znt (p:=rest) (fun c hc=>h1 c (hsub.subset hc)) (h2.sublist hsub) hn.2.1;exact zaZ.2 ⟨hg.1,hg.2,Nat.le_of_not_lt hl⟩
  exact h
def zeU:List Coin→Int→List Tx→Sum Int (List Coin×Int)
  | out,room,[]=>.inr (out,room)
  | out,room,t::l=>if (zae out t).2.2=0 then zeU (zae out t).1 (IntKind.i64.wrap (room+(zae out t).2.1)) l else .inl (zae out t).2.2
def zdR (l:List Tx):Bool:=match l with | []=>false|t::_=>decide (t.ins.length=0)
theorem zpt {l:List Tx} {t:Tx} (h:l[0]?=some t):zdR l=decide (t.ins.length=0):=by
  cases l with
  | nil=>simp at h
  | cons a m=>simp at h;subst h;rfl
theorem zjk {l:List Tx} (h:¬0<l.length):zdR l=false:=by
  cases l with
  | nil=>rfl
  | cons a m=>simp at h
def zex (l:List Tx) (k:Nat):List Tx:=if zdR l=true∧k=0 then l.drop 1 else l.drop k
def zZ (p:List Coin) (l:List Tx):List Coin×Int :=
  if ¬zaO p=true then (p,1) else if 4<l.length then (p,3) else
  match zeU p 50 (zex l 0) with
  | .inl e=>(p,e)
  | .inr (out,room)=>match (if zdR l=true then l[0]? else none) with
    | none=>(out,0)
    | some t=>if ¬zeh t=true then (p,1) else if ¬(zbI out t).2=0 then (p,(zbI out t).2) else if room<zfk (·.v) t.outs then (p,8) else if 48<(zbI out t).1.length then (p,11) else ((zbI out t).1,0)
theorem zjc {out:List Coin} {room:Int} {l:List Tx} {k:Nat} {t:Tx} (hk:¬(zdR l=true∧k=0)) (hx:l[k]?=some t) (h:(zae out t).2.2=0):zeU out room (zex l k)=zeU (zae out t).1 (IntKind.i64.wrap (room+(zae out t).2.1)) (zex l (k+1)):=by
  obtain⟨hlt,rfl⟩:=ul.1 hx;unfold zex;rw[if_neg hk,if_neg ya,List.drop_eq_getElem_cons hlt,zeU.eq_2,if_pos h]
theorem zne {out:List Coin} {room:Int} {l:List Tx} {k:Nat} {t:Tx} (hk:¬(zdR l=true∧k=0)) (hx:l[k]?=some t) (h:¬(zae out t).2.2=0):zeU out room (zex l k) = .inl (zae out t).2.2:=by
  obtain⟨hlt,rfl⟩:=ul.1 hx;unfold zex;rw[if_neg hk,List.drop_eq_getElem_cons hlt,zeU.eq_2,if_neg h]
theorem zhZ {l:List Tx} (h:zdR l=true):zex l 0=zex l 1:=by
  unfold zex;rw[if_pos ⟨h,rfl⟩,if_neg ya]
theorem zpf {l:List Tx} (k:Nat) (h:l.length≤k):zex l k=[]:=by
  unfold zex
  split
  · exact List.drop_of_length_le ya
  exact List.drop_of_length_le h
theorem zeJ (p:List Coin) (e:Int) (hp:p.length≤2000000000000):Tells P 167 [.val i64T e,.rptr (bsl za9) p] (.tup2 (.fresh 211 za9 p) (.val i64T e)):=by
 refine zc Tryz.func167 rfl rfl rfl (fun ext w hext=>?_);refine zf (d:=0) rfl zt (fun hin0=>?_);refine qap ?_;refine qa4 ?_;refine A0 (ze rfl rfl zl6) ?_;refine zaT (zik p yac) rfl zsG yd rfl rfl rfl ?_;refine qaw ?_;refine qcc ?_;exact zU rfl rfl (zh rfl rfl rfl) (zcA rfl)
theorem apply_ok (p:List Coin) (l:List Tx) (hp:p.length≤2000000000000):Tells P 115 [.val (bsl za9) p,.val (bsl txT) l] (.tup2 (.fresh 211 za9 (zZ p l).1) (.val i64T (zZ p l).2)):=by
 refine zc Tryz.func115 rfl rfl rfl (fun ext w hext=>?_);refine zf (d:=0) rfl zl (fun hsl0=>?_);refine zf (d:=1) rfl zl (fun hsl1=>?_);refine qai ?_;refine A0 aL ?_;refine qa4 ?_;refine xg ?_;refine A0 aC ?_;refine CNQ ?_;refine CB ?_;refine CQR ?_;refine A0 (oLs rfl rfl rfl zl6) ?_;refine A0 (oCl (may_ok _) rfl fn_168 yd) ?_;refine A0 oN ?_;refine qad ?_;refine zo (p:=¬zaO p=true) rfl yB (fun ht17=>?_) (fun ht17=>?_)
 ·
  refine qcn ?_;refine xq ?_;refine qcv ?_;have hS:zZ p l=(p,1):=by unfold zZ;rw[if_pos ht17]
  exact zU rfl rfl (zh rfl rfl yK) (za rfl yK)
 have hmp:=ua ht17;have hpl:=zeA hmp;refine qa6 ?_;refine qcq ?_;refine A0 zcq ?_;refine qad ?_;refine Cf (p:=4<l.length) (fun ht25=>?_) (fun ht25=>?_)
 ·
  refine qcn ?_;refine xq ?_;refine qcv ?_;have hS:zZ p l=(p,3):=by unfold zZ;rw[if_neg (Classical.not_not.2 hmp),if_pos ht25]
  exact zU rfl rfl (zh rfl rfl yK) (za rfl yK)
 refine CS ?_;refine CI ?_;refine CQR ?_;refine A0 (oLs rfl rfl rfl zl6) ?_;refine zaT (zik p yac) rfl zsG yd rfl rfl rfl ?_;refine A0 aO ?_;refine qag ?_;refine qcq ?_;refine A0 zcq ?_;refine qaw ?_;refine Sp (d:=38) (p:=0<l.length) (fun g38=>?_) (fun g38=>?_)
 ·
  obtain⟨t0,ht0⟩:∃t0,l[0]?=some t0:=⟨_,ub g38⟩;refine A1 mV ?_;refine A1 (zR (i:=0) rfl rfl rfl ya zm4 yj) ?_;refine A1 (oFr zdY zev) ?_;refine A1 (ze rfl rfl zhN) ?_;refine A1 (by first|exact zO rfl rfl zgn|exact zaV rfl rfl rfl zgn|exact zbL rfl rfl zgn) ?_;refine A1 zcw ?_;refine A0 oK ?_;refine zj (d:=45) (y:=zdR l) rfl ybq ?_;refine qam ?_;refine qcq ?_;refine qa0 ?_;refine Lp (ι:=Nat×List Coin×Int) 2 (fun(k,out,room)=>((((((((Fr.none.set 1 (.val (bsl txT) l)).set 2 (.ptr 0 0)).set 6 (.clo 167 [0])).set 7 (.own 1)).set 8 (.val i64T room)).set 9 (.val zn (zdR l))).set 46 (.val (bsl txT) l)).set 47 (.val i64T (l.length:Int))).set 48 (.val i64T (k:Int))) (fun(k,out,room)=>(Hp.none.set 0 (.box 38 (bsl za9) p)).set 1 (.row 211 za9 out)) (fun(k,out,room)=>k≤l.length∧zaO out=true∧zeU p 50 (zex l 0)=zeU out room (zex l k)) (fun(k,out,room)=>l.length-k) ((0,p,50)) (⟨uf _,hmp,rfl⟩) ?_;intro⟨k,out,room⟩ hinv;dsimp only at hinv;have hol:=zeA hinv.2.1;refine qal ?_;refine Cf (p:=k<l.length) (fun ht49=>?_) (fun ht49=>?_)
  ·
   obtain⟨t,hx⟩:∃t,l[k]?=some t:=⟨_,ub ht49⟩;refine qaL ?_;refine qaX ?_;refine A0 aV ?_;refine qbN ?_;refine qaN ?_;refine A0 zcw ?_;refine qaw ?_;refine Sp (d:=55) (p:=k=0) (fun g55=>?_) (fun g55=>?_)
   ·
    refine A1 mV ?_;refine A0 oK ?_;refine zbj (d:=57) (p:=zdR l=true) rfl yB (fun g57=>?_) (fun g57=>?_)
    ·
     refine CN ?_;refine Ct ?_;refine CE ?_;refine CR ?_;refine qah ?_;exact Nx ((k+1,out,room)) yL ybs
    refine CN ?_;refine Cg ?_;refine CSQR ?_;refine A0 mO ?_;refine qcb ?_;refine zs9 (zuN out t ya) rfl fn_169 ⟨(zI rfl rfl),yl,trivial⟩ zaC zaC rfl rfl rfl ?_;refine A0 yt ?_;refine qbl ?_;refine A0 aX ?_;refine CNQQR ?_;refine qav ?_;refine zo (p:=¬(zae out t).2.2=0) rfl yO (fun ht66=>?_) (fun ht66=>?_)
    ·
     refine qcn ?_;refine A0 mX ?_;refine xr ?_;refine qcv ?_;have hS:zZ p l=(p,(zae out t).2.2):=ybS;exact zU rfl rfl (zh rfl rfl yK) (za rfl yK)
    refine CSQR ?_;refine A0 mO ?_;refine A0 aO ?_;refine CNR ?_;refine qaw ?_;refine A0 mX ?_;refine A0 zdo ?_;refine A0 aV ?_;refine qaV ?_;refine zrb 1 ?_;refine zaS 3 1 4 rfl rfl rfl rfl rfl rfl ?_;exact Nx ((k+1,(zae out t).1,IntKind.i64.wrap (room+(zae out t).2.1))) yL ybs
   refine A2 ?_;refine qas ?_;refine Cg ?_;refine CSQR ?_;refine A0 mO ?_;refine qcb ?_;refine zs9 (zuN out t ya) rfl fn_169 ⟨(zI rfl rfl),yl,trivial⟩ zaC zaC rfl rfl rfl ?_;refine A0 yt ?_;refine qbl ?_;refine A0 aX ?_;refine CNQQR ?_;refine qav ?_;refine zo (p:=¬(zae out t).2.2=0) rfl yO (fun ht66=>?_) (fun ht66=>?_)
   ·
    refine qcn ?_;refine A0 mX ?_;refine xr ?_;refine qcv ?_;have hS:zZ p l=(p,(zae out t).2.2):=ybS;exact zU rfl rfl (zh rfl rfl yK) (za rfl yK)
   refine CSQR ?_;refine A0 mO ?_;refine A0 aO ?_;refine CNR ?_;refine qaw ?_;refine A0 mX ?_;refine A0 zdo ?_;refine A0 aV ?_;refine qaV ?_;refine zrb 1 ?_;refine zaS 3 1 4 rfl rfl rfl rfl rfl rfl ?_;exact Nx ((k+1,(zae out t).1,IntKind.i64.wrap (room+(zae out t).2.1))) yL ybs
  have hrun:zeU p 50 (zex l 0) = .inr (out,room):=by rw[hinv.2.2,zpf k ya];rfl
  refine CE ?_;refine qb5 ?_;refine qbj ?_;refine zo (p:=¬zdR l=true) rfl yB (fun ht78=>?_) (fun ht78=>?_)
  ·
   have hnf:=ht78;refine qb3 ?_;refine qcc ?_;have hS:zZ p l=(out,0):=ybT;exact zU rfl rfl (zh rfl rfl yK) (za rfl yK)
  have hf:=ua ht78;refine qb2 ?_;refine A0 (zR (i:=0) rfl rfl rfl ya zm4 yj) ?_;refine A0 (ze rfl rfl zgx) ?_;refine A0 (oCl (zqA _) rfl fn_170 ybz) ?_;refine qbj ?_;refine zo (p:=¬zeh t0=true) rfl yB (fun ht84=>?_) (fun ht84=>?_)
  ·
   refine qcn ?_;refine xq ?_;refine qcv ?_;have hS:zZ p l=(p,1):=by unfold zZ;rw[if_neg (Classical.not_not.2 hmp),if_neg (show ¬4<l.length by omega)];rw[hrun];simp only[if_pos hf,ht0];rw[if_pos ht84]
   exact zU rfl rfl (zh rfl rfl yK) (za rfl yK)
  have hmt:=ua ht84;refine CSQR ?_;refine A0 mO ?_;refine qaw ?_;refine A0 (zR (i:=0) rfl rfl rfl ya zm4 yj) ?_;refine A0 (ze rfl rfl zgx) ?_;refine zta (made_ok out t0 ya (zff hmt).2.2 (zom (Sorted.apart (zaZ.1 hinv.2.1).2.1))) rfl fn_171 rfl trivial zaC ybD rfl rfl rfl ?_;refine A0 yt ?_;refine qaa ?_;refine A0 aO ?_;refine A0 aX ?_;refine CNQ ?_;refine CB ?_;refine CQR ?_;refine A0 mX ?_;refine A0 ze1 ?_;refine qad ?_;refine zo (p:=¬(zbI out t0).2=0) rfl yO (fun ht97=>?_) (fun ht97=>?_)
  ·
   refine qcn ?_;refine A0 mX ?_;refine xr ?_;refine qcv ?_;have hS:zZ p l=(p,(zbI out t0).2):=by unfold zZ;rw[if_neg (Classical.not_not.2 hmp),if_neg (show ¬4<l.length by omega)];rw[hrun];simp only[if_pos hf,ht0];rw[if_neg (Classical.not_not.2 hmt),if_pos ht97]
   exact zU rfl rfl (zh rfl rfl yK) (za rfl yK)
  refine qa6 ?_;refine A0 (zR (i:=0) rfl rfl rfl ya zm4 yj) ?_;refine A0 (ze rfl rfl zgx) ?_;refine A0 (oCl (outs_ok _) rfl fn_172 ybz) ?_;refine qaw ?_;refine A0 zcq ?_;refine qad ?_;refine Cf (p:=room<zfk (·.v) t0.outs) (fun ht105=>?_) (fun ht105=>?_)
  ·
   refine qcn ?_;refine xq ?_;refine qcv ?_;have hS:zZ p l=(p,8):=by unfold zZ;rw[if_neg (Classical.not_not.2 hmp),if_neg (show ¬4<l.length by omega)];rw[hrun];simp only[if_pos hf,ht0];rw[if_neg (Classical.not_not.2 hmt),if_neg ht97,if_pos ht105]
   exact zU rfl rfl (zh rfl rfl yK) (za rfl yK)
  refine qb3 ?_;refine A0 (zaV rfl rfl rfl zi0) ?_;refine A0 zcq ?_;refine qad ?_;refine Cf (p:=48<(zbI out t0).1.length) (fun ht116=>?_) (fun ht116=>?_)
  ·
   refine qcn ?_;refine xq ?_;refine qcv ?_;have hS:zZ p l=(p,11):=by unfold zZ;rw[if_neg (Classical.not_not.2 hmp),if_neg (show ¬4<l.length by omega)];rw[hrun];simp only[if_pos hf,ht0];rw[if_neg (Classical.not_not.2 hmt),if_neg ht97,if_neg ht105,if_pos ht116]
   exact zU rfl rfl (zh rfl rfl yK) (za rfl yK)
  refine CS ?_;refine CI ?_;refine qb3 ?_;refine qcc ?_;have hS:zZ p l=((zbI out t0).1,0):=by unfold zZ;rw[if_neg (Classical.not_not.2 hmp),if_neg (show ¬4<l.length by omega)];rw[hrun];simp only[if_pos hf,ht0];rw[if_neg (Classical.not_not.2 hmt),if_neg ht97,if_neg ht105,if_neg ht116]
  exact zU rfl rfl (zh rfl rfl yK) (za rfl yK)
 refine qac ?_;refine qac ?_;refine A0 oK ?_;refine zj (d:=45) (y:=zdR l) rfl ybq ?_;refine qam ?_;refine qcq ?_;refine qa0 ?_;refine Lp (ι:=Nat×List Coin×Int) 2 (fun(k,out,room)=>((((((((Fr.none.set 1 (.val (bsl txT) l)).set 2 (.ptr 0 0)).set 6 (.clo 167 [0])).set 7 (.own 1)).set 8 (.val i64T room)).set 9 (.val zn (zdR l))).set 46 (.val (bsl txT) l)).set 47 (.val i64T (l.length:Int))).set 48 (.val i64T (k:Int))) (fun(k,out,room)=>(Hp.none.set 0 (.box 38 (bsl za9) p)).set 1 (.row 211 za9 out)) (fun(k,out,room)=>k≤l.length∧zaO out=true∧zeU p 50 (zex l 0)=zeU out room (zex l k)) (fun(k,out,room)=>l.length-k) ((0,p,50)) (⟨uf _,hmp,rfl⟩) ?_;intro⟨k,out,room⟩ hinv;dsimp only at hinv;have hol:=zeA hinv.2.1;refine qal ?_;refine Cf (p:=k<l.length) (fun ht49=>?_) (fun ht49=>?_)
 ·
  exfalso;omega
 have hrun:zeU p 50 (zex l 0) = .inr (out,room):=by rw[hinv.2.2,zpf k ya];rfl
 refine CE ?_;refine qb5 ?_;refine qbj ?_;refine zo (p:=¬zdR l=true) rfl yB (fun ht78=>?_) (fun ht78=>?_)
 ·
  have hnf:=ht78;refine qb3 ?_;refine qcc ?_;have hS:zZ p l=(out,0):=ybT;exact zU rfl rfl (zh rfl rfl yK) (za rfl yK)
 exact absurd (ua ht78) (by rw[zjk g38];simp)
def tot {α:Type} (f:α→Int):List α→Int
  | []=>0
  | x::l=>f x+tot f l
theorem zoY {α:Type} {f:α→Int}:∀{l m:List α},tot f (l++m)=tot f l+tot f m
  | [],m=>by simp[tot]
  | x::l,m=>by rw[List.cons_append,tot,tot,zoY];omega
theorem tot_perm {α:Type} {f:α→Int} {l m:List α} (h:l.Perm m):tot f l=tot f m:=by
  induction h with
  | nil=>rfl
  | cons x _ ih=>rw[tot,tot,ih]
  | swap x y l=>simp only[tot];omega
  | trans _ _ h1 h2=>exact h1.trans h2
theorem tot_del {α:Type} {f:α→Int} {x:α}:∀{l:List α} {i:Nat},l[i]?=some x→tot f (l.take i++l.drop (i+1))+f x=tot f l
  | [],i,h=>by simp at h
  | y::l,0,h=>by simp at h;subst h;simp[tot];omega
  | y::l,i+1,h=>by
    have:=tot_del (f:=f) (l:=l) (i:=i) (by simpa using h)
    simp only[List.take_succ_cons,List.drop_succ_cons,List.cons_append,tot];omega
theorem zmX {α:Type} {f:α→Int}:∀{l:List α},(∀x∈l,0≤f x)→0≤tot f l
  | [],_=>Int.le_refl _
  | x::l,h=>by
    have:=zmX (f:=f) (l:=l) fun y hy=>h y (List.mem_cons_of_mem _ hy)
    have:=h x List.mem_cons_self
    rw[tot];omega
theorem tot_le {α:Type} {f:α→Int} {M:Int}:∀{l:List α},(∀x∈l,f x≤M)→tot f l≤M*l.length
  | [],_=>by simp[tot]
  | x::l,h=>by
    have:=tot_le (f:=f) (M:=M) (l:=l) fun y hy=>h y (List.mem_cons_of_mem _ hy)
    have:=h x List.mem_cons_self
    rw[tot,List.length_cons,Int.natCast_add,Int.mul_add];omega
theorem zvC {α:Type} {f:α→Int} {M:Int} (hM:0≤M):∀{l:List α} {n:Int},(∀x∈l,0≤f x∧f x≤M)→0≤n→n+M*l.length≤9223372036854775807→l.foldl (fun n x=>IntKind.i64.wrap (n+f x)) n=n+tot f l
  | [],n,_,_,_=>by simp[tot]
  | x::l,n,h,h0,h1=>by
    have hx:=h x List.mem_cons_self;rw[List.length_cons,Int.natCast_add,Int.mul_add] at h1;have h2:0≤M*l.length:=Int.mul_nonneg hM (Int.natCast_nonneg _);have e:IntKind.i64.wrap (n+f x)=n+f x:=zaz ya;rw[List.foldl_cons,e,zvC hM (fun y hy=>h y (List.mem_cons_of_mem _ hy)) ya ya,tot];omega
theorem worth_tot {α:Type} {f:α→Int} {l:List α} (h:∀x∈l,0≤f x∧f x≤2199023255552) (hl:l.length≤60):zfk f l=tot f l:=by
  have:=zvC (f:=f) (M:=2199023255552) yn (n:=0) h (Int.le_refl _) ya
  unfold zfk;rw[this];omega
theorem zkr {p:List Coin} (h:∀c∈p,zgb c=true):∀c∈p,0≤c.out.v∧c.out.v≤1099511627776:=fun c hc=>by
  have:=of_decide_eq_true (h c hc)
  omega
theorem zn2 {p:List Coin} (h:∀c∈p,zgb c=true) (hl:p.length≤48):0≤tot (·.out.v) p∧tot (·.out.v) p≤52776558133248:=by
  have h:=zkr h;refine⟨zmX fun x hx=>(h x hx).1,?_⟩
  have:=tot_le (f:=fun c:Coin=>c.out.v) (M:=1099511627776) (l:=p) fun x hx=>(h x hx).2
  omega
theorem outs_pos {t:Tx} (h:zeh t=true):∀o∈t.outs,0≤o.v∧o.v≤1099511627776:=fun o ho=>by
  have h1:=zrI h o ho;unfold zu7 at h1
  have:=of_decide_eq_false h1
  omega
theorem zu5 {t:Tx} (h:zeh t=true):zfk (·.v) t.outs=tot (·.v) t.outs∧0≤tot (·.v) t.outs∧tot (·.v) t.outs≤3298534883328:=by
  have h1:=outs_pos h;have h3:=(zff h).2.2;refine⟨worth_tot (fun x hx=>by have:=h1 x hx;omega) ya,zmX fun x hx=>(h1 x hx).1,?_⟩
  have:=tot_le (f:=fun o:Out=>o.v) (M:=1099511627776) (l:=t.outs) fun x hx=>(h1 x hx).2
  omega
theorem zip_tot {id:Ab.Id}:∀{outs:List Out} {k:Nat},tot (·.out.v) ((outs.zipIdx k).map fun x=>(⟨⟨id,(x.2:Int)⟩,x.1⟩:Coin))=tot (·.v) outs
  | [],_=>rfl
  | o::outs,k=>by rw[List.zipIdx_cons,List.map_cons,tot,tot,zip_tot]
theorem newN_tot {id:Ab.Id} {outs:List Out}:tot (·.out.v) (newN id outs outs.length)=tot (·.v) outs:=by
  unfold newN;rw[List.take_length];exact zip_tot
theorem zpp {p:List Coin} {t:Tx} (h:(zbI p t).2=0):tot (·.out.v) (zbI p t).1=tot (·.out.v) p+tot (·.v) t.outs∧(zbI p t).1.length=p.length+t.outs.length:=by
  unfold zbI at h ⊢
  split
  · rename_i e;rw[if_pos e] at h;exact absurd h yn
  refine⟨?_,?_⟩
  · rw[tot_perm (zix _),zoY,newN_tot]
  rw[(zix _).length_eq,ue,zqx (ug _)]
theorem zmZ:∀{ins:List In} {p rest:List Coin} {n m:Int},zc1 p n ins=some (rest,m)→(∀c∈p,zgb c=true)→p.length≤48→0≤n→n+tot (·.out.v) p≤52776558133248→m+tot (·.out.v) rest=n+tot (·.out.v) p∧n≤m∧rest.length+ins.length=p.length
  | [],p,rest,n,m,h,_,_,_,_=>by
    rw[zc1.eq_1] at h;injection h with h;injection h with h1 h2;subst h1;subst h2;exact⟨rfl,Int.le_refl _,rfl⟩
  | x::ins,p,rest,n,m,h,ho,hl,h0,h1=>by
    rw[zc1.eq_2] at h
    split at h
    · cases h
    rename_i c hc
    split at h
    · have hd:=tot_del (f:=fun c:Coin=>c.out.v) hc
      have hcm:=zkr ho c (ud hc);have hlt:=(ul.1 hc).1;have hsub:(p.take (placeOf p x)++p.drop (placeOf p x+1)).Sublist p:=by
        rw[←List.eraseIdx_eq_take_drop_succ];exact List.eraseIdx_sublist _ _
      have hp:=zmX (f:=fun c:Coin=>c.out.v) (l:=p.take (placeOf p x)++p.drop (placeOf p x+1)) fun y hy=>(zkr ho y (hsub.subset hy)).1
      have hll:(p.take (placeOf p x)++p.drop (placeOf p x+1)).length+1=p.length:=yA;have e:IntKind.i64.wrap (n+c.out.v)=n+c.out.v:=zaz ya;rw[e] at h
      have:=zmZ h (fun y hy=>ho y (hsub.subset hy)) ya ya ya
      rw[List.length_cons];omega
    cases h
theorem zts {p:List Coin} {t:Tx} (h:zaO p=true):0≤(zae p t).2.1∧tot (·.out.v) (zae p t).1+(zae p t).2.1=tot (·.out.v) p∧((zae p t).2.2≠0→(zae p t).1=p∧(zae p t).2.1=0):=by
  obtain⟨h1,h2,h3⟩:=zaZ.1 h;have hT:=zn2 h1 h3;unfold zae
  split
  · exact⟨Int.le_refl _,by simp,fun _=>⟨rfl,rfl⟩⟩
  rename_i hn;have hn:=ua hn
  split
  · exact⟨Int.le_refl _,by simp,fun _=>⟨rfl,rfl⟩⟩
  rename_i rest n hrest;have ht:=zmZ hrest h1 h3 (Int.le_refl _) ya;have ho:=zu5 hn.2.1;have hsub:=zhO hrest;have hr:=zmX (f:=fun c:Coin=>c.out.v) (l:=rest) fun c hc=>(zkr h1 c (hsub.subset hc)).1
  split
  · exact⟨Int.le_refl _,by simp,fun _=>⟨rfl,rfl⟩⟩
  rename_i hw;rw[ho.1] at hw ⊢;have e:IntKind.i64.wrap (n-tot (·.v) t.outs)=n-tot (·.v) t.outs:=zaz ya;rw[e] at hw ⊢
  split
  · rename_i hm
    have hmt:=(zpp hm).1
    split
    · exact⟨Int.le_refl _,by simp,fun _=>⟨rfl,rfl⟩⟩
    exact⟨by simp only[];omega,by simp only[];omega,fun h=>absurd rfl h⟩
  exact⟨Int.le_refl _,by simp,fun _=>⟨rfl,rfl⟩⟩
theorem zpa:∀{l:List Tx} {p out:List Coin} {r r':Int},zeU p r l = .inr (out,r')→zaO p=true→0≤r→tot (·.out.v) p+r≤52776558133398→zaO out=true∧r≤r'∧tot (·.out.v) out+r'=tot (·.out.v) p+r
  | [],p,out,r,r',h,hp,_,_=>by
    rw[zeU.eq_1] at h;injection h with h;injection h with h1 h2;subst h1;subst h2;exact⟨hp,Int.le_refl _,rfl⟩
  | t::l,p,out,r,r',h,hp,h0,h1=>by
    rw[zeU.eq_2] at h
    split at h
    · have hs:=zts (t:=t) hp
      have hm:=zg7 (t:=t) hp;have hT:=zn2 (zaZ.1 hm).1 (zaZ.1 hm).2.2;have e:IntKind.i64.wrap (r+(zae p t).2.1)=r+(zae p t).2.1:=zaz ya;rw[e] at h
      have:=zpa h hm ya ya
      exact⟨this.1,by omega,by omega⟩
    cases h
theorem zum {p:List Coin} {l:List Tx} (h:zaO p=true):zaO (zZ p l).1=true∧tot (·.out.v) (zZ p l).1≤tot (·.out.v) p+50∧((zZ p l).2≠0→(zZ p l).1=p):=by
  have hT:=zn2 (zaZ.1 h).1 (zaZ.1 h).2.2;have same:∀e:Int,zaO p=true∧tot (·.out.v) p≤tot (·.out.v) p+50∧(e≠0→p=p):=fun _=>⟨h,by omega,fun _=>rfl⟩
  unfold zZ;rw[if_neg (Classical.not_not.2 h)]
  split
  · exact same _
  split
  · exact same _
  rename_i out room hr;have hrt:=zpa hr h yn ya
  split
  · exact⟨hrt.1,by simp only[];omega,fun h=>absurd rfl h⟩
  rename_i t _
  split
  · exact same _
  rename_i hmt;have hmt:=ua hmt;have ho:=zu5 hmt
  split
  · exact same _
  rename_i hm;have hm:=ua hm
  split
  · exact same _
  rename_i hw;rw[ho.1] at hw
  split
  · exact same _
  rename_i hl;have hg:=znt (p:=out) (zaZ.1 hrt.1).1 (zaZ.1 hrt.1).2.1 hmt;have hmt:=(zpp hm).1;exact⟨zaZ.2 ⟨hg.1,hg.2,Nat.le_of_not_lt hl⟩,by simp only[];omega,fun h=>absurd rfl h⟩
theorem zfq (x:UInt64) {m:Nat} (h:m≤64):(zaN x m).toNat=x.toNat/2^m:=by
  have hx:x.toNat<18446744073709551616:=x.toNat_lt;unfold zaN;rw[UInt64.toNat_ofNat_of_lt' (Nat.lt_of_le_of_lt (Nat.div_le_self _ _) hx),Nat.min_eq_left h]
theorem shr_zero (x:UInt64):x=zaN x (8*0):=by
  apply UInt64.toNat_inj.1;rw[zfq x yn];simp
def setN {α:Type} (f:Nat→α) (z:List α) (k:Nat):List α:=(List.range k).foldl (fun l i=>l.set i (f i)) z
theorem zm8 {α:Type} {f:Nat→α} {z:List α} {k:Nat}:(setN f z k).set k (f k)=setN f z (k+1):=(zdU (f:=fun (l:List α) i=>l.set i (f i))).symm
theorem zqb {α:Type} {f:Nat→α} {z:List α} {k:Nat} (h:z.length=k):setN f z k=(List.range k).map f:=by
  apply List.ext_getElem?;intro j;unfold setN;rw[zid,List.getElem?_map];by_cases c:j<k
  · rw[if_pos ⟨c,by omega⟩,List.getElem?_range c];rfl
  rw[if_neg ya,List.getElem?_eq_none ya,List.getElem?_eq_none yA];rfl
theorem zmC {a:Ab.Id} {ρ:Nat→Value} {B:Nat→Prop} {U N:Nat→Prop} {w:World} {v:Value} (h:(AV.val idT a).rel ρ B U N w v):a.length=32:=by
  obtain⟨cs,h,_⟩:=h;exact h.1
theorem zeE {a:Wide} {ρ:Nat→Value} {B:Nat→Prop} {U N:Nat→Prop} {w:World} {v:Value} (h:(AV.val zan a).rel ρ B U N w v):a.length=4:=by
  obtain⟨cs,h,_⟩:=h;exact h.1
def cmpU (x y:UInt64):Int:=if x<y then -1 else if y<x then 1 else 0
def atW (a:Wide) (i:Int):UInt64:=if i<0∨4≤i then 0 else a.getD i.toNat default
def upF (a:Wide) (n:Int) (i:Nat):UInt64:=zhD (atW a ((i:Int)-n/64)) (n%64).toNat|||zaN (zaN (atW a ((i:Int)-n/64-1)) 1) (63-n%64).toNat
def upW (a:Wide) (n:Int):Wide:=if n<0 then a else if 256≤n then zav else (List.range 4).map (upF a n)
def downF (a:Wide) (n:Int) (i:Nat):UInt64:=zaN (atW a ((i:Int)+n/64)) (n%64).toNat|||zhD (zhD (atW a ((i:Int)+n/64+1)) 1) (63-n%64).toNat
def downW (a:Wide) (n:Int):Wide:=if n<0 then a else if 256≤n then zav else (List.range 4).map (downF a n)
def byteF (a:Wide) (i:Nat):UInt8:=zbH (IntL.toI u64T (zaN (a.getD (3-i/8) default) (56-8*((i:Int)%8)).toNat))
def zfH (a:Wide):Ab.Id:=(List.range 32).map (byteF a)
def of32S (b:Ab.Id) (w:Wide) (i:Nat):Wide:=w.set (3-i/8) (zhD (w.getD (3-i/8) default) 8|||zac (IntL.toI u8T (b.getD i default)))
def zsg (b:Ab.Id) (k:Nat):Wide:=(List.range k).foldl (of32S b) zav
def ziS (b:Ab.Id):Wide:=zsg b 32
def cmpW (a b:Wide):Int:=orL [cmpU (a.getD 3 default) (b.getD 3 default),cmpU (a.getD 2 default) (b.getD 2 default),cmpU (a.getD 1 default) (b.getD 1 default),cmpU (a.getD 0 default) (b.getD 0 default)]
theorem zss (x:UInt64):Tells P 188 [.val u64T x] (.val zn false):=by
 refine zc Tryz.func188 rfl rfl rfl (fun ext w hext=>?_);refine qbV ?_;refine qaw ?_;refine A0 ze1 ?_;refine qad ?_;exact zb rfl rfl (zcA (by simp[Fr.set]))
theorem zq1 (x y:UInt64):Tells P 143 [.val u64T x,.val u64T y] (.val i64T (cmpU x y)):=by
 refine zc Tryz.func143 rfl rfl rfl (fun ext w hext=>?_);refine qbV ?_;refine A0 (oCl (zss _) rfl fn_188 yd) ?_;refine qag ?_;refine A0 (oCl (zss _) rfl fn_188 yd) ?_;refine qam ?_;refine CN ?_;refine Cg ?_;refine qb2 ?_;refine CN ?_;refine Cg ?_;refine CSQQR ?_;refine qaq ?_;refine qaT ?_;refine zo (p:=x<y) rfl (by simp[IntL.toI,UInt64.lt_iff_toNat_lt]) (fun ht16=>?_) (fun ht16=>?_)
 ·
  refine qau ?_;exact zb rfl rfl (za rfl yS)
 refine CSQQR ?_;refine qaq ?_;refine qcs ?_;refine zo (p:=y<x) rfl (by simp[IntL.toI,UInt64.lt_iff_toNat_lt]) (fun ht19=>?_) (fun ht19=>?_)
 ·
  refine qau ?_;exact zb rfl rfl (za rfl yS)
 refine CSQR ?_;refine qad ?_;exact zb rfl rfl (za rfl yS)
theorem zv7 (a:Wide) (i:Int):Tells P 159 [.val zan a,.val i64T i] (.val u64T (atW a i)):=by
 refine zc Tryz.func159 rfl rfl rfl (fun ext w hext=>?_);refine zf (d:=1) rfl zt (fun hin1=>?_);refine zf (d:=0) rfl zeE (fun ha=>?_);refine qai ?_;refine qam ?_;refine A0 zbu ?_;refine Sp (d:=6) (p:=i<0) (fun g6=>?_) (fun g6=>?_)
 ·
  refine qaw ?_;refine A2 ?_;refine A2 ?_;refine qas ?_;refine Ct ?_;refine qau ?_;exact zb rfl rfl (za rfl (by unfold atW;rw[if_pos (.inl g6)];rfl))
 refine qaw ?_;refine A1 mV ?_;refine A1 zfR ?_;refine Sp (d:=9) (p:=4≤i) (fun g9=>?_) (fun g9=>?_)
 ·
  refine qas ?_;refine Ct ?_;refine qau ?_;exact zb rfl rfl (za rfl (by unfold atW;rw[if_pos (.inr g9)];rfl))
 refine qas ?_;refine Cg ?_;refine CSQR ?_;refine qaw ?_;refine A0 (zT (i:=i.toNat) rfl rfl rfl ym zcx ya) ?_;refine A0 (zs rfl rfl rfl (Lens.elem (i:=i.toNat) ya u64T) zco) ?_;refine qad ?_;exact zb rfl rfl (za rfl (by unfold atW;rw[if_neg ya]))
theorem upW_ok (a:Wide) (n:Int):Tells P 102 [.val zan a,.val i64T n] (.val zan (upW a n)):=by
 refine zc Tryz.func102 rfl rfl rfl (fun ext w hext=>?_);refine zf (d:=1) rfl zt (fun hin1=>?_);refine zf (d:=0) rfl zeE (fun ha=>?_);refine qai ?_;refine qaz ?_;refine qaN ?_;refine qaT ?_;refine Cf (p:=n<0) (fun ht10=>?_) (fun ht10=>?_)
 ·
  refine qca ?_;exact zab rfl rfl rfl rfl zap (by unfold upW;rw[if_pos ht10])
 refine qb2 ?_;refine qcg ?_;refine Cf (p:=256≤n) (fun ht13=>?_) (fun ht13=>?_)
 ·
  refine qay ?_;refine CN ?_;exact zab rfl rfl rfl rfl zap (by unfold upW;rw[if_neg ht10,if_pos ht13])
 refine CSQR ?_;refine qaz ?_;refine CNQR ?_;refine qaw ?_;refine qb6 ?_;refine qaw ?_;refine qbp ?_;refine A0 aV ?_;refine qam ?_;refine CNB ?_;refine Lp (ι:=Nat) 3 (fun (k:Nat)=>((((((Fr.none).set 2 (.ptr 0 0)).set 4 (.ptr 1 0)).set 5 (.ptr 2 0)).set 6 (.val i64T (n/64))).set 7 (.val i64T (n%64))).set 19 (.val i64T (k:Int))) (fun (k:Nat)=>(((Hp.none).set 0 (.box 29 zan a)).set 1 (.box 29 zan zav)).set 2 (.box 29 zan (setN (upF a n) zav k))) (fun (k:Nat)=>k≤4) (fun (k:Nat)=>4-k) (0) (uf _) ?_;intro k hinv;refine qal ?_;refine Cf (p:=k<4) (fun ht20=>?_) (fun ht20=>?_)
 ·
  refine qaL ?_;refine qad ?_;refine zC [some 1,some 1,some 1,some 1,some 1,some 1,some 1,some 1,some 1,some 1,some 1,some 1,some 1,some 1,some 1,some 1,some 1,some 1,some 1,some 1,none] mixed yc ?_;refine X0 mV ?_;refine xt ?_;refine qb9 ?_;refine X0 zbh ?_;refine X0 (oCl (zv7 _ _) rfl zvE yi) ?_;refine X0 mV ?_;refine X0 (zk5 rfl rfl rfl yg rfl) ?_;refine xt ?_;refine qb9 ?_;refine X0 zbh ?_;refine X0 zbh ?_;refine X0 (oCl (zv7 _ _) rfl zvE yi) ?_;refine X0 (zbP rfl rfl rfl yg rfl) ?_;refine X0 mV ?_;refine X0 zbh ?_;refine X0 (zbP rfl rfl rfl yg rfl) ?_;refine X0 (zsz rfl rfl rfl) ?_;refine xu ?_;refine XK.e (x:=.idk) (fun fr' hfr kk H=>by exact zg rfl rfl rfl ((hfr 41 yc).trans rfl) rfl (Lens.elem (i:=k) ya u64T) zco ((hfr 40 yc).trans rfl) (zr H)) ?_;refine qaI ?_;refine z8 (n:=2) (y:=setN (upF a n) zav (k+1)) rfl zm8 ?_;exact Nx (k+1) ya ya
 obtain rfl:k=4:=ya;refine CE ?_;refine qca ?_;exact zab rfl rfl rfl rfl zap (by unfold upW;rw[if_neg ht10,if_neg ht13];exact zqb rfl)
theorem downW_ok (a:Wide) (n:Int):Tells P 190 [.val zan a,.val i64T n] (.val zan (downW a n)):=by
 refine zc Tryz.func190 rfl rfl rfl (fun ext w hext=>?_);refine zf (d:=1) rfl zt (fun hin1=>?_);refine zf (d:=0) rfl zeE (fun ha=>?_);refine qai ?_;refine qaz ?_;refine qaN ?_;refine qaT ?_;refine Cf (p:=n<0) (fun ht10=>?_) (fun ht10=>?_)
 ·
  refine qca ?_;exact zab rfl rfl rfl rfl zap (by unfold downW;rw[if_pos ht10])
 refine qb2 ?_;refine qcg ?_;refine Cf (p:=256≤n) (fun ht13=>?_) (fun ht13=>?_)
 ·
  refine qay ?_;refine CN ?_;exact zab rfl rfl rfl rfl zap (by unfold downW;rw[if_neg ht10,if_pos ht13])
 refine CSQR ?_;refine qaz ?_;refine CNQR ?_;refine qaw ?_;refine qb6 ?_;refine qaw ?_;refine qbp ?_;refine A0 aV ?_;refine qam ?_;refine CNB ?_;refine Lp (ι:=Nat) 3 (fun (k:Nat)=>((((((Fr.none).set 2 (.ptr 0 0)).set 4 (.ptr 1 0)).set 5 (.ptr 2 0)).set 6 (.val i64T (n/64))).set 7 (.val i64T (n%64))).set 19 (.val i64T (k:Int))) (fun (k:Nat)=>(((Hp.none).set 0 (.box 29 zan a)).set 1 (.box 29 zan zav)).set 2 (.box 29 zan (setN (downF a n) zav k))) (fun (k:Nat)=>k≤4) (fun (k:Nat)=>4-k) (0) (uf _) ?_;intro k hinv;refine qal ?_;refine Cf (p:=k<4) (fun ht20=>?_) (fun ht20=>?_)
 ·
  refine qaL ?_;refine qad ?_;refine zC [some 1,some 1,some 1,some 1,some 1,some 1,some 1,some 1,some 1,some 1,some 1,some 1,some 1,some 1,some 1,some 1,some 1,some 1,some 1,some 1,none] mixed yc ?_;refine X0 mV ?_;refine xt ?_;refine qb9 ?_;refine X0 zdo ?_;refine X0 (oCl (zv7 _ _) rfl zvE yi) ?_;refine X0 mV ?_;refine X0 (zbP rfl rfl rfl yg rfl) ?_;refine xt ?_;refine qb9 ?_;refine X0 zdo ?_;refine X0 zdo ?_;refine X0 (oCl (zv7 _ _) rfl zvE yi) ?_;refine X0 (zk5 rfl rfl rfl yg rfl) ?_;refine X0 mV ?_;refine X0 zbh ?_;refine X0 (zk5 rfl rfl rfl yg rfl) ?_;refine X0 (zsz rfl rfl rfl) ?_;refine xu ?_;refine XK.e (x:=.idk) (fun fr' hfr kk H=>by exact zg rfl rfl rfl ((hfr 41 yc).trans rfl) rfl (Lens.elem (i:=k) ya u64T) zco ((hfr 40 yc).trans rfl) (zr H)) ?_;refine qaI ?_;refine z8 (n:=2) (y:=setN (downF a n) zav (k+1)) rfl zm8 ?_;exact Nx (k+1) ya ya
 obtain rfl:k=4:=ya;refine CE ?_;refine qca ?_;exact zab rfl rfl rfl rfl zap (by unfold downW;rw[if_neg ht10,if_neg ht13];exact zqb rfl)
theorem zsY (a:Wide):Tells P 98 [.val zan a] (.val idT (zfH a)):=by
 refine zc Tryz.func98 rfl rfl rfl (fun ext w hext=>?_);refine zf (d:=0) rfl zeE (fun ha=>?_);refine qai ?_;refine qaF ?_;refine CNQR ?_;refine qaF ?_;refine CNQQR ?_;refine qa0 ?_;refine Lp (ι:=Nat) 3 (fun (k:Nat)=>((((Fr.none).set 1 (.ptr 0 0)).set 2 (.ptr 1 0)).set 3 (.ptr 2 0)).set 5 (.val i64T (k:Int))) (fun (k:Nat)=>(((Hp.none).set 0 (.box 29 zan a)).set 1 (.box 26 idT zId)).set 2 (.box 26 idT (setN (byteF a) zId k))) (fun (k:Nat)=>k≤32) (fun (k:Nat)=>32-k) (0) (uf _) ?_;intro k hinv;refine qal ?_;refine Cf (p:=k<32) (fun ht6=>?_) (fun ht6=>?_)
 ·
  refine qaL ?_;refine A0 aV ?_;refine CNR ?_;refine qaq ?_;refine qb6 ?_;refine A0 zbh ?_;refine A0 (zT (i:=3-k/8) rfl rfl rfl ym zcx ya) ?_;refine A0 (zs rfl rfl rfl (Lens.elem (i:=3-k/8) ya u64T) zco) ?_;refine qaw ?_;refine qbp ?_;refine A0 zoF ?_;refine A0 zbh ?_;refine xi ?_;refine xf ?_;refine A0 (zT (i:=k) rfl rfl rfl ym zjz ya) ?_;refine zg rfl rfl rfl rfl rfl (Lens.elem (i:=k) ya u8T) ty_5 rfl ?_;refine qaV ?_;refine z8 (n:=2) (y:=setN (byteF a) zId (k+1)) rfl zm8 ?_;exact Nx (k+1) ya ya
 obtain rfl:k=32:=ya;refine CE ?_;refine CQR ?_;refine qb7 ?_;refine qat ?_;refine CN ?_;exact zab rfl rfl rfl rfl zaA (zqb rfl)
theorem zqu (b:Ab.Id):Tells P 129 [.val idT b] (.val zan (ziS b)):=by
 refine zc Tryz.func129 rfl rfl rfl (fun ext w hext=>?_);refine zf (d:=0) rfl zmC (fun hb=>?_);refine qai ?_;refine qaz ?_;refine CNQR ?_;refine qaz ?_;refine CNQQR ?_;refine qb7 ?_;refine qa0 ?_;refine Lp (ι:=Nat) 3 (fun (k:Nat)=>((((Fr.none).set 2 (.ptr 1 0)).set 3 (.ptr 2 0)).set 7 (.val idT b)).set 8 (.val i64T (k:Int))) (fun (k:Nat)=>((Hp.none).set 1 (.box 29 zan zav)).set 2 (.box 29 zan (zsg b k))) (fun (k:Nat)=>k≤32) (fun (k:Nat)=>32-k) (0) (uf _) ?_;intro k hinv;refine qal ?_;refine Cf (p:=k<32) (fun ht9=>?_) (fun ht9=>?_)
 ·
  obtain⟨x,hx⟩:∃x,b[k]?=some x:=yo;refine qaL ?_;refine A0 (znK rfl rfl rfl rfl zjz ty_5 yj) ?_;refine A0 aV ?_;refine qag ?_;refine qb6 ?_;refine A0 zbh ?_;refine A0 aV ?_;refine CNR ?_;refine qaq ?_;refine A0 (zT (i:=3-k/8) rfl rfl rfl ym zcx ya) ?_;refine A0 (zs rfl rfl rfl (Lens.elem (i:=3-k/8) ya u64T) zco) ?_;refine A0 (zk5 rfl rfl rfl yg rfl) ?_;refine qaw ?_;refine A0 (zi2 rfl (zou) (us_5) rfl) ?_;refine A0 (zsz rfl rfl rfl) ?_;refine A0 (zT (i:=3-k/8) rfl rfl rfl ym zcx ya) ?_;refine zg rfl rfl rfl rfl rfl (Lens.elem (i:=3-k/8) ya u64T) zco rfl ?_;refine qaV ?_;refine z8 (n:=2) (y:=zsg b (k+1)) rfl (by unfold zsg;rw[zdU];unfold of32S;rw[uq (l:=b),hx];rfl) ?_;exact Nx (k+1) ya ya
 obtain rfl:k=32:=ya;refine CE ?_;refine qca ?_;exact zab rfl rfl rfl rfl zap (rfl)
theorem zq0 (a b:Wide):Tells P 89 [.val zan a,.val zan b] (.val i64T (cmpW a b)):=by
 refine zc Tryz.func89 rfl rfl rfl (fun ext w hext=>?_);refine qax ?_;refine qcj ?_;refine G0 (zT (i:=3) rfl rfl rfl ym zcx ya) ?_;refine G0 (zs rfl rfl rfl (Lens.elem (i:=3) ya u64T) zco) ?_;refine G0 (zT (i:=3) rfl rfl rfl ym zcx ya) ?_;refine G0 (zs rfl rfl rfl (Lens.elem (i:=3) ya u64T) zco) ?_;refine G0 (oCl (zq1 _ _) rfl zvF yi) ?_;refine G0 (zT (i:=2) rfl rfl rfl ym zcx ya) ?_;refine G0 (zs rfl rfl rfl (Lens.elem (i:=2) ya u64T) zco) ?_;refine G0 (zT (i:=2) rfl rfl rfl ym zcx ya) ?_;refine G0 (zs rfl rfl rfl (Lens.elem (i:=2) ya u64T) zco) ?_;refine G0 (oCl (zq1 _ _) rfl zvF yi) ?_;refine G0 (zT (i:=1) rfl rfl rfl ym zcx ya) ?_;refine G0 (zs rfl rfl rfl (Lens.elem (i:=1) ya u64T) zco) ?_;refine G0 (zT (i:=1) rfl rfl rfl ym zcx ya) ?_;refine G0 (zs rfl rfl rfl (Lens.elem (i:=1) ya u64T) zco) ?_;refine G0 (oCl (zq1 _ _) rfl zvF yi) ?_;refine G0 (zT (i:=0) rfl rfl rfl ym zcx ya) ?_;refine G0 (zs rfl rfl rfl (Lens.elem (i:=0) ya u64T) zco) ?_;refine G0 (zT (i:=0) rfl rfl rfl ym zcx ya) ?_;refine G0 (zs rfl rfl rfl (Lens.elem (i:=0) ya u64T) zco) ?_;refine G0 (oCl (zq1 _ _) rfl zvF yi) ?_;refine G0 (zL (T:=i64T) (xs:=[_,_,_,_]) rfl zcv ziX ⟨rfl,rfl,rfl,rfl,rfl,rfl,rfl,rfl,trivial⟩ rfl rfl) ?_;refine G0 (oCl (orInt _) rfl fn_142 yd) ?_;refine qbB ?_;exact zb rfl rfl (za rfl rfl)
def ofW (n:UInt64):Wide:=[n,0,0,0]
def tgtM (bits:UInt32):UInt64:=zac (IntL.toI u32T (bits&&&16777215))
def tgtE (bits:UInt32):Int:=IntL.toI u32T (zoy bits 24)
def za6 (bits:UInt32):Bool:=decide (3≤tgtE bits∧tgtE bits≤32∧32768≤(tgtM bits).toNat∧(tgtM bits).toNat<8388608)
def tgtW (bits:UInt32):Wide:=if za6 bits=true then upW (ofW (tgtM bits)) (8*(tgtE bits-3)) else zav
theorem zva (n:UInt64):Tells P 103 [.val u64T n] (.val zan (ofW n)):=by
 refine zc Tryz.func103 rfl rfl rfl (fun ext w hext=>?_);refine CQR ?_;refine qaz ?_;refine CNQR ?_;refine qaw ?_;refine A0 (g_buildP (T:=u64T) (xs:=[_]) rfl zcx zkL yx rfl rfl) ?_;refine qak ?_;refine CN ?_;exact zab rfl rfl rfl rfl zap (rfl)
theorem zmY (bits:UInt32):Tells P 51 [.val u32T bits] (.tup2 (.val zan (tgtW bits)) (.val zn (za6 bits))):=by
 have he0:0≤tgtE bits:=Int.natCast_nonneg _;have heL:tgtE bits<4294967296:=by have:(zoy bits 24).toNat<4294967296:=(zoy bits 24).toNat_lt;show((zoy bits 24).toNat:Int)<4294967296;omega
 refine zc Tryz.func51 rfl rfl rfl (fun ext w hext=>?_);refine CQR ?_;refine qaz ?_;refine qag ?_;refine A0 (znI rfl rfl rfl yg rfl) ?_;refine A0 (zmh rfl (ui_3) (us_30) rfl (zaz (by show -9223372036854775808≤tgtE bits∧tgtE bits≤9223372036854775807;omega))) ?_;refine zj (d:=8) (y:=tgtE bits) rfl rfl ?_;refine qaw ?_;refine A0 (zla rfl rfl rfl) ?_;refine A0 (zi2 rfl (zou) (us_30) rfl) ?_;refine zj (d:=11) (y:=tgtM bits) rfl rfl ?_;refine A0 aV ?_;refine qam ?_;refine A0 zbu ?_;refine Sp (d:=13) (p:=tgtE bits<3) (fun g13=>?_) (fun g13=>?_)
 ·
  refine qaw ?_;refine qa5 ?_;refine A2 ?_;refine qaj ?_;refine A2 ?_;refine A2 ?_;refine qas ?_;refine Ct ?_;refine qay ?_;refine qad ?_;exact zp rfl rfl (zx rfl rfl zap yao) (zad (za rfl ybe))
 refine qaw ?_;refine qbx ?_;refine Sp (d:=16) (p:=32<tgtE bits) (fun g16=>?_) (fun g16=>?_)
 ·
  refine qaj ?_;refine qa5 ?_;refine A2 ?_;refine qas ?_;refine Ct ?_;refine qay ?_;refine qad ?_;exact zp rfl rfl (zx rfl rfl zap yao) (zad (za rfl ybe))
 refine qbP ?_;refine A1 zbu ?_;refine zbj (d:=20) (p:=(tgtM bits).toNat<32768) rfl (by rw[uo];show((tgtM bits).toNat:Int)<(32768:Int)↔_;omega) (fun g20=>?_) (fun g20=>?_)
 ·
  refine qaj ?_;refine A2 ?_;refine A2 ?_;refine qas ?_;refine Ct ?_;refine qay ?_;refine qad ?_;exact zp rfl rfl (zx rfl rfl zap yao) (zad (za rfl ybe))
 refine qbP ?_;refine A1 zfR ?_;refine zbj (d:=24) (p:=8388608≤(tgtM bits).toNat) rfl (by rw[uo];show(8388608:Int)≤((tgtM bits).toNat:Int)↔_;omega) (fun g24=>?_) (fun g24=>?_)
 ·
  refine qas ?_;refine Ct ?_;refine qay ?_;refine qad ?_;exact zp rfl rfl (zx rfl rfl zap yao) (zad (za rfl ybe))
 refine qas ?_;refine Cg ?_;refine CSQR ?_;refine qaw ?_;refine A0 (oCl (zva _) rfl zvH yd) ?_;refine qbI ?_;refine A0 zoF ?_;refine A0 (oCl (upW_ok _ _) rfl fn_102 yi) ?_;refine qak ?_;refine qad ?_;exact zp rfl rfl (zx rfl rfl zap (by unfold tgtW;rw[if_pos yba])) (zad (za rfl (by unfold za6;symm;apply ui;omega)))
theorem ext_Add64:ExtAt P 141 add64E:=⟨_,rfl,rfl,rfl,rfl,rfl⟩
theorem ext_Sub64:ExtAt P 225 sub64E:=⟨_,rfl,rfl,rfl,rfl,rfl⟩
def zbZ (f g:UInt64→UInt64→UInt64→UInt64) (a b:Wide) (k:Nat):Wide×UInt64:=(List.range k).foldl (fun x i=>(x.1.set i (f (x.1.getD i default) (b.getD i default) x.2),g (x.1.getD i default) (b.getD i default) x.2)) (a,0)
theorem zel {f g:UInt64→UInt64→UInt64→UInt64} {a b:Wide} {k:Nat}:zbZ f g a b (k+1)=((zbZ f g a b k).1.set k (f ((zbZ f g a b k).1.getD k default) (b.getD k default) (zbZ f g a b k).2),g ((zbZ f g a b k).1.getD k default) (b.getD k default) (zbZ f g a b k).2):=by unfold zbZ;rw[zdU]
def addW (a b:Wide):Wide:=(zbZ addS addC a b 4).1
def zfU (a b:Wide):Bool:=decide ((zbZ addS addC a b 4).2.toNat=0)
def subW (a b:Wide):Wide:=(zbZ subS subC a b 4).1
def subOk (a b:Wide):Bool:=decide ((zbZ subS subC a b 4).2.toNat=0)
theorem zuc (a b:Wide):Tells P 140 [.val zan a,.val zan b,.clo 141 []] (.tup2 (.val zan (zbZ addS addC a b 4).1) (.val zn (decide ((zbZ addS addC a b 4).2.toNat=0)))):=by
 refine zc Tryz.func140 rfl rfl rfl (fun ext w hext=>?_);refine qax ?_;refine qaz ?_;refine qa4 ?_;refine qam ?_;refine CNB ?_;refine Lp (ι:=Nat) 3 (fun (k:Nat)=>((((((Fr.none).set 2 (.clo 141 [])).set 3 (.ptr 0 0)).set 4 (.ptr 1 0)).set 6 (.ptr 2 0)).set 8 (.val u64T (zbZ addS addC a b k).2)).set 10 (.val i64T (k:Int))) (fun (k:Nat)=>(((Hp.none).set 0 (.box 29 zan (zbZ addS addC a b k).1)).set 1 (.box 29 zan b)).set 2 (.box 29 zan zav)) (fun (k:Nat)=>k≤4∧(zbZ addS addC a b k).2.toNat≤1) (fun (k:Nat)=>4-k) (0) (⟨uf _,uf 1⟩) ?_;intro k hinv;refine qal ?_;refine Cf (p:=k<4) (fun ht11=>?_) (fun ht11=>?_)
 ·
  refine qaL ?_;refine qad ?_;refine zC [some 1,some 1,some 1,some 1,some 1,some 1,some 1,some 1,some 1,some 1,some 1,some 1,some 1000001,some 1,none,some 1] mixed yc ?_;refine X0 mV ?_;refine X0 mC ?_;refine X0 mV ?_;refine xu ?_;refine xv ?_;refine X0 mV ?_;refine xu ?_;refine xv ?_;refine X0 mV ?_;refine X0 (g_ext3 rfl ext_Add64 rfl rfl rfl rfl (fun P w=>Go.Ab.run_add64 P w _ _ hinv.2)) ?_;refine X0 mX ?_;refine X0 y4 ?_;refine XK.ga yT rfl rfl rfl ?_;refine xu ?_;refine XK.e (x:=.idk) (fun fr' hfr kk H=>by exact zg rfl rfl rfl ((hfr 26 yc).trans rfl) rfl (Lens.elem (i:=k) ya u64T) zco ((hfr 24 yc).trans rfl) (zr H)) ?_;refine X0 aX ?_;refine qaI ?_;refine z8 (n:=0) (y:=(zbZ addS addC a b (k+1)).1) rfl (by rw[zel]) ?_;refine zj (d:=8) (y:=(zbZ addS addC a b (k+1)).2) rfl (by rw[zel]) ?_;exact Nx (k+1) (⟨by omega,by rw[zel];exact zrj _ _ hinv.2⟩) ya
 obtain rfl:k=4:=ya;refine CE ?_;refine CQR ?_;refine qaG ?_;refine qaw ?_;refine A0 zcw ?_;refine qak ?_;refine qad ?_;exact zp rfl rfl (zx rfl rfl zap (rfl)) (zad (za rfl (by rw[uo];show((_:Nat):Int)=(0:Int)↔_;omega)))
theorem zub (a b:Wide):Tells P 140 [.val zan a,.val zan b,.clo 225 []] (.tup2 (.val zan (zbZ subS subC a b 4).1) (.val zn (decide ((zbZ subS subC a b 4).2.toNat=0)))):=by
 refine zc Tryz.func140 rfl rfl rfl (fun ext w hext=>?_);refine qax ?_;refine qaz ?_;refine qa4 ?_;refine qam ?_;refine CNB ?_;refine Lp (ι:=Nat) 3 (fun (k:Nat)=>((((((Fr.none).set 2 (.clo 225 [])).set 3 (.ptr 0 0)).set 4 (.ptr 1 0)).set 6 (.ptr 2 0)).set 8 (.val u64T (zbZ subS subC a b k).2)).set 10 (.val i64T (k:Int))) (fun (k:Nat)=>(((Hp.none).set 0 (.box 29 zan (zbZ subS subC a b k).1)).set 1 (.box 29 zan b)).set 2 (.box 29 zan zav)) (fun (k:Nat)=>k≤4∧(zbZ subS subC a b k).2.toNat≤1) (fun (k:Nat)=>4-k) (0) (⟨uf _,uf 1⟩) ?_;intro k hinv;refine qal ?_;refine Cf (p:=k<4) (fun ht11=>?_) (fun ht11=>?_)
 ·
  refine qaL ?_;refine qad ?_;refine zC [some 1,some 1,some 1,some 1,some 1,some 1,some 1,some 1,some 1,some 1,some 1,some 1,some 1000001,some 1,none,some 1] mixed yc ?_;refine X0 mV ?_;refine X0 mC ?_;refine X0 mV ?_;refine xu ?_;refine xv ?_;refine X0 mV ?_;refine xu ?_;refine xv ?_;refine X0 mV ?_;refine X0 (g_ext3 rfl ext_Sub64 rfl rfl rfl rfl (fun P w=>Go.Ab.run_sub64 P w _ _ hinv.2)) ?_;refine X0 mX ?_;refine X0 y4 ?_;refine XK.ga yT rfl rfl rfl ?_;refine xu ?_;refine XK.e (x:=.idk) (fun fr' hfr kk H=>by exact zg rfl rfl rfl ((hfr 26 yc).trans rfl) rfl (Lens.elem (i:=k) ya u64T) zco ((hfr 24 yc).trans rfl) (zr H)) ?_;refine X0 aX ?_;refine qaI ?_;refine z8 (n:=0) (y:=(zbZ subS subC a b (k+1)).1) rfl (by rw[zel]) ?_;refine zj (d:=8) (y:=(zbZ subS subC a b (k+1)).2) rfl (by rw[zel]) ?_;exact Nx (k+1) (⟨by omega,by rw[zel];exact zp6 _ _ _⟩) ya
 obtain rfl:k=4:=ya;refine CE ?_;refine CQR ?_;refine qaG ?_;refine qaw ?_;refine A0 zcw ?_;refine qak ?_;refine qad ?_;exact zp rfl rfl (zx rfl rfl zap (rfl)) (zad (za rfl (by rw[uo];show((_:Nat):Int)=(0:Int)↔_;omega)))
theorem zjA (a b:Wide):Tells P 88 [.val zan a,.val zan b] (.tup2 (.val zan (addW a b)) (.val zn (zfU a b))):=by
 refine zc Tryz.func88 rfl rfl rfl (fun ext w hext=>?_);refine qax ?_;refine qaz ?_;refine qa4 ?_;refine qaG ?_;refine qaG ?_;refine A0 (oCl (zuc a b) rfl fn_140 ⟨yl,yl,(by first|exact zdu (Cs:=[]) rfl fn_141 yC trivial rfl (fun x=>no_contract_of_math_bits_Add64)|exact zdt (Cs:=[]) rfl fn_141 yC trivial rfl (fun x y=>no_contract_of_math_bits_Add64)|exact zdv rfl),trivial⟩) ?_;refine qaa ?_;refine qak ?_;refine qad ?_;exact zp rfl rfl (zx rfl rfl zap (rfl)) (zad (za rfl (rfl)))
theorem subW_ok (a b:Wide):Tells P 187 [.val zan a,.val zan b] (.tup2 (.val zan (subW a b)) (.val zn (subOk a b))):=by
 refine zc Tryz.func187 rfl rfl rfl (fun ext w hext=>?_);refine qax ?_;refine qaz ?_;refine qa4 ?_;refine qaG ?_;refine qaG ?_;refine A0 (oCl (zub a b) rfl fn_140 ⟨yl,yl,(by first|exact zdu (Cs:=[]) rfl fn_225 yC trivial rfl (fun x=>no_contract_of_math_bits_Sub64)|exact zdt (Cs:=[]) rfl fn_225 yC trivial rfl (fun x y=>no_contract_of_math_bits_Sub64)|exact zdv rfl),trivial⟩) ?_;refine qaa ?_;refine qak ?_;refine qad ?_;exact zp rfl rfl (zx rfl rfl zap (rfl)) (zad (za rfl (rfl)))
def zaj (n:Nat):Nat:=if n=0 then 0 else Nat.log2 n+1
theorem zs1 {n s:Nat} (h:2^s≤n):zaj n=s+zaj (n/2^s):=by
  have hp:=Nat.two_pow_pos s;have h1:1≤n/2^s:=(Nat.le_div_iff_mul_le hp).2 ya;unfold zaj;rw[if_neg ya,if_neg ya];obtain⟨k,hk⟩:∃k,k=Nat.log2 (n/2^s):=⟨_,rfl⟩;have h2:=(Nat.log2_eq_iff (n:=n/2^s) (k:=k) ya).1 hk.symm;have h3:Nat.log2 n=k+s:=by
    rw[Nat.log2_eq_iff ya]
    constructor
    · rw[Nat.pow_add];exact(Nat.le_div_iff_mul_le hp).1 h2.1
    rw[show k+s+1=k+1+s by omega,Nat.pow_add];exact(Nat.div_lt_iff_lt_mul hp).1 h2.2
  rw[h3,←hk];omega
theorem zgS {n s:Nat} (h:n<2^s):zaj n≤s:=by
  unfold zaj
  split
  · omega
  rename_i h0
  have:=(Nat.log2_lt h0).2 h
  omega
theorem zbg (x:UInt64) {m:Nat} (h:m≤64):(zaN x m).toNat=x.toNat/2^m:=by
  have hx:x.toNat<18446744073709551616:=x.toNat_lt;unfold zaN;rw[UInt64.toNat_ofNat_of_lt' (Nat.lt_of_le_of_lt (Nat.div_le_self _ _) hx),Nat.min_eq_left h]
theorem u8_small {x:UInt64} (h:x.toNat<256):(zbH (IntL.toI u64T x)).toNat=x.toNat:=by
  unfold zbH;show(UInt8.ofNat ((x.toNat:Int)%256).toNat).toNat=x.toNat
  rw[UInt8.toNat_ofNat_of_lt' ybk];omega
theorem len_small {x:UInt64} (h:x.toNat<256):IntL.toI u8T (UInt8.ofNat (zaj (zbH (IntL.toI u64T x)).toNat))=zaj x.toNat:=by
  have:=zgS (s:=8) (n:=x.toNat) ya
  rw[u8_small h];show((UInt8.ofNat (zaj x.toNat)).toNat:Int)=_;rw[UInt8.toNat_ofNat_of_lt' ybk]
theorem zh6 {x y:UInt64} {b:Int} {s:Nat} (hy:y.toNat<256) (hx:zaj x.toNat=s+zaj y.toNat) (hs:s≤64) (hb:b=(s:Int)):IntKind.i64.wrap (b+IntKind.i64.wrap (IntL.toI u8T (UInt8.ofNat (zaj (zbH (IntL.toI u64T y)).toNat))))=(zaj x.toNat:Nat):=by
  have:=zgS (s:=8) (n:=y.toNat) ya
  rw[len_small hy,zaz (n:=((zaj y.toNat:Nat):Int)) ya,zaz ya,hx,hb];omega
theorem zdg {x:UInt64} {s:Nat} (hs:s≤64) (h:2^s≤x.toNat):zaj x.toNat=s+zaj (zaN x s).toNat:=by
  rw[zbg x hs];exact zs1 h
theorem zvj (x:UInt64):Tells P 224 [.val u64T x] (.val i64T (zaj x.toNat:Nat)):=by
 refine zc Tryz.func224 rfl rfl rfl (fun ext w hext=>?_);refine CQR ?_;refine qam ?_;refine qcg ?_;refine zo (p:=4294967296≤(x).toNat) rfl (by rw[uo];show(4294967296:Int)≤((x).toNat:Int)↔_;omega) (fun ht4=>?_) (fun ht4=>?_)
 ·
  refine qa6 ?_;refine xi ?_;refine A0 aV ?_;refine CNR ?_;refine qam ?_;refine qcg ?_;refine zo (p:=65536≤(zaN x 32).toNat) rfl (by rw[uo];show(65536:Int)≤((zaN x 32).toNat:Int)↔_;omega) (fun ht8=>?_) (fun ht8=>?_)
  ·
   refine qa6 ?_;refine xi ?_;refine A0 aV ?_;refine CNR ?_;refine qaW ?_;refine qam ?_;refine qcg ?_;refine zo (p:=256≤(zaN (zaN x 32) 16).toNat) rfl (by rw[uo];show(256:Int)≤((zaN (zaN x 32) 16).toNat:Int)↔_;omega) (fun ht14=>?_) (fun ht14=>?_)
   ·
    refine qa6 ?_;refine xi ?_;refine qb1 ?_;refine A0 (zdB (fun n=>UInt8.ofNat (zaj n)) rfl rfl st_9 yc) ?_;refine qa8 ?_;exact zb rfl rfl (za rfl (zh6 (y:=zaN (zaN (zaN x 32) 16) 8) (s:=56) yr (by rw[zdg (s:=32) yn ht4,zdg (s:=16) yn ht8,zdg (s:=8) yn ht14];omega) yn (by rfl)))
   refine CSQR ?_;refine qaq ?_;refine xf ?_;refine A0 (zdB (fun n=>UInt8.ofNat (zaj n)) rfl rfl st_9 yc) ?_;refine qa8 ?_;exact zb rfl rfl (za rfl (zh6 (y:=zaN (zaN x 32) 16) (s:=48) yr (by rw[zdg (s:=32) yn ht4,zdg (s:=16) yn ht8];omega) yn (by rfl)))
  refine qb2 ?_;refine qcg ?_;refine zo (p:=256≤(zaN x 32).toNat) rfl (by rw[uo];show(256:Int)≤((zaN x 32).toNat:Int)↔_;omega) (fun ht14=>?_) (fun ht14=>?_)
  ·
   refine qa6 ?_;refine xi ?_;refine qb1 ?_;refine A0 (zdB (fun n=>UInt8.ofNat (zaj n)) rfl rfl st_9 yc) ?_;refine qa8 ?_;exact zb rfl rfl (za rfl (zh6 (y:=zaN (zaN x 32) 8) (s:=40) yr (by rw[zdg (s:=32) yn ht4,zdg (s:=8) yn ht14];omega) yn (by rfl)))
  refine CSQR ?_;refine qaq ?_;refine xf ?_;refine A0 (zdB (fun n=>UInt8.ofNat (zaj n)) rfl rfl st_9 yc) ?_;refine qa8 ?_;exact zb rfl rfl (za rfl (zh6 (y:=zaN x 32) (s:=32) yr (zdg (s:=32) yn ht4) yn (by rfl)))
 refine qb2 ?_;refine qcg ?_;refine zo (p:=65536≤(x).toNat) rfl (by rw[uo];show(65536:Int)≤((x).toNat:Int)↔_;omega) (fun ht8=>?_) (fun ht8=>?_)
 ·
  refine qa6 ?_;refine xi ?_;refine A0 aV ?_;refine CNR ?_;refine qaW ?_;refine qam ?_;refine qcg ?_;refine zo (p:=256≤(zaN x 16).toNat) rfl (by rw[uo];show(256:Int)≤((zaN x 16).toNat:Int)↔_;omega) (fun ht14=>?_) (fun ht14=>?_)
  ·
   refine qa6 ?_;refine xi ?_;refine qb1 ?_;refine A0 (zdB (fun n=>UInt8.ofNat (zaj n)) rfl rfl st_9 yc) ?_;refine qa8 ?_;exact zb rfl rfl (za rfl (zh6 (y:=zaN (zaN x 16) 8) (s:=24) yr (by rw[zdg (s:=16) yn ht8,zdg (s:=8) yn ht14];omega) yn (by rfl)))
  refine CSQR ?_;refine qaq ?_;refine xf ?_;refine A0 (zdB (fun n=>UInt8.ofNat (zaj n)) rfl rfl st_9 yc) ?_;refine qa8 ?_;exact zb rfl rfl (za rfl (zh6 (y:=zaN x 16) (s:=16) yr (zdg (s:=16) yn ht8) yn (by rfl)))
 refine qb2 ?_;refine qcg ?_;refine zo (p:=256≤(x).toNat) rfl (by rw[uo];show(256:Int)≤((x).toNat:Int)↔_;omega) (fun ht14=>?_) (fun ht14=>?_)
 ·
  refine qa6 ?_;refine xi ?_;refine qb1 ?_;refine A0 (zdB (fun n=>UInt8.ofNat (zaj n)) rfl rfl st_9 yc) ?_;refine qa8 ?_;exact zb rfl rfl (za rfl (zh6 (y:=zaN x 8) (s:=8) yr (zdg (s:=8) yn ht14) yn (by rfl)))
 refine CSQR ?_;refine qaq ?_;refine xf ?_;refine A0 (zdB (fun n=>UInt8.ofNat (zaj n)) rfl rfl st_9 yc) ?_;refine qa8 ?_;exact zb rfl rfl (za rfl (zh6 (y:=x) (s:=0) yr ((Nat.zero_add _).symm) yn (by rfl)))
theorem lenU_ok (x:UInt64):Tells P 185 [.val u64T x] (.val i64T (zaj x.toNat:Nat)):=by
 refine zc Tryz.func185 rfl rfl rfl (fun ext w hext=>?_);refine CQR ?_;refine qaA ?_;refine Cg ?_;refine CSQR ?_;refine qaw ?_;refine A0 (oCl (zvj _) rfl fn_224 yd) ?_;refine qad ?_;exact zb rfl rfl (za rfl rfl)
def zme (a:Wide):Nat→Nat
  | 0=>0
  | k+1=>if 0<(a.getD k default).toNat then k*64+zaj (a.getD k default).toNat else zme a k
def longW (a:Wide):Nat:=zme a 4
theorem longN_yes {a:Wide} {k:Nat} (hk:0<k) (h:0<(a.getD (k-1) default).toNat):zme a k=(k-1)*64+zaj (a.getD (k-1) default).toNat:=by
  obtain⟨j,rfl⟩:∃j,k=j+1:=⟨k-1,by omega⟩;rw[Nat.add_sub_cancel] at *;rw[zme,if_pos h]
theorem longN_no {a:Wide} {k:Nat} (hk:0<k) (h:¬0<(a.getD (k-1) default).toNat):zme a k=zme a (k-1):=by
  obtain⟨j,rfl⟩:∃j,k=j+1:=⟨k-1,by omega⟩;rw[Nat.add_sub_cancel] at *;rw[zme,if_neg h]
theorem zvg (a:Wide):∀k,zme a k≤k*64
  | 0=>ug _
  | k+1=>by
    have:=zvg a k
    have hb:=zgS (s:=64) (n:=(a.getD k default).toNat) (UInt64.toNat_lt _);rw[zme]
    split<;>omega
theorem zqC (a:Wide):longW a≤256:=zvg a 4
theorem zlm {n:Nat} (h:0<n):1≤zaj n:=by unfold zaj;rw[if_neg ya];omega
theorem longW_pos {a:Wide} (hl:a.length=4) (h:a≠zav):1≤longW a:=by
  match a,hl with
  | [a0,a1,a2,a3],_ =>
    unfold longW;simp only[zme,List.getD_cons_succ,List.getD_cons_zero];have hp:∀x:UInt64,0<x.toNat→1≤zaj x.toNat:=fun x hx=>zlm hx
    have hz:∀x:UInt64,¬0<x.toNat→x=0:=fun x hx=>UInt64.toNat_inj.1 yA
    split
    · have:=hp _ ‹_›;omega
    split
    · have:=hp _ ‹_›;omega
    split
    · have:=hp _ ‹_›;omega
    split
    · have:=hp _ ‹_›;omega
    exact absurd (by rw[hz a0 ‹_›,hz a1 ‹_›,hz a2 ‹_›,hz a3 ‹_›];rfl) h
def zj1 (out:Wide) (n:Nat):Wide:=out.set (n/64) (out.getD (n/64) default|||zhD 1 (n%64))
def zij (b:Wide) (x:Wide×Wide) (n:Nat):Wide×Wide:=if subOk x.1 (upW b n)=true then (subW x.1 (upW b n),zj1 x.2 n) else x
def divN (b:Wide):Nat→Wide×Wide→Wide×Wide
  | 0,x=>x
  | n+1,x=>divN b n (zij b x n)
theorem zqX {b:Wide} {n:Int} (h:0≤n) (x:Wide×Wide):divN b (n+1).toNat x=divN b (n-1+1).toNat (zij b x n.toNat):=by
  rw[show(n+1).toNat=n.toNat+1 by omega,show(n-1+1).toNat=n.toNat by omega,divN]
def divP (a b:Wide):Wide×Wide:=if b=zav then (zav,zav) else ((divN b (longW a+1-longW b) (a,zav)).2,(divN b (longW a+1-longW b) (a,zav)).1)
def divW (a b:Wide):Wide:=(divP a b).1
def remW (a b:Wide):Wide:=(divP a b).2
def divOk (b:Wide):Bool:=decide (b≠zav)
theorem zvf (a:Wide):Tells P 186 [.val zan a] (.val i64T (longW a:Nat)):=by
 refine zc Tryz.func186 rfl rfl rfl (fun ext w hext=>?_);refine zf (d:=0) rfl zeE (fun ha=>?_);refine qai ?_;refine qce ?_;refine A0 aV ?_;refine CNB ?_;refine Lp (ι:=Nat) 1 (fun (k:Nat)=>((Fr.none).set 1 (.ptr 0 0)).set 3 (.val i64T ((k:Int)-1))) (fun (k:Nat)=>(Hp.none).set 0 (.box 29 zan a)) (fun (k:Nat)=>k≤4∧longW a=zme a k) (fun (k:Nat)=>k) (4) (⟨ug _,rfl⟩) ?_;intro k hinv;refine qb5 ?_;refine qcg ?_;refine Cf (p:=0<k) (fun ht5=>?_) (fun ht5=>?_)
 ·
  refine qaL ?_;refine A0 (zT (i:=k-1) rfl rfl rfl ym zcx ya) ?_;refine A0 (zs rfl rfl rfl (Lens.elem (i:=k-1) ya u64T) zco) ?_;refine qcs ?_;refine zo (p:=0<(a.getD (k-1) default).toNat) rfl (by rw[uo];show(0:Int)<((a.getD (k-1) default).toNat:Int)↔_;omega) (fun ht11=>?_) (fun ht11=>?_)
  ·
   have hb:=zgS (s:=64) (n:=(a.getD (k-1) default).toNat) (UInt64.toNat_lt _);refine qa6 ?_;refine A0 zoF ?_;refine qaw ?_;refine A0 (zT (i:=k-1) rfl rfl rfl ym zcx ya) ?_;refine A0 (zs rfl rfl rfl (Lens.elem (i:=k-1) ya u64T) zco) ?_;refine A0 (oCl (zvj _) rfl fn_224 yd) ?_;refine A0 zdo ?_;refine qad ?_;exact zb rfl rfl (za rfl (by rw[hinv.2,longN_yes ht5 ht11];omega))
  refine CSIR ?_;refine qbI ?_;refine qad ?_;refine zj (d:=3) (y:=((k-1:Nat):Int)-1) rfl ya ?_;exact Nx (k-1) (⟨by omega,by rw[hinv.2,longN_no ht5 ht11]⟩) ya
 obtain rfl:k=0:=ya;refine CE ?_;refine qau ?_;exact zb rfl rfl (za rfl (by rw[hinv.2];rfl))
theorem divW_ok (a b:Wide):Tells P 139 [.val zan a,.val zan b] (.tup3 (.val zan (divW a b)) (.val zan (remW a b)) (.val zn (divOk b))):=by
 refine zc Tryz.func139 rfl rfl rfl (fun ext w hext=>?_);refine zf (d:=0) rfl zeE (fun ha=>?_);refine zf (d:=1) rfl zeE (fun hb=>?_);refine qax ?_;refine qaz ?_;refine qaz ?_;refine qce ?_;refine qaG ?_;refine A0 (zhi rfl zcx zkL rfl) ?_;refine A0 (zlS rfl rfl rfl (eqt_29)) ?_;refine CN ?_;refine zo (p:=b=zav) rfl yB (fun ht13=>?_) (fun ht13=>?_)
 ·
  refine CQR ?_;refine A0 (zhi rfl zcx zkL rfl) ?_;refine A0 (zhi rfl zcx zkL rfl) ?_;refine qak ?_;refine qak ?_;refine qad ?_;exact zv1 rfl rfl (zx rfl rfl zap (by unfold divW divP;rw[if_pos ht13])) (zx rfl rfl zap (by unfold remW divP;rw[if_pos ht13])) (zad (za rfl (by unfold divOk;symm;exact uh (fun h=>h ht13))))
 have hz:=longW_pos hb ht13;have hla:=zqC a;have hlb:=zqC b;refine CSQR ?_;refine qaz ?_;refine CNQ ?_;refine qbc ?_;refine G0 (oLs rfl rfl rfl zap) ?_;refine G0 (oCl (zvf _) rfl fn_186 yd) ?_;refine G0 (oLs rfl rfl rfl zap) ?_;refine G0 (oCl (zvf _) rfl fn_186 yd) ?_;refine G0 zbh ?_;refine qbB ?_;refine CB ?_;refine Lp (ι:=Int×Wide×Wide) 5 (fun(n,x)=>(((((Fr.none.set 2 (.ptr 0 0)).set 3 (.ptr 1 0)).set 4 (.ptr 2 0)).set 5 (.ptr 3 0)).set 7 (.ptr 4 0)).set 8 (.val i64T n)) (fun(n,x)=>((((Hp.none.set 0 (.box 29 zan x.1)).set 1 (.box 29 zan b)).set 2 (.box 29 zan zav)).set 3 (.box 29 zan zav)).set 4 (.box 29 zan x.2)) (fun(n,x)=>n≤255∧-256≤n∧x.2.length=4∧divN b (n+1).toNat x=divN b (longW a+1-longW b) (a,zav)) (fun(n,x)=>(n+1).toNat) (((longW a:Int)-(longW b:Int),a,zav)) (⟨by omega,by omega,rfl,by rw[show((longW a:Int)-(longW b:Int)+1).toNat=longW a+1-longW b by omega]⟩) ?_;intro⟨n,x⟩ hinv;dsimp only at hinv;refine qb5 ?_;refine qcg ?_;refine Cf (p:=0≤n) (fun ht22=>?_) (fun ht22=>?_)
 ·
  refine CS ?_;refine CQ ?_;refine CB ?_;refine CQ ?_;refine zC [some 1000001,some 1000001,some 1000001,some 1000001,some 1000001,some 1000001,some 1000001,some 1000001,none,none,some 1] mixed yc ?_;refine XK.gf (t:=2) rfl rfl (fun _ he=>zs rfl rfl he (Lens.self _) zap) ⟨rfl,trivial⟩ rfl rfl rfl ?_;refine XK.gf (t:=3) rfl rfl (fun _ he=>zs rfl rfl he (Lens.self _) zap) ⟨rfl,trivial⟩ rfl rfl rfl ?_;refine XK.ga (fun _=>g_mv (.inl rfl) rfl) rfl rfl rfl ?_;refine XK.ga (fun _=>zec (upW_ok _ _) rfl fn_102 yi rfl) rfl rfl rfl ?_;refine XK.ga (fun _=>zec (subW_ok _ _) rfl fn_187 yi rfl) rfl rfl rfl ?_;refine XK.ga yu rfl rfl rfl ?_;refine XK.ga yau rfl rfl rfl ?_;refine XK.ga yT rfl rfl rfl ?_;refine XK.e (fun fr' hfr kk H=>by exact zq zkL rfl rfl rfl rfl (zr H)) ?_;refine XK.e (x:=.idk) (fun fr' hfr kk H=>by exact zg rfl rfl rfl ((hfr 9 yc).trans rfl) rfl (Lens.self _) zap ((hfr 31 yc).trans rfl) (zr H)) ?_;refine X0 aV ?_;refine XK.nilp ⟨yx,yx,trivial⟩ ?_;refine qa6 ?_;refine CN ?_;refine zo (p:=subOk x.1 (upW b n)=true) rfl yB (fun ht33=>?_) (fun ht33=>?_)
  ·
   refine qca ?_;refine xm ?_;refine X0 mV ?_;refine X0 (g_quo rfl rfl rfl ybv (by first|decide|omega) rfl) ?_;refine X0 (zT (i:=n.toNat/64) rfl rfl rfl ym zcx ya) ?_;refine X0 (zs rfl rfl rfl (Lens.elem (i:=n.toNat/64) ya u64T) zco) ?_;refine X0 mV ?_;refine X0 (g_rem rfl rfl rfl ybv (by first|decide|omega) rfl) ?_;refine X0 (zk5 rfl rfl rfl yg rfl) ?_;refine X0 (zsz rfl rfl rfl) ?_;refine X0 (zT (i:=n.toNat/64) rfl rfl rfl ym zcx ya) ?_;refine XK.e (x:=.idk) (fun fr' hfr kk H=>by exact zg rfl rfl rfl ((hfr 43 yc).trans rfl) rfl (Lens.elem (i:=n.toNat/64) ya u64T) zco ((hfr 42 yc).trans rfl) (zr H)) ?_;refine XK.nil' ?_;refine CI ?_;refine CR ?_;refine qbI ?_;refine qad ?_;refine z8 (n:=4) (y:=zj1 x.2 n.toNat) rfl (by unfold zj1;rw[show(IntL.toI i64T (n%64)).toNat=n.toNat%64 by simp only[IntL.toI,id_eq];omega];rfl) ?_;exact Nx ((n-1,subW x.1 (upW b n),zj1 x.2 n.toNat)) yP (by show(n-1+1).toNat<(n+1).toNat;omega)
  refine CSIR ?_;refine qbI ?_;refine qad ?_;exact Nx ((n-1,x)) yP (by show(n-1+1).toNat<(n+1).toNat;omega)
 refine CE ?_;refine CQ ?_;refine zC [some 1,some 1000001,none,none,some 1] mixed yc ?_;refine xt ?_;refine XK.gf (t:=2) rfl rfl (fun _ he=>zs rfl rfl he (Lens.self _) zap) ⟨rfl,trivial⟩ rfl rfl rfl ?_;refine XK.e (x:=.idk) (fun fr' hfr kk H=>by exact zg rfl rfl rfl ((hfr 4 yc).trans rfl) rfl (Lens.self _) zap ((hfr 44 yc).trans rfl) (zr H)) ?_;refine XK.e (x:=.idk) (fun fr' hfr kk H=>by exact zg rfl rfl rfl ((hfr 5 yc).trans rfl) rfl (Lens.self _) zap ((hfr 45 yc).trans rfl) (zr H)) ?_;refine X0 aV ?_;refine XK.nilp ⟨yx,trivial⟩ ?_;exact zv1 rfl rfl (zx rfl rfl zap (by unfold divW divP;rw[if_neg ht13,←hinv.2.2.2,show(n+1).toNat=0 by omega];rfl)) (zx rfl rfl zap (by unfold remW divP;rw[if_neg ht13,←hinv.2.2.2,show(n+1).toNat=0 by omega];rfl)) (zad (za rfl (by unfold divOk;symm;exact ui ht13)))
end Go.Proofs.YticippfoekpkhaaGreat
