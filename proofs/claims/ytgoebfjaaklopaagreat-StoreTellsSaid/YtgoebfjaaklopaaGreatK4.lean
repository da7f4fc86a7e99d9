/- Parts of the proof: the layer that reads Go values as data, and what the functions of the program tell. -/
import Derived.Test.YtgoebfjaaklopaaGreatK3
set_option linter.unusedVariables false
set_option linter.unusedSimpArgs false
set_option maxRecDepth 20000
namespace Go.Proofs.YtgoebfjaaklopaaGreat
open Go.Ab Go.RowKit
def rotl (x:UInt32) (n:Int):UInt32:=zpi x ((z6 n)&&&31).toNat|||zdy x (32-((z6 n)&&&31)).toNat
theorem rotl_ok (x:UInt32) (n:Int):Tells P 230 [.val u32T x,.val i64T n] (.val u32T (rotl x n)):=by
 refine zc Tryz.func230 rfl rfl rfl (fun ext w hext=>?_);refine ze (d:=1) rfl zab (fun hin1=>?_);refine CQR ?_;refine qaS ?_;refine xe ?_;refine A0 (zow rfl rfl rfl) ?_;refine qbW ?_;refine A0 (zor rfl rfl rfl yo rfl) ?_;refine qai ?_;refine A0 (g_sub64 rfl rfl rfl) ?_;refine A0 (zlX rfl rfl rfl yo rfl) ?_;refine A0 (znq rfl rfl rfl) ?_;refine qad ?_;exact za rfl rfl (zb rfl rfl)
theorem zrT (x:UInt32) (n:Int):Tells P 197 [.val u32T x,.val i64T n] (.val u32T (rotl x (IntKind.i64.wrap (0-n)))):=by
 refine zc Tryz.func197 rfl rfl rfl (fun ext w hext=>?_);refine ze (d:=1) rfl zab (fun hin1=>?_);refine CQR ?_;refine qbW ?_;refine A0 (g_neg rfl rfl rfl) ?_;refine A0 (oCl (rotl_ok _ _) rfl fn_230 yf) ?_;refine qad ?_;exact za rfl rfl (zb rfl rfl)
def shaK:List UInt32:=[1116352408,1899447441,3049323471,3921009573,961987163,1508970993,2453635748,2870763221,3624381080,310598401,607225278,1426881987,1925078388,2162078206,2614888103,3248222580,3835390401,4022224774,264347078,604807628,770255983,1249150122,1555081692,1996064986,2554220882,2821834349,2952996808,3210313671,3336571891,3584528711,113926993,338241895,666307205,773529912,1294757372,1396182291,1695183700,1986661051,2177026350,2456956037,2730485921,2820302411,3259730800,3345764771,3516065817,3600352804,4094571909,275423344,430227734,506948616,659060556,883997877,958139571,1322822218,1537002063,1747873779,1955562222,2024104815,2227730452,2361852424,2428436474,2756734187,3204031479,3329325298]
def zaj (n:UInt64) (size:Nat):List UInt8:=(List.range size).map fun j=>zb2 (IntL.toI u64T (zaB n (8*(size-1-j))))
theorem ziM {n:UInt64} {size k:Nat} {l:List UInt8} (hk:k<size) (hl:l.length=size) (h:∀j,size-k≤j→j<size→l[j]?=(zaj n size)[j]?):∀j,size-(k+1)≤j→j<size→(l.set (size-1-k) (zb2 (IntL.toI u64T (zaB n (8*k)))))[j]?=(zaj n size)[j]?:=fun j h1 h2=>by
  rw[List.getElem?_set];by_cases c:size-1-k=j
  · rw[ut c,ut ya]
    unfold zaj;rw[List.getElem?_map,List.getElem?_range h2,Option.map_some];congr 4;omega
  rw[ur c];exact h j ya h2
theorem zj7 {n:UInt64} {size:Nat} {l:List UInt8} (hl:l.length=size) (h:∀j,size-size≤j→j<size→l[j]?=(zaj n size)[j]?):l=zaj n size:=by
  apply List.ext_getElem?;intro j;by_cases c:j<size
  · exact h j ya c
  rw[List.getElem?_eq_none ya,List.getElem?_eq_none (by unfold zaj;simp;omega)]
theorem numbers_ok:Tells P 198 [] (.val (arrT 64 yp u32T) shaK):=by
 refine zc Tryz.func198 rfl rfl rfl (fun ext w hext=>?_);refine CQR ?_;refine zP zru rfl rfl rfl rfl ?_;refine CNQR ?_;refine A0 (zgq (T:=u32T) (xs:=[_,_,_,_,_,_,_,_,_,_,_,_,_,_,_,_,_,_,_,_,_,_,_,_,_,_,_,_,_,_,_,_,_,_,_,_,_,_,_,_,_,_,_,_,_,_,_,_,_,_,_,_,_,_,_,_,_,_,_,_,_,_,_,_]) rfl zja zru yI rfl) ?_;refine zg rfl rfl rfl rfl rfl (Lens.self _) ty_227 rfl ?_;refine CN ?_;exact zq rfl rfl rfl rfl ty_227 (rfl)
theorem zmm (n:UInt64) (size:Nat) (hs:size≤8):Tells P 112 [.val u64T n,.val i64T (size:Int)] (.fresh 5 u8T (zaj n size)):=by
 refine zc Tryz.func112 rfl rfl rfl (fun ext w hext=>?_);refine ze (d:=1) rfl zab (fun hin1=>?_);refine qaB ?_;refine qb2 ?_;refine A0 zbK ?_;refine qa9 ?_;refine zgG (d:=9) rfl (uh (by show ¬((size:Int)<0);omega)) ?_;refine A1 mV ?_;refine A1 zcm ?_;refine A0 oK ?_;refine zgG (d:=12) rfl (uh (by show ¬((8:Int)<(size:Int));omega)) ?_;refine CN ?_;refine Cg ?_;refine qbL ?_;refine zqp (T:=u8T) (n:=size) rfl rfl rfl rfl rfl rfl yh yh zaf ze_5 ⟨by omega,by omega,(show(size)*1≤16777216 by omega)⟩ ?_;refine A0 aO ?_;refine CNQQR ?_;refine qai ?_;refine CNB ?_;refine Lp (ι:=Nat×List UInt8) 1 (fun(k,l)=>((((Fr.none.set 0 (.val u64T n)).set 1 (.val i64T (size:Int))).set 5 (.own 0)).set 15 (.val i64T (size:Int))).set 16 (.val i64T (k:Int))) (fun(k,l)=>Hp.none.set 0 (.row 5 u8T l)) (fun(k,l)=>k≤size∧l.length=size∧∀j,size-k≤j→j<size→l[j]?=(zaj n size)[j]?) (fun(k,l)=>size-k) ((0,List.replicate size 0)) (⟨uf _,by simp,fun j h1 h2=>by omega⟩) ?_;intro⟨k,l⟩ hinv;dsimp only at hinv;refine qas ?_;refine Cf (p:=k<size) (fun ht17=>?_) (fun ht17=>?_)
 ·
  obtain⟨x,hx⟩:∃x,l[size-1-k]?=some x:=yq;refine qbe ?_;refine qci ?_;refine A0 mO ?_;refine qco ?_;refine qco ?_;refine qai ?_;refine A0 zfT ?_;refine xf ?_;refine qbC ?_;refine A0 (zI (i:=size-1-k) rfl rfl rfl rfl yh zch yd) ?_;refine zai rfl rfl rfl rfl rfl rfl yj (Lens.self _) ty_5 rfl ?_;refine qcD ?_;exact Nx ((k+1,l.set (size-1-k) (zb2 (IntL.toI u64T (zaB n (8*k)))))) (⟨by omega,by simp;exact hinv.2.1,ziM ht17 hinv.2.1 hinv.2.2⟩) (by show _<size-k;simp only[];omega)
 refine qa7 ?_;exact za rfl rfl (zf rfl rfl (zj7 hinv.2.1 (by rw[show k=size by omega] at hinv;exact hinv.2.2)))
set_option maxRecDepth 20000
theorem growNil (n:Nat) (hn:n≤140737488355328):Tells P 153 [.lit (.slice none 0 0),.val i64T (n:Int)] (.fresh 5 u8T []):=by
 refine zc Tryz.func153 rfl rfl rfl (fun ext w hext=>?_);refine ze (d:=1) rfl zab (fun hin1=>?_);refine qaB ?_;refine qb2 ?_;refine qa1 ?_;refine zfJ rfl (uh (by show ¬((n:Int)<0);omega)) ?_;refine qce ?_;refine A0 mL ?_;refine A0 (ziU rfl rfl zco) ?_;refine A0 mL ?_;refine A0 yax ?_;refine A0 za1 ?_;refine A0 za1 ?_;refine qaS ?_;refine qc5 ?_;refine zk (p:=0<n) rfl yaL (fun ht16=>?_) (fun ht16=>?_)
 ·
  refine CR ?_;refine A0 mL ?_;refine A0 mL ?_;refine A0 (ziU rfl rfl zco) ?_;refine A0 (by first|exact zd2 rfl rfl rfl yar zch|exact zhR rfl rfl rfl zch yd) ?_;refine qa9 ?_;refine znM (T:=u8T) (n:=n) rfl rfl rfl rfl rfl rfl yar zaf ze_5 (ui_3) (⟨by assumption,by omega,by omega⟩) ?_;refine A0 mL ?_;refine A0 yax ?_;refine A0 (znp (q:=0) rfl rfl rfl rfl zch yh yd) ?_;refine A0 aS ?_;refine CNQR ?_;refine A0 mS ?_;refine A0 aS ?_;refine CN ?_;exact za rfl rfl (zlp rfl rfl yG rfl)
 refine CSQR ?_;refine A0 mL ?_;refine A0 aL ?_;refine CN ?_;exact za rfl rfl (zr rfl)
theorem zbo {α:Type} {ls:List (List α)} {k:Nat} {x:List α} (h:ls[k]?=some x):(ls.take (k+1)).flatten=(ls.take k).flatten++x:=by
  rw[un,h];simp
theorem zft {α:Type} (ls:List (List α)) (k:Nat):(ls.take k).flatten.length≤ls.flatten.length:=by
  conv=>rhs;rw[←List.take_append_drop k ls,List.flatten_append,ue]
  omega
theorem zg4 (ls:List (List UInt8)) (hl:ls.flatten.length≤140737488355328):Tells P 111 [.val (bsl (bsl u8T)) ls] (.fresh 5 u8T ls.flatten):=by
 refine zc Tryz.func111 rfl rfl rfl (fun ext w hext=>?_);refine ze (d:=0) rfl zm (fun hsl0=>?_);refine qaB ?_;refine CNQR ?_;refine qah ?_;refine A0 (zaZ rfl rfl zqW) ?_;refine qbp ?_;refine Lp (ι:=Nat) 0 (fun (k:Nat)=>(((((Fr.none).set 0 (.val (bsl (bsl u8T)) ls)).set 3 (.val i64T ((ls.take k).flatten.length:Int))).set 9 (.val (bsl (bsl u8T)) ls)).set 10 (.val i64T (ls.length:Int))).set 11 (.val i64T (k:Int))) (fun (k:Nat)=>Hp.none) (fun (k:Nat)=>k≤ls.length) (fun (k:Nat)=>ls.length-k) (0) (uf _) ?_;intro k hinv;refine qas ?_;refine Cf (p:=k<ls.length) (fun ht12=>?_) (fun ht12=>?_)
 ·
  obtain⟨x,hx⟩:∃x,ls[k]?=some x:=⟨_,ub ht12⟩;have hle:=zft ls (k+1);rw[zbo hx,ue] at hle;refine CSQBQR ?_;refine A0 (zbj rfl rfl rfl zix yj) ?_;refine A0 (zh rfl rfl zmU) ?_;refine A0 aX ?_;refine qbX ?_;refine A0 mX ?_;refine A0 yax ?_;refine A0 zbh ?_;refine qaS ?_;refine qa1 ?_;refine zfJ rfl (uh yat) ?_;refine qbF ?_;refine zi (d:=3) (y:=((ls.take (k+1)).flatten.length:Int)) rfl (by rw[zbo hx,ue];omega) ?_;exact Nx (k+1) ya ya
 refine zi (d:=3) (y:=((ls.flatten.length:Nat):Int)) rfl yak ?_;refine CE ?_;refine qa0 ?_;refine zam (growNil ls.flatten.length hl) rfl fn_153 ybF rfl rfl rfl ?_;refine A0 aO ?_;refine qb2 ?_;refine A0 (zaZ rfl rfl zqW) ?_;refine qbp ?_;refine Lp (ι:=Nat) 1 (fun k=>(((Fr.none.set 6 (.own 0)).set 25 (.val (bsl (bsl u8T)) ls)).set 26 (.val i64T (ls.length:Int))).set 27 (.val i64T (k:Int))) (fun k=>Hp.none.set 0 (.row 5 u8T (ls.take k).flatten)) (fun k=>k≤ls.length) (fun k=>ls.length-k) (0) (uf _) ?_;intro k hinv;refine qas ?_;refine Cf (p:=k<ls.length) (fun ht28=>?_) (fun ht28=>?_)
 ·
  obtain⟨x,hx⟩:∃x,ls[k]?=some x:=⟨_,ub ht28⟩;have hle:=zft ls (k+1);rw[zbo hx,ue] at hle;refine CSQBQR ?_;refine A0 (zbj rfl rfl rfl zix yj) ?_;refine A0 (zh rfl rfl zmU) ?_;refine A0 aX ?_;refine CNR ?_;refine A0 mO ?_;refine A0 mX ?_;refine zo rfl rfl rfl rfl rfl rfl rfl zaf ya ?_;refine A0 aO ?_;refine qcD ?_;refine xh ?_;refine zB (n:=0) rfl (zbo hx).symm ?_;exact Nx (k+1) ya ya
 refine qa7 ?_;exact za rfl rfl (zf rfl rfl yak)
theorem equalId (l m:List Ab.Id):Tells P 103 [.val (bsl idT) l,.val (bsl idT) m] (.val zu (decide (l=m))):=by
 refine zc Tryz.func103 rfl rfl rfl (fun ext w hext=>?_);refine ze (d:=0) rfl zm (fun hsl0=>?_);refine ze (d:=1) rfl zm (fun hsl1=>?_);refine qcJ ?_;refine qbA ?_;refine qa9 ?_;refine qbA ?_;refine qaT ?_;refine Cf (p:=¬l.length=m.length) (fun ht10=>?_) (fun ht10=>?_)
 ·
  refine qaq ?_;exact za rfl rfl (zb rfl (uh (fun e=>ht10 ybh)).symm)
 refine qce ?_;refine qbA ?_;refine qbp ?_;refine Lp (ι:=Nat) 0 (fun (k:Nat)=>((((Fr.none).set 0 (.val (bsl idT) l)).set 1 (.val (bsl idT) m)).set 12 (.val i64T (l.length:Int))).set 13 (.val i64T (k:Int))) (fun (k:Nat)=>Hp.none) (fun (k:Nat)=>k≤l.length∧l.take k=m.take k) (fun (k:Nat)=>l.length-k) (0) (⟨uf _,by simp⟩) ?_;intro k hinv;refine qas ?_;refine Cf (p:=k<l.length) (fun ht14=>?_) (fun ht14=>?_)
 ·
  obtain⟨x,hx⟩:∃x,l[k]?=some x:=⟨_,ub ht14⟩;obtain⟨y,hy⟩:∃y,m[k]?=some y:=yq;refine qbe ?_;refine qb5 ?_;refine qbk ?_;refine G0 (zbj rfl rfl rfl zdR yj) ?_;refine G0 (zh rfl rfl zT) ?_;refine qbk ?_;refine G0 (zbj rfl rfl rfl zdR yj) ?_;refine G0 (zh rfl rfl zT) ?_;refine G0 (zfs rfl rfl rfl (zdw)) ?_;refine GK.nil ?_;refine zk (p:=¬x=y) rfl yx (fun ht24=>?_) (fun ht24=>?_)
  ·
   refine qaq ?_;exact za rfl rfl (zb rfl (uh (zde hx hy ht24)).symm)
  refine qbF ?_;exact Nx (k+1) (⟨by omega,zaX hx hy hinv.2 (by simpa using ht24)⟩) ya
 refine qcc ?_;exact za rfl rfl (zb rfl (ui yH).symm)
theorem equalIn (l m:List In):Tells P 148 [.val (bsl inT) l,.val (bsl inT) m] (.val zu (decide (l=m))):=by
 refine zc Tryz.func148 rfl rfl rfl (fun ext w hext=>?_);refine ze (d:=0) rfl zm (fun hsl0=>?_);refine ze (d:=1) rfl zm (fun hsl1=>?_);refine qcJ ?_;refine A0 (zaZ rfl rfl ze4) ?_;refine qa9 ?_;refine A0 (zaZ rfl rfl ze4) ?_;refine qaT ?_;refine Cf (p:=¬l.length=m.length) (fun ht10=>?_) (fun ht10=>?_)
 ·
  refine qaq ?_;exact za rfl rfl (zb rfl (uh (fun e=>ht10 ybh)).symm)
 refine qce ?_;refine A0 (zaZ rfl rfl ze4) ?_;refine qbp ?_;refine Lp (ι:=Nat) 0 (fun (k:Nat)=>((((Fr.none).set 0 (.val (bsl inT) l)).set 1 (.val (bsl inT) m)).set 12 (.val i64T (l.length:Int))).set 13 (.val i64T (k:Int))) (fun (k:Nat)=>Hp.none) (fun (k:Nat)=>k≤l.length∧l.take k=m.take k) (fun (k:Nat)=>l.length-k) (0) (⟨uf _,by simp⟩) ?_;intro k hinv;refine qas ?_;refine Cf (p:=k<l.length) (fun ht14=>?_) (fun ht14=>?_)
 ·
  obtain⟨x,hx⟩:∃x,l[k]?=some x:=⟨_,ub ht14⟩;obtain⟨y,hy⟩:∃y,m[k]?=some y:=yq;refine qbe ?_;refine qb5 ?_;refine qbk ?_;refine G0 (zbj rfl rfl rfl zd9 yj) ?_;refine G0 (zh rfl rfl zbI) ?_;refine qbk ?_;refine G0 (zbj rfl rfl rfl zd9 yj) ?_;refine G0 (zh rfl rfl zbI) ?_;refine G0 (zfs rfl rfl rfl (zl6)) ?_;refine GK.nil ?_;refine zk (p:=¬x=y) rfl yx (fun ht24=>?_) (fun ht24=>?_)
  ·
   refine qaq ?_;exact za rfl rfl (zb rfl (uh (zde hx hy ht24)).symm)
  refine qbF ?_;exact Nx (k+1) (⟨by omega,zaX hx hy hinv.2 (by simpa using ht24)⟩) ya
 refine qcc ?_;exact za rfl rfl (zb rfl (ui yH).symm)
theorem equalOut (l m:List Out):Tells P 149 [.val (bsl outT) l,.val (bsl outT) m] (.val zu (decide (l=m))):=by
 refine zc Tryz.func149 rfl rfl rfl (fun ext w hext=>?_);refine ze (d:=0) rfl zm (fun hsl0=>?_);refine ze (d:=1) rfl zm (fun hsl1=>?_);refine qcJ ?_;refine A0 (zaZ rfl rfl zgY) ?_;refine qa9 ?_;refine A0 (zaZ rfl rfl zgY) ?_;refine qaT ?_;refine Cf (p:=¬l.length=m.length) (fun ht10=>?_) (fun ht10=>?_)
 ·
  refine qaq ?_;exact za rfl rfl (zb rfl (uh (fun e=>ht10 ybh)).symm)
 refine qce ?_;refine A0 (zaZ rfl rfl zgY) ?_;refine qbp ?_;refine Lp (ι:=Nat) 0 (fun (k:Nat)=>((((Fr.none).set 0 (.val (bsl outT) l)).set 1 (.val (bsl outT) m)).set 12 (.val i64T (l.length:Int))).set 13 (.val i64T (k:Int))) (fun (k:Nat)=>Hp.none) (fun (k:Nat)=>k≤l.length∧l.take k=m.take k) (fun (k:Nat)=>l.length-k) (0) (⟨uf _,by simp⟩) ?_;intro k hinv;refine qas ?_;refine Cf (p:=k<l.length) (fun ht14=>?_) (fun ht14=>?_)
 ·
  obtain⟨x,hx⟩:∃x,l[k]?=some x:=⟨_,ub ht14⟩;obtain⟨y,hy⟩:∃y,m[k]?=some y:=yq;refine qbe ?_;refine qb5 ?_;refine qbk ?_;refine G0 (zbj rfl rfl rfl zeX yj) ?_;refine G0 (zh rfl rfl zeU) ?_;refine qbk ?_;refine G0 (zbj rfl rfl rfl zeX yj) ?_;refine G0 (zh rfl rfl zeU) ?_;refine G0 (zfs rfl rfl rfl (eqt_123)) ?_;refine GK.nil ?_;refine zk (p:=¬x=y) rfl yx (fun ht24=>?_) (fun ht24=>?_)
  ·
   refine qaq ?_;exact za rfl rfl (zb rfl (uh (zde hx hy ht24)).symm)
  refine qbF ?_;exact Nx (k+1) (⟨by omega,zaX hx hy hinv.2 (by simpa using ht24)⟩) ya
 refine qcc ?_;exact za rfl rfl (zb rfl (ui yH).symm)
theorem zoH (l:List Ab.Id) (hl:l.length*32≤140737488355328∧l.length≤9223372036854775807):Tells P 73 [.val (bsl idT) l] (.fresh 27 idT l):=by
 refine zc Tryz.func73 rfl rfl rfl (fun ext w hext=>?_);refine ze (d:=0) rfl zm (fun hsl0=>?_);refine qaB ?_;refine qb2 ?_;refine zfy rfl rfl rfl rfl rfl zdO (fun c4 hc4=>?_);refine CN ?_;refine zk (p:=c4=true) rfl yx (fun ht4=>?_) (fun ht4=>?_)
 ·
  obtain rfl:=hc4 ht4;refine qaB ?_;refine CN ?_;exact za rfl rfl (zr rfl)
 refine CSQR ?_;refine zbk (T:=idT) (xs:=[]) rfl rfl rfl rfl zdR zey trivial rfl rfl ?_;refine qa9 ?_;refine zo rfl rfl rfl rfl rfl rfl rfl zey yaC ?_;refine qbK ?_;exact za rfl rfl (zf rfl rfl yx)
theorem znF (l:List Total) (hl:l.length*72≤140737488355328∧l.length≤9223372036854775807):Tells P 139 [.val (bsl zao) l] (.fresh 148 zao l):=by
 refine zc Tryz.func139 rfl rfl rfl (fun ext w hext=>?_);refine ze (d:=0) rfl zm (fun hsl0=>?_);refine qaB ?_;refine qb2 ?_;refine zfy rfl rfl rfl rfl rfl zfr (fun c4 hc4=>?_);refine CN ?_;refine zk (p:=c4=true) rfl yx (fun ht4=>?_) (fun ht4=>?_)
 ·
  obtain rfl:=hc4 ht4;refine qaB ?_;refine CN ?_;exact za rfl rfl (zr rfl)
 refine CSQR ?_;refine zbk (T:=zao) (xs:=[]) rfl rfl rfl rfl zeH zfl trivial rfl rfl ?_;refine qa9 ?_;refine zo rfl rfl rfl rfl rfl rfl rfl zfl yaC ?_;refine qbK ?_;exact za rfl rfl (zf rfl rfl yx)
theorem zrc (l:List In) (hl:l.length*40≤140737488355328∧l.length≤9223372036854775807):Tells P 75 [.val (bsl inT) l] (.fresh 120 inT l):=by
 refine zc Tryz.func75 rfl rfl rfl (fun ext w hext=>?_);refine ze (d:=0) rfl zm (fun hsl0=>?_);refine qaB ?_;refine qb2 ?_;refine zfy rfl rfl rfl rfl rfl ze4 (fun c4 hc4=>?_);refine CN ?_;refine zk (p:=c4=true) rfl yx (fun ht4=>?_) (fun ht4=>?_)
 ·
  obtain rfl:=hc4 ht4;refine qaB ?_;refine CN ?_;exact za rfl rfl (zr rfl)
 refine CSQR ?_;refine zbk (T:=inT) (xs:=[]) rfl rfl rfl rfl zd9 row_109 trivial rfl rfl ?_;refine qa9 ?_;refine zo rfl rfl rfl rfl rfl rfl rfl row_109 yaC ?_;refine qbK ?_;exact za rfl rfl (zf rfl rfl yx)
theorem zoG (l:List Out) (hl:l.length*16≤140737488355328∧l.length≤9223372036854775807):Tells P 76 [.val (bsl outT) l] (.fresh 123 outT l):=by
 refine zc Tryz.func76 rfl rfl rfl (fun ext w hext=>?_);refine ze (d:=0) rfl zm (fun hsl0=>?_);refine qaB ?_;refine qb2 ?_;refine zfy rfl rfl rfl rfl rfl zgY (fun c4 hc4=>?_);refine CN ?_;refine zk (p:=c4=true) rfl yx (fun ht4=>?_) (fun ht4=>?_)
 ·
  obtain rfl:=hc4 ht4;refine qaB ?_;refine CN ?_;exact za rfl rfl (zr rfl)
 refine CSQR ?_;refine zbk (T:=outT) (xs:=[]) rfl rfl rfl rfl zeX row_110 trivial rfl rfl ?_;refine qa9 ?_;refine zo rfl rfl rfl rfl rfl rfl rfl row_110 yaC ?_;refine qbK ?_;exact za rfl rfl (zf rfl rfl yx)
theorem cloneTx (l:List Tx) (hl:l.length*48≤140737488355328∧l.length≤9223372036854775807):Tells P 74 [.val (bsl txT) l] (.fresh 112 txT l):=by
 refine zc Tryz.func74 rfl rfl rfl (fun ext w hext=>?_);refine ze (d:=0) rfl zm (fun hsl0=>?_);refine qaB ?_;refine qb2 ?_;refine zfy rfl rfl rfl rfl rfl zsk (fun c4 hc4=>?_);refine CN ?_;refine zk (p:=c4=true) rfl yx (fun ht4=>?_) (fun ht4=>?_)
 ·
  obtain rfl:=hc4 ht4;refine qaB ?_;refine CN ?_;exact za rfl rfl (zr rfl)
 refine CSQR ?_;refine zbk (T:=txT) (xs:=[]) rfl rfl rfl rfl zhI zrP trivial rfl rfl ?_;refine qa9 ?_;refine zo rfl rfl rfl rfl rfl rfl rfl zrP yaC ?_;refine qbK ?_;exact za rfl rfl (zf rfl rfl yx)
theorem equalFTx (l m:List Tx):Tells P 104 [.val (bsl txT) l,.val (bsl txT) m,.fn2 P txT txT zu (fun x y=>decide (x=y))] (.val zu (decide (l=m))):=by
 refine zc Tryz.func104 rfl rfl rfl (fun ext w hext=>?_);refine ze (d:=0) rfl zm (fun hsl0=>?_);refine ze (d:=1) rfl zm (fun hsl1=>?_);refine qcJ ?_;refine qbG ?_;refine qa9 ?_;refine qbG ?_;refine qaT ?_;refine Cf (p:=¬l.length=m.length) (fun ht14=>?_) (fun ht14=>?_)
 ·
  refine qaq ?_;exact za rfl rfl (zb rfl (uh (fun e=>ht14 ybh)).symm)
 refine qce ?_;refine qbG ?_;refine qbp ?_;refine Lp (ι:=Nat) 0 (fun (k:Nat)=>((((((Fr.none).set 0 (.val (bsl txT) l)).set 1 (.val (bsl txT) m)).set 2 (.fn2 P txT txT zu (fun x y=>decide (x=y)))).set 15 (.val (bsl txT) l)).set 16 (.val i64T (l.length:Int))).set 17 (.val i64T (k:Int))) (fun (k:Nat)=>Hp.none) (fun (k:Nat)=>k≤l.length∧l.take k=m.take k) (fun (k:Nat)=>l.length-k) (0) (⟨uf _,by simp⟩) ?_;intro k hinv;refine qas ?_;refine Cf (p:=k<l.length) (fun ht18=>?_) (fun ht18=>?_)
 ·
  obtain⟨x,hx⟩:∃x,l[k]?=some x:=⟨_,ub ht18⟩;obtain⟨y,hy⟩:∃y,m[k]?=some y:=yq;refine qbe ?_;refine qbo ?_;refine A0 aV ?_;refine qca ?_;refine CNQR ?_;refine qai ?_;refine qbo ?_;refine qca ?_;refine CNQR ?_;refine A0 mH ?_;refine qb0 ?_;refine qb0 ?_;refine A0 (zkN rfl rfl yl yl) ?_;refine qaQ ?_;refine zk (p:=¬x=y) rfl yx (fun ht30=>?_) (fun ht30=>?_)
  ·
   refine qaq ?_;exact za rfl rfl (zb rfl (uh (zde hx hy ht30)).symm)
  refine qbF ?_;exact Nx (k+1) (⟨by omega,zaX hx hy hinv.2 (by simpa using ht30)⟩) ya
 refine qcc ?_;exact za rfl rfl (zb rfl (ui yH).symm)
theorem zmg (a b:Tx):Tells P 105 [.val txT a,.val txT b] (.val zu (decide (a=b))):=by
 refine zc Tryz.func105 rfl rfl rfl (fun ext w hext=>?_);refine qaw ?_;refine qaj ?_;refine qc7 ?_;refine qc7 ?_;refine A0 (oCl (equalIn _ _) rfl fn_148 yf) ?_;refine Sp (d:=9) (p:=a.ins=b.ins) (fun g9=>?_) (fun g9=>?_)
 ·
  refine qa9 ?_;refine A1 (oFp zbd) ?_;refine A1 (oLb zaU zdp) ?_;refine A1 (oFp zbd) ?_;refine A1 (oLb zaU zdp) ?_;refine A1 (oCl (equalOut _ _) rfl fn_149 yf) ?_;refine qbi ?_;exact za rfl rfl (zb rfl y4)
 refine qa9 ?_;refine qac ?_;refine qcI ?_;refine qbi ?_;exact za rfl rfl (zb rfl (by symm;apply uh;intro h;exact g9 (by rw[h])))
def padZ (n:Nat):Nat:=(64-(n+9)%64)%64
def zcl (b:List UInt8):List UInt8:=(b++128::List.replicate (padZ b.length) 0)++zaj (8*z6 (IntL.toI i64T (b.length:Int))) 8
theorem ziK (b:List UInt8):(b++128::List.replicate (padZ b.length) 0).length=b.length+1+padZ b.length:=yG
theorem pad_step {b l:List UInt8} {k:Nat} (hk:k<8) (hl:l.length=b.length+padZ b.length+9) (h:∀j,j<b.length+padZ b.length+1∨b.length+padZ b.length+9-k≤j→l[j]?=(zcl b)[j]?) :
    ∀j,j<b.length+padZ b.length+1∨b.length+padZ b.length+9-(k+1)≤j→(l.set (b.length+padZ b.length+8-k) (zb2 (IntL.toI u64T (zaB (8*z6 (IntL.toI i64T (b.length:Int))) (8*k)))))[j]?=(zcl b)[j]?:=fun j hj=>by
  rw[List.getElem?_set];by_cases c:b.length+padZ b.length+8-k=j
  · rw[ut c,ut ya]
    unfold zcl;rw[List.getElem?_append_right (by rw[ziK];omega),ziK];unfold zaj;rw[List.getElem?_map,List.getElem?_range ya,Option.map_some];congr 4;omega
  rw[ur c];exact h j ya
theorem pad_start {b:List UInt8} {j:Nat} (hj:j<b.length+padZ b.length+1∨b.length+padZ b.length+9-0≤j):([b,[128],List.replicate (padZ b.length+8) 0].flatten)[j]?=(zcl b)[j]?:=by
  unfold zcl;have e:[b,[128],List.replicate (padZ b.length+8) (0:UInt8)].flatten=(b++128::List.replicate (padZ b.length) 0)++List.replicate 8 0:=by
    rw[←List.replicate_append_replicate];simp
  rw[e];have hl:=ziK b;generalize b++128::List.replicate (padZ b.length) 0=pre at hl;rcases hj with hj|hj
  · rw[List.getElem?_append_left ya,List.getElem?_append_left ya]
  rw[List.getElem?_append_right ya,List.getElem?_append_right ya,hl];rw[List.getElem?_eq_none yG,List.getElem?_eq_none (by unfold zaj;simp;omega)]
theorem pad_all {b l:List UInt8} (h:∀j,j<b.length+padZ b.length+1∨b.length+padZ b.length+9-8≤j→l[j]?=(zcl b)[j]?):l=zcl b:=List.ext_getElem? fun j=>h j ya
theorem pad_ok (b:List UInt8) (hb:b.length≤70368744177664):Tells P 155 [.val (sl u8T) b] (.fresh 5 u8T (zcl b)):=by
 have hz:((padZ b.length:Nat):Int)=(64-((b.length:Int)+1+8)%64)%64:=by unfold padZ;omega
 have hz2:padZ b.length<64:=by unfold padZ;omega
 refine zc Tryz.func155 rfl rfl rfl (fun ext w hext=>?_);refine ze (d:=0) rfl zm (fun hsl0=>?_);refine qaB ?_;refine qbX ?_;refine A0 (zaZ rfl rfl zco) ?_;refine A0 zbh ?_;refine A0 zbh ?_;refine qbj ?_;refine A0 za1 ?_;refine qbj ?_;refine qaS ?_;refine qaz ?_;refine qa9 ?_;refine A0 zbh ?_;refine zqp (T:=u8T) (n:=padZ b.length+8) rfl rfl rfl rfl rfl rfl yh yh zaf ze_5 ⟨by omega,by omega,(show(padZ b.length+8)*1≤16777216 by omega)⟩ ?_;refine zfx (d:=17) rfl rfl ?_;refine A0 (zW (T:=(sl u8T)) (xs:=[_,_,_]) rfl zix zjt ⟨rfl,rfl,rfl,rfl,rfl,rfl,trivial⟩ rfl rfl) ?_;refine zam (zg4 [b,[128],List.replicate (padZ b.length+8) 0] yG) rfl zp3 ye rfl rfl rfl ?_;refine A0 aO ?_;refine CNQQR ?_;refine qbp ?_;refine Lp (ι:=Nat×List UInt8) 2 (fun(k,l)=>((Fr.none.set 0 (.val (sl u8T) b)).set 4 (.own 1)).set 20 (.val i64T (k:Int))) (fun(k,l)=>Hp.none.set 1 (.row 5 u8T l)) (fun(k,l)=>k≤8∧l.length=b.length+padZ b.length+9∧∀j,j<b.length+padZ b.length+1∨b.length+padZ b.length+9-k≤j→l[j]?=(zcl b)[j]?) (fun(k,l)=>8-k) ((0,[b,[128],List.replicate (padZ b.length+8) 0].flatten)) (⟨uf _,by simp;omega,fun j h=>pad_start h⟩) ?_;intro⟨k,l⟩ hinv;dsimp only at hinv;refine qas ?_;refine Cf (p:=k<8) (fun ht21=>?_) (fun ht21=>?_)
 ·
  obtain⟨x,hx⟩:∃x,l[b.length+padZ b.length+8-k]?=some x:=yq;refine qbe ?_;refine qci ?_;refine A0 mO ?_;refine A0 mO ?_;refine A0 (za9 rfl rfl rfl zco) ?_;refine A0 za1 ?_;refine qco ?_;refine qa9 ?_;refine A0 (zaZ rfl rfl zco) ?_;refine A0 (zdv rfl (zhX) (us_3) rfl) ?_;refine A0 (zg0 rfl rfl rfl) ?_;refine qa9 ?_;refine A0 zfT ?_;refine xf ?_;refine qbC ?_;refine A0 (zI (i:=b.length+padZ b.length+8-k) rfl rfl rfl rfl yh zch yd) ?_;refine zai rfl rfl rfl rfl rfl rfl yj (Lens.self _) ty_5 rfl ?_;refine qcD ?_;exact Nx ((k+1,l.set (b.length+padZ b.length+8-k) (zb2 (IntL.toI u64T (zaB (8*z6 (IntL.toI i64T (b.length:Int))) (8*k)))))) (⟨by omega,by simp;exact hinv.2.1,pad_step ht21 hinv.2.1 hinv.2.2⟩) (by show _<8-k;simp only[];omega)
 refine qa7 ?_;exact za rfl rfl (zf rfl rfl (pad_all (by rw[show k=8 by omega] at hinv;exact hinv.2.2)))
def putIn (x:In):List UInt8:=x.tx++[zb2 (IntL.toI i64T x.i)]
def zrW (o:Out):List UInt8:=zaj (z6 (IntL.toI i64T o.v)) 6++[zb2 (IntL.toI i64T o.to)]
def zgQ (t:Tx) (k:Nat):List UInt8:=zb2 (IntL.toI i64T (t.ins.length:Int))::((t.ins.take k).map putIn).flatten
def zdj (t:Tx) (k:Nat):List UInt8:=zgQ t t.ins.length++[zb2 (IntL.toI i64T (t.outs.length:Int))]++((t.outs.take k).map zrW).flatten
def zqO (t:Tx):List UInt8:=zdj t t.outs.length
theorem zgj {t:Tx} {k:Nat} {x:In} (h:t.ins[k]?=some x):zgQ t (k+1)=zgQ t k++x.tx++[zb2 (IntL.toI i64T x.i)]:=by
  unfold zgQ;rw[un,h];simp[putIn]
theorem zfo {t:Tx} {k:Nat} {x:Out} (h:t.outs[k]?=some x):zdj t (k+1)=zdj t k++zaj (z6 (IntL.toI i64T x.v)) 6++[zb2 (IntL.toI i64T x.to)]:=by
  unfold zdj;rw[un,h];simp[zrW]
theorem fact_in {U N:Nat→Prop} {w:World} {x:In} {cs:List Value} (h:inT.rel U N w x cs):x.tx.length=32:=by
  obtain⟨c1,c2,_,h1,_⟩:=h;exact h1.1
theorem zkR {t:Tx} {ρ:Nat→Value} {B:Nat→Prop} {U N:Nat→Prop} {w:World} {v:Value} (h:(AV.val txT t).rel ρ B U N w v):t.ins.length≤9223372036854775807∧t.outs.length≤9223372036854775807:=by
  obtain⟨cs,⟨c1,c2,_,⟨_,cap,_,h1,h2,_⟩,⟨_,cap',_,h3,h4,_⟩⟩,_⟩:=h;unfold maxLen at h2 h4;exact⟨Nat.le_trans h1 h2,Nat.le_trans h3 h4⟩
theorem zU (n:UInt64) (s:Nat):(zaj n s).length=s:=by simp[zaj]
theorem zcT {t:Tx} (h:zaz t=true):t.ins.length≤3∧0<t.outs.length∧t.outs.length≤3:=by
  unfold zaz at h;simp only[uk,uj] at h;exact⟨h.2.1,h.2.2.1,h.2.2.2.1⟩
theorem put_ok (t:Tx):Tells P 192 [.val txT t] (.tup2 (.fresh 5 u8T (if zaz t=true then zqO t else [])) (.val zu (zaz t))):=by
 refine zc Tryz.func192 rfl rfl rfl (fun ext w hext=>?_);refine qbO ?_;refine qcH ?_;refine qb0 ?_;refine A0 (oCl (zof _) rfl fn_185 ye) ?_;refine qaQ ?_;refine zk (p:=¬zaz t=true) rfl yx (fun ht11=>?_) (fun ht11=>?_)
 ·
  refine qaB ?_;refine qad ?_;exact zac rfl rfl (by rw[ur ht11];exact zr rfl) (zb rfl (by simpa using ht11))
 have hmay:=ua ht11;obtain⟨hmi,hm0,hmo⟩:=zcT hmay;refine CSQR ?_;refine qa3 ?_;refine xi ?_;refine zbk (T:=u8T) (xs:=[_]) rfl rfl rfl rfl zch zaf yz rfl rfl ?_;refine A0 aO ?_;refine CNQQR ?_;refine qa3 ?_;refine qbp ?_;refine Lp (ι:=Nat) 2 (fun k=>((((Fr.none.set 1 (.ptr 0 0)).set 4 (.own 1)).set 18 (.val (sl inT) t.ins)).set 19 (.val i64T (t.ins.length:Int))).set 20 (.val i64T (k:Int))) (fun k=>(Hp.none.set 0 (.box 112 txT t)).set 1 (.row 5 u8T (zgQ t k))) (fun k=>k≤t.ins.length∧(zgQ t k).length=33*k+1) (fun k=>t.ins.length-k) (0) (⟨uf _,by simp[zgQ]⟩) ?_;intro k hinv;obtain⟨hk,hpl⟩:=hinv;have hinv:=And.intro hk hpl;refine qas ?_;refine Cf (p:=k<t.ins.length) (fun ht21=>?_) (fun ht21=>?_)
 ·
  obtain⟨x,hx⟩:∃x,t.ins[k]?=some x:=⟨_,ub ht21⟩;refine CSQBQR ?_;refine qc6 ?_;refine zg rfl rfl rfl rfl rfl (Lens.self _) zbI rfl ?_;refine CN ?_;refine aw_factb (n:=2) rfl fact_in (fun hx32=>?_);refine zn [some 1,some 1,some 1,none,some 2,some 2,some 2,some 2,none,some 1] mixed yc ?_;refine X0 mO ?_;refine X0 (oFp zcH) ?_;refine X0 (zlW rfl rfl zc8 rfl rfl) ?_;refine XK.e (fun fr' hfr kk H=>by exact zrk rfl rfl rfl rfl ((hfr 24 yc).trans rfl) rfl ((hfr 26 yc).trans rfl) rfl zd0 zaf (by show(_+x.tx.length)*1≤_∧_+x.tx.length≤_;omega) (zp H)) ?_;refine XK.g2 (zc6 rfl rfl zbm rfl) (zc6 rfl rfl zbm rfl) rfl rfl rfl ?_;refine XK.gb (t:=28) rfl rfl (fun _ he=>zl rfl rfl he zeo ty_3) rfl yz rfl rfl rfl ?_;refine XK.g2 (zhL rfl (ui_5) (us_3) rfl) (zhL rfl (ui_5) (us_3) rfl) rfl rfl rfl ?_;refine XK.g2 (zW (T:=u8T) (xs:=[_]) rfl zch zaf yz rfl rfl) (zW (T:=u8T) (xs:=[_]) rfl zch zaf yz rfl rfl) rfl rfl rfl ?_;refine XK.e (fun fr' hfr kk H=>by exact zo rfl rfl rfl rfl ((hfr 27 yc).trans rfl) rfl ((hfr 31 yc).trans rfl) zaf (by simp only[ue,List.length_cons,List.length_nil,hx32];omega) (zp H)) ?_;refine X0 aO ?_;refine qba ?_;refine qan ?_;refine zcj 4 1 5 rfl rfl rfl rfl rfl rfl ?_;refine zB (n:=1) rfl (zgj hx).symm ?_;exact Nx (k+1) (⟨by omega,by rw[zgj hx];simp only[ue,List.length_cons,List.length_nil,hx32];omega⟩) ya
 obtain rfl:k=t.ins.length:=ya;obtain⟨hli,_⟩:=hinv;refine qbQ ?_;refine A0 mO ?_;refine qaP ?_;refine xi ?_;refine qaz ?_;refine zo rfl rfl rfl rfl rfl rfl rfl zaf yV ?_;refine A0 aO ?_;refine CNQQR ?_;refine qaP ?_;refine qbp ?_;refine qbS ?_;refine zB (y:=zdj t 0) (n:=1) rfl (by simp[zdj]) ?_;refine Lp (ι:=Nat) 2 (fun k=>((((Fr.none.set 1 (.ptr 0 0)).set 4 (.own 1)).set 42 (.val (sl outT) t.outs)).set 43 (.val i64T (t.outs.length:Int))).set 44 (.val i64T (k:Int))) (fun k=>(Hp.none.set 0 (.box 112 txT t)).set 1 (.row 5 u8T (zdj t k))) (fun k=>k≤t.outs.length∧(zdj t k).length=7*k+2+33*t.ins.length) (fun k=>t.outs.length-k) (0) (⟨uf _,by simp[zdj,hpl];omega⟩) ?_;intro k hinv;refine qas ?_;refine Cf (p:=k<t.outs.length) (fun ht45=>?_) (fun ht45=>?_)
 ·
  obtain⟨x,hx⟩:∃x,t.outs[k]?=some x:=⟨_,ub ht45⟩;refine CSQBQR ?_;refine A0 (zbj rfl rfl rfl zeX yj) ?_;refine qcw ?_;refine CN ?_;refine zn [some 1,some 1,some 1,some 1,some 1,none,some 2,some 2,some 2,some 2,none,some 1] mixed yc ?_;refine X0 mO ?_;refine X0 (oFp zb9) ?_;refine X0 (oLb zdo ty_3) ?_;refine X0 (zdv rfl (zhX) (us_3) rfl) ?_;refine X0 (oCl (zF (zmm _ 6 yp)) rfl fn_112 yf) ?_;refine XK.e (fun fr' hfr kk H=>by exact zo rfl rfl rfl rfl ((hfr 48 yc).trans rfl) rfl ((hfr 52 yc).trans rfl) zaf yas (zp H)) ?_;refine XK.g2 (zc6 rfl rfl zcV rfl) (zc6 rfl rfl zcV rfl) rfl rfl rfl ?_;refine XK.gb (t:=54) rfl rfl (fun _ he=>zl rfl rfl he zdL ty_3) rfl yz rfl rfl rfl ?_;refine XK.g2 (zhL rfl (ui_5) (us_3) rfl) (zhL rfl (ui_5) (us_3) rfl) rfl rfl rfl ?_;refine XK.g2 (zW (T:=u8T) (xs:=[_]) rfl zch zaf yz rfl rfl) (zW (T:=u8T) (xs:=[_]) rfl zch zaf yz rfl rfl) rfl rfl rfl ?_;refine XK.e (fun fr' hfr kk H=>by exact zo rfl rfl rfl rfl ((hfr 53 yc).trans rfl) rfl ((hfr 57 yc).trans rfl) zaf yas (zp H)) ?_;refine X0 aO ?_;refine qba ?_;refine qan ?_;refine zcj 4 1 5 rfl rfl rfl rfl rfl rfl ?_;refine zB (n:=1) rfl (zfo hx).symm ?_;exact Nx (k+1) (⟨by omega,by rw[zfo hx];simp only[ue,List.length_cons,List.length_nil,zU];omega⟩) ya
 refine qbQ ?_;refine A0 mO ?_;refine A0 aO ?_;refine qad ?_;exact zac rfl rfl (zf rfl rfl (by rw[ut hmay,show k=t.outs.length by omega];rfl)) (zb rfl hmay.symm)
def rr (x:UInt32) (n:Int):UInt32:=rotl x (IntKind.i64.wrap (0-n))
def zsQ (x0 x1 x2 x3:UInt8):UInt32:=zpi (zex (IntL.toI u8T x0)) 24|||zpi (zex (IntL.toI u8T x1)) 16|||zpi (zex (IntL.toI u8T x2)) 8|||zex (IntL.toI u8T x3)
def zlg (a b x y:UInt32):UInt32:=a+b+(rr x 7^^^rr x 18^^^zdy x 3)+(rr y 17^^^rr y 19^^^zdy y 10)
def zfQ (b:List UInt8) (w:List UInt32) (i:Nat):List UInt32 :=
  if i<16 then w.set i (zsQ (b.getD (4*i) default) (b.getD (4*i+1) default) (b.getD (4*i+2) default) (b.getD (4*i+3) default))
  else w.set i (zlg (w.getD (i-16) default) (w.getD (i-7) default) (w.getD (i-15) default) (w.getD (i-2) default))
def zaS (b:List UInt8) (k:Nat):List UInt32:=(List.range k).foldl (zfQ b) (List.replicate 64 0)
def roundX (v w:List UInt32) (i:Nat):UInt32:=v.getD 7 default+(rr (v.getD 4 default) 6^^^rr (v.getD 4 default) 11^^^rr (v.getD 4 default) 25)+((v.getD 4 default&&&v.getD 5 default)^^^(~~~ (v.getD 4 default)&&&v.getD 6 default))+shaK.getD i default+w.getD i default
def roundY (v:List UInt32):UInt32:=(rr (v.getD 0 default) 2^^^rr (v.getD 0 default) 13^^^rr (v.getD 0 default) 22)+((v.getD 0 default&&&v.getD 1 default)^^^(v.getD 0 default&&&v.getD 2 default)^^^(v.getD 1 default&&&v.getD 2 default))
def zll (w v:List UInt32) (i:Nat):List UInt32:=[roundX v w i+roundY v,v.getD 0 default,v.getD 1 default,v.getD 2 default,v.getD 3 default+roundX v w i,v.getD 4 default,v.getD 5 default,v.getD 6 default]
def zez (w s:List UInt32) (k:Nat):List UInt32:=(List.range k).foldl (zll w) s
def sumN (v s:List UInt32) (k:Nat):List UInt32:=(List.range k).foldl (fun s i=>s.set i (s.getD i default+v.getD i default)) s
def addOf (s:List UInt32) (b:List UInt8):List UInt32:=sumN (zez (zaS b 64) s 64) s 8
theorem zcu {α:Type} {f:α→Nat→α} {z:α} {k:Nat}:(List.range (k+1)).foldl f z=f ((List.range k).foldl f z) k:=by rw[List.range_succ,List.foldl_append];rfl
theorem zrM {b:List UInt8} {k:Nat} {x0 x1 x2 x3:UInt8} (hk:k<16) (h0:b[4*k]?=some x0) (h1:b[4*k+1]?=some x1) (h2:b[4*k+2]?=some x2) (h3:b[4*k+3]?=some x3):(zaS b k).set k (zsQ x0 x1 x2 x3)=zaS b (k+1):=by
  unfold zaS;rw[zcu];unfold zfQ;rw[ut hk];simp only[uq,h0,h1,h2,h3,Option.getD_some]
theorem zrN {b:List UInt8} {k:Nat} (hk:¬k<16):(zaS b k).set k (zlg ((zaS b k).getD (k-16) default) ((zaS b k).getD (k-7) default) ((zaS b k).getD (k-15) default) ((zaS b k).getD (k-2) default))=zaS b (k+1):=by
  have e:zaS b (k+1)=zfQ b (zaS b k) k:=zcu;rw[e];unfold zfQ;rw[ur hk]
theorem zju {w s:List UInt32} {k:Nat}:zll w (zez w s k) k=zez w s (k+1):=zcu.symm
theorem zrD {v s:List UInt32} {k:Nat} {x:UInt32} (h:v[k]?=some x):(sumN v s k).set k ((sumN v s k).getD k default+x)=sumN v s (k+1):=by
  have e:sumN v s (k+1)=_:=zcu;rw[e];show _=(sumN v s k).set k ((sumN v s k).getD k default+v.getD k default);rw[uq (l:=v),h];rfl
theorem zhn {w s:List UInt32} (hs:s.length=8):∀k,(zez w s k).length=8
  | 0=>hs
  | k+1=>by rw[←zju];rfl
theorem add_ok (s:List UInt32) (b:List UInt8) (hb:b.length=64) (hs:s.length=8):zfz P 156 (.box 196 (arrT 8 yp u32T) s) [.ptr 0 0,.val (bsl u8T) b] (.lit (.tuple #[])) (.box 196 (arrT 8 yp u32T) (addOf s b)):=by
 refine zfZ trivial Tryz.func156 rfl rfl ⟨Nat.one_pos,⟨trivial,trivial⟩⟩ (fun ext pg w hext hgr=>?_);refine ze (d:=1) rfl zm (fun hsl1=>?_);refine CQR ?_;refine zP zru rfl rfl rfl rfl ?_;refine CNQQR ?_;refine qbp ?_;refine Lp (ι:=Nat) 2 (fun (k:Nat)=>((((Fr.none).set 0 (.ptr 0 0)).set 1 (.val (bsl u8T) b)).set 4 (.ptr 1 0)).set 17 (.val i64T (k:Int))) (fun (k:Nat)=>((Hp.none).set 0 (.box 196 (arrT 8 yp u32T) s)).set 1 (.box 227 (arrT 64 yp u32T) (zaS b k))) (fun (k:Nat)=>k≤64) (fun (k:Nat)=>64-k) (0) (uf _) ?_;intro k hinv;refine qas ?_;refine Cf (p:=k<64) (fun ht18=>?_) (fun ht18=>?_)
 ·
  refine qbe ?_;refine qah ?_;refine qa1 ?_;refine Cf (p:=k<16) (fun ht21=>?_) (fun ht21=>?_)
  ·
   obtain⟨x0,hx0⟩:∃x,b[4*k]?=some x:=yq;obtain⟨x1,hx1⟩:∃x,b[4*k+1]?=some x:=yq;obtain⟨x2,hx2⟩:∃x,b[4*k+2]?=some x:=yq;obtain⟨x3,hx3⟩:∃x,b[4*k+3]?=some x:=yq;refine CQ ?_;refine zn [some 1,some 1,some 1,some 1,some 1,some 1,some 1,some 1,some 1,some 1,some 1,some 1,some 1,some 1,some 1,some 1,some 1,some 1,some 1,some 1,some 1,some 1,some 1,some 1,some 1,some 1,some 1,some 1,some 1,some 1,some 1,some 1,some 1,some 1,some 1,none] mixed yc ?_;refine qb7 ?_;refine X0 mV ?_;refine X0 zfT ?_;refine X0 (zD (i:=4*k) rfl rfl rfl ya zch yj) ?_;refine qbu ?_;refine X0 (zor rfl rfl rfl yo rfl) ?_;refine qb7 ?_;refine X0 zfT ?_;refine X0 zbh ?_;refine X0 (zD (i:=4*k+1) rfl rfl rfl ya zch yj) ?_;refine qbu ?_;refine X0 (zor rfl rfl rfl yo rfl) ?_;refine X0 (znq rfl rfl rfl) ?_;refine qb7 ?_;refine X0 zfT ?_;refine X0 zbh ?_;refine X0 (zD (i:=4*k+2) rfl rfl rfl ya zch yj) ?_;refine qbu ?_;refine X0 (zor rfl rfl rfl yo rfl) ?_;refine X0 (znq rfl rfl rfl) ?_;refine qb7 ?_;refine X0 zfT ?_;refine X0 zbh ?_;refine X0 (zD (i:=4*k+3) rfl rfl rfl ya zch yj) ?_;refine qbu ?_;refine X0 (znq rfl rfl rfl) ?_;refine X0 (zs (i:=k) rfl rfl rfl yh zja ya) ?_;refine XK.e (x:=.idk) (fun fr' hfr kk H=>by exact zg rfl rfl rfl ((hfr 56 yc).trans rfl) rfl (Lens.elem (i:=k) ya u32T) zaY ((hfr 55 yc).trans rfl) (zp H)) ?_;refine xc ?_;refine CE ?_;refine CR ?_;refine qan ?_;refine zJ (n:=1) rfl (zrM ht21 hx0 hx1 hx2 hx3) ?_;exact Nx (k+1) ya ya
  refine CS ?_;refine qaH ?_;refine G0 mV ?_;refine G0 za1 ?_;refine G0 (zs (i:=k-15) rfl rfl rfl yh zja ya) ?_;refine G0 (zl rfl rfl rfl (Lens.elem (i:=k-15) ya u32T) zaY) ?_;refine G0 mV ?_;refine G0 za1 ?_;refine G0 (zs (i:=k-2) rfl rfl rfl yh zja ya) ?_;refine G0 (zl rfl rfl rfl (Lens.elem (i:=k-2) ya u32T) zaY) ?_;refine G0 aV ?_;refine qa6 ?_;refine zn [some 1,some 1,some 1,some 1,some 1,some 1,some 1,some 1,some 1,some 1,some 1,some 1,some 1,some 1,some 1,some 1,some 1,some 1,some 1,some 1,some 1,some 1,some 1,some 1,some 1,some 1,some 1,some 1,some 1,none] mixed yc ?_;refine qb7 ?_;refine X0 za1 ?_;refine X0 (zs (i:=k-16) rfl rfl rfl yh zja ya) ?_;refine X0 (zl rfl rfl rfl (Lens.elem (i:=k-16) ya u32T) zaY) ?_;refine X0 mV ?_;refine X0 za1 ?_;refine X0 (zs (i:=k-7) rfl rfl rfl yh zja ya) ?_;refine X0 (zl rfl rfl rfl (Lens.elem (i:=k-7) ya u32T) zaY) ?_;refine qcq ?_;refine qc3 ?_;refine qc3 ?_;refine X0 (zlU rfl rfl rfl) ?_;refine X0 mV ?_;refine X0 (zlX rfl rfl rfl yo rfl) ?_;refine X0 (zlU rfl rfl rfl) ?_;refine qcq ?_;refine qc3 ?_;refine qc3 ?_;refine X0 (zlU rfl rfl rfl) ?_;refine X0 mV ?_;refine X0 (zlX rfl rfl rfl yo rfl) ?_;refine X0 (zlU rfl rfl rfl) ?_;refine qcq ?_;refine X0 (zs (i:=k) rfl rfl rfl yh zja ya) ?_;refine XK.e (x:=.idk) (fun fr' hfr kk H=>by exact zg rfl rfl rfl ((hfr 93 yc).trans rfl) rfl (Lens.elem (i:=k) ya u32T) zaY ((hfr 92 yc).trans rfl) (zp H)) ?_;refine qba ?_;refine qan ?_;refine zJ (n:=1) rfl (zrN ht21) ?_;exact Nx (k+1) ya ya
 obtain rfl:k=64:=ya;refine qbQ ?_;refine A0 (oCl (numbers_ok) rfl fn_198 trivial) ?_;refine zP zru rfl rfl rfl rfl ?_;refine zg rfl rfl rfl rfl rfl (Lens.self _) ty_227 rfl ?_;refine CNQR ?_;refine A0 mP ?_;refine A0 (g_nc rfl rfl) ?_;refine A0 (oLs rfl rfl rfl zrz) ?_;refine zP ze_196 rfl rfl rfl rfl ?_;refine zg rfl rfl rfl rfl rfl (Lens.self _) zrz rfl ?_;refine CNQQR ?_;refine qbp ?_;refine Lp (ι:=Nat) 4 (fun k=>((((Fr.none.set 0 (.ptr 0 0)).set 4 (.ptr 1 0)).set 8 (.ptr 2 0)).set 9 (.ptr 3 0)).set 99 (.val i64T (k:Int))) (fun k=>(((Hp.none.set 0 (.box 196 (arrT 8 yp u32T) s)).set 1 (.box 227 (arrT 64 yp u32T) (zaS b 64))).set 2 (.box 227 (arrT 64 yp u32T) shaK)).set 3 (.box 196 (arrT 8 yp u32T) (zez (zaS b 64) s k))) (fun k=>k≤64) (fun k=>64-k) (0) (uf _) ?_;intro k hinv;refine qas ?_;refine Cf (p:=k<64) (fun ht100=>?_) (fun ht100=>?_)
 ·
  refine qbe ?_;refine qb5 ?_;refine G0 (zs (i:=0) rfl rfl rfl yh zdx ya) ?_;refine G0 (zl rfl rfl rfl (Lens.elem (i:=0) ya u32T) zaY) ?_;refine G0 (zs (i:=4) rfl rfl rfl yh zdx ya) ?_;refine G0 (zl rfl rfl rfl (Lens.elem (i:=4) ya u32T) zaY) ?_;refine G0 aV ?_;refine qa6 ?_;refine qaH ?_;refine G0 (zs (i:=7) rfl rfl rfl yh zdx ya) ?_;refine G0 (zl rfl rfl rfl (Lens.elem (i:=7) ya u32T) zaY) ?_;refine qb4 ?_;refine qb4 ?_;refine qbY ?_;refine qb4 ?_;refine qbY ?_;refine xj ?_;refine G0 mV ?_;refine G0 (zs (i:=5) rfl rfl rfl yh zdx ya) ?_;refine G0 (zl rfl rfl rfl (Lens.elem (i:=5) ya u32T) zaY) ?_;refine xk ?_;refine G0 mV ?_;refine G0 (g_not32 rfl rfl) ?_;refine G0 (zs (i:=6) rfl rfl rfl yh zdx ya) ?_;refine G0 (zl rfl rfl rfl (Lens.elem (i:=6) ya u32T) zaY) ?_;refine xk ?_;refine qbY ?_;refine xj ?_;refine G0 mV ?_;refine G0 (zs (i:=k) rfl rfl rfl yh zja ya) ?_;refine G0 (zl rfl rfl rfl (Lens.elem (i:=k) ya u32T) zaY) ?_;refine xj ?_;refine G0 mV ?_;refine G0 (zs (i:=k) rfl rfl rfl yh zja ya) ?_;refine G0 (zl rfl rfl rfl (Lens.elem (i:=k) ya u32T) zaY) ?_;refine xj ?_;refine qa6 ?_;refine qaH ?_;refine qb4 ?_;refine qb4 ?_;refine qbY ?_;refine qb4 ?_;refine qbY ?_;refine G0 mV ?_;refine G0 (zs (i:=1) rfl rfl rfl yh zdx ya) ?_;refine G0 (zl rfl rfl rfl (Lens.elem (i:=1) ya u32T) zaY) ?_;refine xk ?_;refine G0 mV ?_;refine G0 (zs (i:=2) rfl rfl rfl yh zdx ya) ?_;refine G0 (zl rfl rfl rfl (Lens.elem (i:=2) ya u32T) zaY) ?_;refine xk ?_;refine qbY ?_;refine G0 (zs (i:=1) rfl rfl rfl yh zdx ya) ?_;refine G0 (zl rfl rfl rfl (Lens.elem (i:=1) ya u32T) zaY) ?_;refine G0 (zs (i:=2) rfl rfl rfl yh zdx ya) ?_;refine G0 (zl rfl rfl rfl (Lens.elem (i:=2) ya u32T) zaY) ?_;refine xk ?_;refine qbY ?_;refine xj ?_;refine qa6 ?_;refine CR ?_;refine qai ?_;refine A0 (zdT rfl rfl rfl) ?_;refine qa9 ?_;refine A0 (zs (i:=1) rfl rfl rfl yh zdx ya) ?_;refine A0 (zl rfl rfl rfl (Lens.elem (i:=1) ya u32T) zaY) ?_;refine A0 (zs (i:=2) rfl rfl rfl yh zdx ya) ?_;refine A0 (zl rfl rfl rfl (Lens.elem (i:=2) ya u32T) zaY) ?_;refine A0 (zs (i:=3) rfl rfl rfl yh zdx ya) ?_;refine A0 (zl rfl rfl rfl (Lens.elem (i:=3) ya u32T) zaY) ?_;refine qa9 ?_;refine A0 (zdT rfl rfl rfl) ?_;refine qa9 ?_;refine A0 (zs (i:=5) rfl rfl rfl yh zdx ya) ?_;refine A0 (zl rfl rfl rfl (Lens.elem (i:=5) ya u32T) zaY) ?_;refine A0 (zs (i:=6) rfl rfl rfl yh zdx ya) ?_;refine A0 (zl rfl rfl rfl (Lens.elem (i:=6) ya u32T) zaY) ?_;refine A0 (zgq (T:=u32T) (xs:=[_,_,_,_,_,_,_,_]) rfl zdx ze_196 yai rfl) ?_;refine zg rfl rfl rfl rfl rfl (Lens.self _) zrz rfl ?_;refine qcD ?_;refine zJ (n:=3) rfl zju ?_;exact Nx (k+1) ya ya
 obtain rfl:k=64:=ya;refine qbQ ?_;refine A0 (oLs rfl rfl rfl zrz) ?_;refine qbp ?_;refine Lp (ι:=Nat) 1 (fun (k:Nat)=>(((Fr.none).set 0 (.ptr 0 0)).set 179 (.val (arrT 8 yp u32T) (zez (zaS b 64) s 64))).set 180 (.val i64T (k:Int))) (fun (k:Nat)=>(Hp.none).set 0 (.box 196 (arrT 8 yp u32T) (sumN (zez (zaS b 64) s 64) s k))) (fun (k:Nat)=>k≤8) (fun (k:Nat)=>8-k) (0) (uf _) ?_;intro k hinv;refine qas ?_;refine Cf (p:=k<8) (fun ht181=>?_) (fun ht181=>?_)
 ·
  obtain⟨x,hx⟩:∃x,(zez (zaS b 64) s 64)[k]?=some x:=⟨_,ub (by rw[zhn hs];exact ht181)⟩;refine qbe ?_;refine A0 (g_index rfl rfl rfl rfl zdx zaY yj) ?_;refine qb6 ?_;refine xm ?_;refine X0 mP ?_;refine X0 mV ?_;refine X0 (g_nc rfl rfl) ?_;refine X0 (zs (i:=k) rfl rfl rfl yh zdx ya) ?_;refine X0 (zl rfl rfl rfl (Lens.elem (i:=k) ya u32T) zaY) ?_;refine X0 mV ?_;refine qcq ?_;refine X0 (g_nc rfl rfl) ?_;refine X0 (zs (i:=k) rfl rfl rfl yh zdx ya) ?_;refine XK.e (x:=.idk) (fun fr' hfr kk H=>by exact zg rfl rfl rfl ((hfr 192 yc).trans rfl) rfl (Lens.elem (i:=k) ya u32T) zaY ((hfr 190 yc).trans rfl) (zp H)) ?_;refine qba ?_;refine qan ?_;refine zJ (n:=0) rfl (zrD hx) ?_;exact Nx (k+1) ya ya
 obtain rfl:k=8:=ya;refine CE ?_;exact zqq rfl rfl rfl rfl rfl (zbV rfl rfl)
theorem zpB (b:List UInt8):(zcl b).length=64*((b.length+padZ b.length+9)/64):=by
  have h:(zcl b).length=b.length+padZ b.length+9:=by
    unfold zcl;rw[ue,ziK];unfold zaj;simp;omega
  rw[h];unfold padZ;omega
def shaH:List UInt32:=[1779033703,3144134277,1013904242,2773480762,1359893119,2600822924,528734635,1541459225]
def shaN (p:List UInt8) (n:Nat):List UInt32:=(List.range n).foldl (fun s i=>addOf s ((p.take (64*i+64)).drop (64*i))) shaH
def znU (b:List UInt8):List UInt32:=shaN (zcl b) ((zcl b).length/64)
def zh3 (v:List UInt32) (i:Nat):UInt8:=zb2 (IntL.toI u32T (zdy (v.getD (i/4) default) (24-8*(i%4))))
def zea (b:List UInt8):Ab.Id:=(List.range 32).map (zh3 (znU b))
def zdA (v:List UInt32) (k:Nat):Ab.Id:=(List.range k).foldl (fun l i=>l.set i (zh3 v i)) zId
theorem zg1 {α:Type} (f:Nat→α) (l:List α):∀k j,((List.range k).foldl (fun l i=>l.set i (f i)) l)[j]?=if j<k∧j<l.length then some (f j) else l[j]?
  | 0,j=>by simp
  | k+1,j=>by
    rw[List.range_succ,List.foldl_append];show(List.set _ k (f k))[j]?=_;have hl:∀k,((List.range k).foldl (fun l i=>l.set i (f i)) l).length=l.length:=fun k=>by
      induction k with
      | zero=>rfl
      | succ k ih=>rw[List.range_succ,List.foldl_append];simp only[List.foldl_cons,List.foldl_nil,List.length_set];exact ih
    rw[List.getElem?_set,zg1 f l k j,hl];by_cases c:k=j
    · subst c
      by_cases d:k<l.length
      · simp[d]
      simp[d]
    rw[ur c];by_cases d:j<k
    · have:j<k+1:=by omega
      simp[d,this]
    have:¬j<k+1:=ya
    simp[d,this]
theorem zm0 (v:List UInt32):zdA v 32=(List.range 32).map (zh3 v):=by
  apply List.ext_getElem?;intro j;unfold zdA;rw[zg1,List.getElem?_map];have hz:zId.length=32:=rfl;rw[hz];by_cases c:j<32
  · rw[ut ⟨c,c⟩,List.getElem?_range c];rfl
  rw[ur (fun h=>c h.1),List.getElem?_eq_none (by first|(rw[hz];omega)|(rw[List.length_range];omega)),List.getElem?_eq_none (by first|(rw[hz];omega)|(rw[List.length_range];omega))];rfl
theorem zeY {v:List UInt32} {k:Nat} {x:UInt8} (h:x=zh3 v k):(zdA v k).set k x=zdA v (k+1):=by
  subst h;unfold zdA;rw[List.range_succ,List.foldl_append];rfl
theorem zlc {p:List UInt8} {k:Nat}:addOf (shaN p k) ((p.take (64*k+64)).drop (64*k))=shaN p (k+1):=by
  unfold shaN;rw[List.range_succ,List.foldl_append];rfl
theorem znR {v s:List UInt32}:∀k,(sumN v s k).length=s.length
  | 0=>rfl
  | k+1=>by
    unfold sumN;rw[List.range_succ,List.foldl_append];simp only[List.foldl_cons,List.foldl_nil,List.length_set];exact znR k
theorem zkA (p:List UInt8):∀k,(shaN p k).length=8
  | 0=>rfl
  | k+1=>by rw[←zlc];unfold addOf;rw[znR];exact zkA p k
theorem zrE (b:List UInt8) (hb:b.length≤70368744177664):Tells P 113 [.val (sl u8T) b] (.val idT (zea b)):=by
 obtain⟨m,hm⟩:∃m,m=(b.length+padZ b.length+9)/64:=⟨_,rfl⟩;have hz2:padZ b.length<64:=by unfold padZ;omega
 have hpl:(zcl b).length=64*m:=by rw[zpB,hm]
 have hmb:m≤2000000000000:=ya;refine zc Tryz.func113 rfl rfl rfl (fun ext w hext=>?_);refine ze (d:=0) rfl zm (fun hsl0=>?_);refine CQR ?_;refine qaI ?_;refine CNQR ?_;refine A0 (zgq (T:=u32T) (xs:=[_,_,_,_,_,_,_,_]) rfl zdx ze_196 yai rfl) ?_;refine zmu rfl rfl rfl rfl rfl ?_;refine aw_alloc_p zp_194 rfl rfl rfl rfl rfl rfl ?_;refine zcW rfl rfl rfl rfl rfl rfl rfl rfl rfl rfl ty_194 ?_;refine qb2 ?_;refine A0 (oCl (zF (pad_ok b hb)) rfl fn_155 ye) ?_;refine zdJ rfl rfl rfl rfl Tryz.func154 fn_154 rfl rfl (fun ia2 iok2=>?_);refine qaw ?_;refine A0 aL ?_;refine CNQQR ?_;refine A0 (oLs rfl rfl rfl ty_3) ?_;refine qa1 ?_;refine zfJ rfl yp ?_;refine CSQR ?_;refine A0 (zpT (caps:=[_,_]) rfl rfl) ?_;refine A0 aC ?_;refine CN ?_;refine zaM rfl ?_;refine CNB ?_;refine zoN rfl rfl rfl Tryz.func196 fn_196 rfl rfl ybb (fun fid3 ca3 lN3 DN3 cok3 rc3 hrc3=>?_);refine CQR ?_;refine qcn ?_;refine Lp (ι:=Nat) 7 (fun (k:Nat)=>((((Fr.none).set 0 (.lit (.func (.yield lN3) #[] #[]))).set 1 (.ptr 3 0)).set 2 (.ptr 4 0)).set 4 (.val i64T ((64*k:Nat):Int))) (fun (k:Nat)=>(((((((Hp.none).set 0 (.box 27 idT zId)).set 1 (.box 196 (arrT 8 yp u32T) (shaN (zcl b) k))).set 2 (.parts 194 [.ptr 1 0])).set 3 (.box 101 (sl u8T) (zcl b))).set 4 (.box 3 i64T 64)).set 5 (.objAt DN3 (.deferred (some [])))).set 6 (.objAt lN3 (rc3 .ready none))) (fun (k:Nat)=>k≤m) (fun (k:Nat)=>m-k) (0) (uf _) ?_;intro k hinv;refine qaK ?_;refine A0 (oLs rfl rfl rfl zmU) ?_;refine A0 (zaZ rfl rfl zco) ?_;refine qa1 ?_;refine Cf (p:=64*k<(zcl b).length) (fun ht9=>?_) (fun ht9=>?_)
 ·
  refine qcK ?_;refine G0 (oLs rfl rfl rfl ty_3) ?_;refine G0 (oLs rfl rfl rfl zmU) ?_;refine G0 mV ?_;refine G0 (ziT rfl rfl rfl zch yd) ?_;refine G0 (zaZ rfl rfl zco) ?_;refine G0 (g_min rfl rfl rfl) ?_;refine qa6 ?_;refine zi (d:=5) (y:=(64:Int)) rfl yG ?_;refine CQR ?_;refine A0 mL ?_;refine A0 (oLs rfl rfl rfl zmU) ?_;refine qai ?_;refine qa9 ?_;refine A0 zbh ?_;refine qai ?_;refine A0 zbh ?_;refine A0 (g_sl_lhm rfl rfl rfl rfl rfl zch yG) ?_;refine zi (d:=28) (y:=((zcl b).take (64*k+64)).drop (64*k)) rfl (by congr 1) ?_;refine zoK (nL:=6) rfl rfl rfl rfl rfl hrc3 rfl rfl rfl (fun ya4 yok4=>?_);refine CR ?_;refine qad ?_;refine zoQ (nL:=6) hrc3 rfl ?_;refine CB ?_;refine CR ?_;refine A0 (zbW rfl rfl rfl rfl rfl ty_194) ?_;refine qa9 ?_;refine zhF (add_ok (shaN (zcl b) k) (((zcl b).take (64*k+64)).drop (64*k)) (by rw[List.length_drop,um];omega) (zkA _ k)) rfl fn_156 rfl trivial trivial rfl ybI rfl rfl rfl ?_;refine CN ?_;refine CI ?_;refine zhc (nL:=6) hrc3 rfl ?_;refine qaQ ?_;refine Cg ?_;refine CSIR ?_;refine qa9 ?_;refine A0 (oLs rfl rfl rfl ty_3) ?_;refine A0 zbh ?_;refine qad ?_;refine zi (d:=4) (y:=((64*(k+1):Nat):Int)) rfl ya ?_;refine zJ (n:=1) (y:=shaN (zcl b) (k+1)) rfl zlc ?_;exact Nx (k+1) ya ya
 obtain rfl:m=k:=ya;refine CE ?_;refine zhd (nL:=6) rfl hrc3 rfl yp ?_;refine CI ?_;refine CQR ?_;refine qaI ?_;refine CNQQR ?_;refine qbp ?_;refine Lp (ι:=Nat) 8 (fun (j:Nat)=>((((Fr.none).set 2 (.ptr 0 0)).set 3 (.ptr 2 0)).set 5 (.ptr 7 0)).set 16 (.val i64T (j:Int))) (fun (j:Nat)=>(((((Hp.none).set 0 (.box 27 idT zId)).set 1 (.box 196 (arrT 8 yp u32T) (shaN (zcl b) m))).set 2 (.parts 194 [.ptr 1 0])).set 5 (.objAt DN3 (.deferred (some [])))).set 7 (.box 27 idT (zdA (shaN (zcl b) m) j))) (fun (j:Nat)=>j≤32) (fun (j:Nat)=>32-j) (0) (uf _) ?_;intro j hinv;refine qas ?_;refine Cf (p:=j<32) (fun ht17=>?_) (fun ht17=>?_)
 ·
  refine qbe ?_;refine qci ?_;refine qa9 ?_;refine A0 (zbW rfl rfl rfl rfl rfl ty_194) ?_;refine qa9 ?_;refine qbx ?_;refine A0 (g_nc rfl rfl) ?_;refine A0 (zs (i:=j/4) rfl rfl rfl yh zdx ya) ?_;refine A0 (zl rfl rfl rfl (Lens.elem (i:=j/4) ya u32T) zaY) ?_;refine qa9 ?_;refine qbj ?_;refine A0 zfT ?_;refine A0 za1 ?_;refine A0 (zlX rfl rfl rfl yo rfl) ?_;refine A0 (zhL rfl (ui_5) (zk3) rfl) ?_;refine A0 (zs (i:=j) rfl rfl rfl yh zc8 ya) ?_;refine zg rfl rfl rfl rfl rfl (Lens.elem (i:=j) ya u8T) ty_5 rfl ?_;refine qcD ?_;refine zJ (n:=7) (y:=zdA (shaN (zcl b) m) (j+1)) rfl (zeY (by unfold zh3;congr 3;simp only[IntL.toI,id_eq];omega)) ?_;exact Nx (j+1) ya ya
 obtain rfl:j=32:=ya;refine qbQ ?_;refine qbw ?_;refine qcb ?_;refine zcb (zi9 (nD:=5) rfl rfl rfl ?_);exact zoT rfl rfl rfl rfl zT yby
def idOf (t:Tx):Ab.Id:=if zaz t=true then zea ([6]++zqO t) else zId
theorem zjy {α:Type} {T:GoT α} {U N:Nat→Prop} {w:World}:∀{l:List α} {cs:List Value},zaa T U N w l cs→∀x∈l,∃c,T.rel U N w x c
  | [],_,_,x,hx=>by cases hx
  | y::l,_,⟨c1,c2,_,h1,h2⟩,x,hx=>by
    rcases List.mem_cons.1 hx with e|e
    · exact⟨c1,e▸h1⟩
    exact zjy h2 x e
theorem zq3 {t:Tx} {ρ:Nat→Value} {B:Nat→Prop} {U N:Nat→Prop} {w:World} {v:Value} (h:(AV.val txT t).rel ρ B U N w v):∀x∈t.ins,x.tx.length=32:=fun x hx=>by
  obtain⟨cs,⟨c1,c2,_,⟨ad,cap,_,_,_,h3⟩,_⟩,_⟩:=h;obtain⟨_,ds,_,_,hr,_⟩:=h3 (List.ne_nil_of_mem hx);obtain⟨c,hc⟩:=zjy hr x hx;exact fact_in hc
theorem zgr {α β:Type} {f:α→List β} {n:Nat}:∀{l:List α},(∀x∈l,(f x).length=n)→(l.map f).flatten.length=l.length*n
  | [],_=>by simp
  | x::l,h=>by
    rw[List.map_cons,List.flatten_cons,ue,h x yx,zgr (fun y hy=>h y ybi),List.length_cons,Nat.add_mul];omega
theorem zpw {t:Tx} (h:zaz t=true) (h32:∀x∈t.ins,x.tx.length=32):(zqO t).length≤200:=by
  obtain⟨h1,_,h2⟩:=zcT h;unfold zqO zdj zgQ;have e1:=zgr (f:=putIn) (n:=33) (l:=t.ins.take t.ins.length) (fun x hx=>by
    rw[List.take_length] at hx;unfold putIn;rw[ue,h32 x hx];rfl)
  have e2:=zgr (f:=zrW) (n:=7) (l:=t.outs.take t.outs.length) (fun x hx=>by
    unfold zrW;rw[ue,zU];rfl)
  rw[List.take_length] at e1 e2;simp only[ue,List.length_cons,List.length_nil,List.take_length,e1,e2];omega
theorem of_ok (ls:List (List UInt8)) (hl:ls.flatten.length≤70368744177664):Tells P 65 [.val (bsl (bsl u8T)) ls] (.val idT (zea ls.flatten)):=by
 refine zc Tryz.func65 rfl rfl rfl (fun ext w hext=>?_);refine ze (d:=0) rfl zm (fun hsl0=>?_);refine CQR ?_;refine qaI ?_;refine qbX ?_;refine A0 (oCl (zF (zg4 ls ya)) rfl zp3 ye) ?_;refine A0 (oCl (zrE ls.flatten hl) rfl zsy ye) ?_;refine qcb ?_;exact zq rfl rfl rfl rfl zT (rfl)
theorem id_ok (t:Tx):Tells P 146 [.val txT t] (.val idT (idOf t)):=by
 refine zc Tryz.func146 rfl rfl rfl (fun ext w hext=>?_);refine ze (d:=0) rfl zq3 (fun h32=>?_);refine qaf ?_;refine qaI ?_;refine CNQR ?_;refine qb0 ?_;refine A0 (oCl (zdP (put_ok t)) rfl fn_192 ye) ?_;refine qcz ?_;refine zk (p:=¬zaz t=true) rfl yx (fun ht11=>?_) (fun ht11=>?_)
 ·
  refine CQR ?_;refine A0 (zdF rfl zc8 zqB rfl) ?_;refine qcb ?_;exact zq rfl rfl rfl rfl zT (by unfold idOf;rw[ur ht11])
 refine zi (d:=3) rfl (ut (ua ht11)) ?_;refine CSQR ?_;refine qaz ?_;refine qa9 ?_;refine A0 (zW (T:=(sl u8T)) (xs:=[_,_]) rfl zix zjt yaJ rfl rfl) ?_;refine A0 (oCl (of_ok [[6],zqO t] (by have:=zpw (ua ht11) h32;simp;omega)) rfl fn_65 ye) ?_;refine qcb ?_;exact zq rfl rfl rfl rfl zT (by unfold idOf;rw[ut (ua ht11)];simp)
def setN {α:Type} (f:Nat→α) (z:List α) (k:Nat):List α:=(List.range k).foldl (fun l i=>l.set i (f i)) z
theorem zeZ {α:Type} {f:Nat→α} {z:List α} {k:Nat}:(setN f z k).set k (f k)=setN f z (k+1):=(zcu (f:=fun (l:List α) i=>l.set i (f i))).symm
theorem ziA {α:Type} {f:Nat→α} {z:List α} {k:Nat} (h:z.length=k):setN f z k=(List.range k).map f:=by
  apply List.ext_getElem?;intro j;unfold setN;rw[zg1,List.getElem?_map];by_cases c:j<k
  · rw[ut ⟨c,by omega⟩,List.getElem?_range c];rfl
  rw[ur ya,List.getElem?_eq_none ya,List.getElem?_eq_none yG];rfl
theorem zgv {a:Ab.Id} {ρ:Nat→Value} {B:Nat→Prop} {U N:Nat→Prop} {w:World} {v:Value} (h:(AV.val idT a).rel ρ B U N w v):a.length=32:=by
  obtain⟨cs,h,_⟩:=h;exact h.1
theorem zaC {a:Wide} {ρ:Nat→Value} {B:Nat→Prop} {U N:Nat→Prop} {w:World} {v:Value} (h:(AV.val zL a).rel ρ B U N w v):a.length=4:=by
  obtain⟨cs,h,_⟩:=h;exact h.1
def cmpU (x y:UInt64):Int:=if x<y then -1 else if y<x then 1 else 0
def atW (a:Wide) (i:Int):UInt64:=if i<0∨4≤i then 0 else a.getD i.toNat default
def upF (a:Wide) (n:Int) (i:Nat):UInt64:=zhJ (atW a ((i:Int)-n/64)) (n%64).toNat|||zaB (zaB (atW a ((i:Int)-n/64-1)) 1) (63-n%64).toNat
def upW (a:Wide) (n:Int):Wide:=if n<0 then a else if 256≤n then zax else (List.range 4).map (upF a n)
def zmL (a:Wide) (n:Int) (i:Nat):UInt64:=zaB (atW a ((i:Int)+n/64)) (n%64).toNat|||zhJ (zhJ (atW a ((i:Int)+n/64+1)) 1) (63-n%64).toNat
def zc2 (a:Wide) (n:Int):Wide:=if n<0 then a else if 256≤n then zax else (List.range 4).map (zmL a n)
def zoJ (a:Wide) (i:Nat):UInt8:=zb2 (IntL.toI u64T (zaB (a.getD (3-i/8) default) (56-8*((i:Int)%8)).toNat))
def zi5 (a:Wide):Ab.Id:=(List.range 32).map (zoJ a)
def of32S (b:Ab.Id) (w:Wide) (i:Nat):Wide:=w.set (3-i/8) (zhJ (w.getD (3-i/8) default) 8|||z6 (IntL.toI u8T (b.getD i default)))
def zn8 (b:Ab.Id) (k:Nat):Wide:=(List.range k).foldl (of32S b) zax
def zgR (b:Ab.Id):Wide:=zn8 b 32
def cmpW (a b:Wide):Int:=orL [cmpU (a.getD 3 default) (b.getD 3 default),cmpU (a.getD 2 default) (b.getD 2 default),cmpU (a.getD 1 default) (b.getD 1 default),cmpU (a.getD 0 default) (b.getD 0 default)]
theorem zpM (x:UInt64):Tells P 109 [.val u64T x] (.val zu false):=by
 refine zc Tryz.func109 rfl rfl rfl (fun ext w hext=>?_);refine CQR ?_;refine qbW ?_;refine A0 zeb ?_;refine qad ?_;exact za rfl rfl (zcL (by simp[Fr.set]))
theorem zoF (x y:UInt64):Tells P 63 [.val u64T x,.val u64T y] (.val i64T (cmpU x y)):=by
 refine zc Tryz.func63 rfl rfl rfl (fun ext w hext=>?_);refine CQR ?_;refine qaS ?_;refine A0 (oCl (zpM _) rfl fn_109 ye) ?_;refine qaS ?_;refine A0 (oCl (zpM _) rfl fn_109 ye) ?_;refine qah ?_;refine CN ?_;refine Cg ?_;refine qce ?_;refine CN ?_;refine Cg ?_;refine CSQQR ?_;refine qai ?_;refine qa1 ?_;refine zk (p:=x<y) rfl yaS (fun ht16=>?_) (fun ht16=>?_)
 ·
  refine qaq ?_;exact za rfl rfl (zb rfl y8)
 refine CSQQR ?_;refine qai ?_;refine qc5 ?_;refine zk (p:=y<x) rfl yaS (fun ht19=>?_) (fun ht19=>?_)
 ·
  refine qaq ?_;exact za rfl rfl (zb rfl y8)
 refine CSQR ?_;refine qad ?_;exact za rfl rfl (zb rfl y8)
theorem zsU (a:Wide) (i:Int):Tells P 150 [.val zL a,.val i64T i] (.val u64T (atW a i)):=by
 refine zc Tryz.func150 rfl rfl rfl (fun ext w hext=>?_);refine ze (d:=1) rfl zab (fun hin1=>?_);refine ze (d:=0) rfl zaC (fun ha=>?_);refine qaf ?_;refine qah ?_;refine A0 zbK ?_;refine Sp (d:=6) (p:=i<0) (fun g6=>?_) (fun g6=>?_)
 ·
  refine qa9 ?_;refine qc1 ?_;refine Ct ?_;refine qaq ?_;exact za rfl rfl (zb rfl (by unfold atW;rw[ut (.inl g6)];rfl))
 refine qa9 ?_;refine A1 mV ?_;refine A1 zec ?_;refine Sp (d:=9) (p:=4≤i) (fun g9=>?_) (fun g9=>?_)
 ·
  refine qar ?_;refine Ct ?_;refine qaq ?_;exact za rfl rfl (zb rfl (by unfold atW;rw[ut (.inr g9)];rfl))
 refine qar ?_;refine Cg ?_;refine qbL ?_;refine A0 (zs (i:=i.toNat) rfl rfl rfl yh zaO ya) ?_;refine A0 (zl rfl rfl rfl (Lens.elem (i:=i.toNat) ya u64T) zaQ) ?_;refine qad ?_;exact za rfl rfl (zb rfl (by unfold atW;rw[ur ya]))
theorem upW_ok (a:Wide) (n:Int):Tells P 106 [.val zL a,.val i64T n] (.val zL (upW a n)):=by
 refine zc Tryz.func106 rfl rfl rfl (fun ext w hext=>?_);refine ze (d:=1) rfl zab (fun hin1=>?_);refine ze (d:=0) rfl zaC (fun ha=>?_);refine qaf ?_;refine qau ?_;refine qb2 ?_;refine qa1 ?_;refine Cf (p:=n<0) (fun ht10=>?_) (fun ht10=>?_)
 ·
  refine qbs ?_;exact zq rfl rfl rfl rfl zV (by unfold upW;rw[ut ht10])
 refine qce ?_;refine qbP ?_;refine Cf (p:=256≤n) (fun ht13=>?_) (fun ht13=>?_)
 ·
  refine qaL ?_;refine CN ?_;exact zq rfl rfl rfl rfl zV (by unfold upW;rw[ur ht10,ut ht13])
 refine CSQR ?_;refine qau ?_;refine qbX ?_;refine qbx ?_;refine qa9 ?_;refine qbj ?_;refine A0 aV ?_;refine qah ?_;refine CNB ?_;refine Lp (ι:=Nat) 3 (fun (k:Nat)=>((((((Fr.none).set 2 (.ptr 0 0)).set 4 (.ptr 1 0)).set 5 (.ptr 2 0)).set 6 (.val i64T (n/64))).set 7 (.val i64T (n%64))).set 19 (.val i64T (k:Int))) (fun (k:Nat)=>(((Hp.none).set 0 (.box 30 zL a)).set 1 (.box 30 zL zax)).set 2 (.box 30 zL (setN (upF a n) zax k))) (fun (k:Nat)=>k≤4) (fun (k:Nat)=>4-k) (0) (uf _) ?_;intro k hinv;refine qas ?_;refine Cf (p:=k<4) (fun ht20=>?_) (fun ht20=>?_)
 ·
  refine qbe ?_;refine qad ?_;refine zn [some 1,some 1,some 1,some 1,some 1,some 1,some 1,some 1,some 1,some 1,some 1,some 1,some 1,some 1,some 1,some 1,some 1,some 1,some 1,some 1,none] mixed yc ?_;refine X0 mV ?_;refine qcm ?_;refine qb7 ?_;refine X0 za1 ?_;refine X0 (oCl (zsU _ _) rfl zsv yf) ?_;refine X0 mV ?_;refine X0 (zlY rfl rfl rfl yo rfl) ?_;refine qcm ?_;refine qb7 ?_;refine X0 za1 ?_;refine X0 za1 ?_;refine X0 (oCl (zsU _ _) rfl zsv yf) ?_;refine X0 (zce rfl rfl rfl yo rfl) ?_;refine X0 mV ?_;refine X0 za1 ?_;refine X0 (zce rfl rfl rfl yo rfl) ?_;refine X0 (zso rfl rfl rfl) ?_;refine xo ?_;refine XK.e (x:=.idk) (fun fr' hfr kk H=>by exact zg rfl rfl rfl ((hfr 41 yc).trans rfl) rfl (Lens.elem (i:=k) ya u64T) zaQ ((hfr 40 yc).trans rfl) (zp H)) ?_;refine qba ?_;refine qan ?_;refine zJ (n:=2) (y:=setN (upF a n) zax (k+1)) rfl zeZ ?_;exact Nx (k+1) ya ya
 obtain rfl:k=4:=ya;refine CE ?_;refine qbs ?_;exact zq rfl rfl rfl rfl zV (by unfold upW;rw[ur ht10,ur ht13];exact ziA rfl)
theorem downW_ok (a:Wide) (n:Int):Tells P 235 [.val zL a,.val i64T n] (.val zL (zc2 a n)):=by
 refine zc Tryz.func235 rfl rfl rfl (fun ext w hext=>?_);refine ze (d:=1) rfl zab (fun hin1=>?_);refine ze (d:=0) rfl zaC (fun ha=>?_);refine qaf ?_;refine qau ?_;refine qb2 ?_;refine qa1 ?_;refine Cf (p:=n<0) (fun ht10=>?_) (fun ht10=>?_)
 ·
  refine qbs ?_;exact zq rfl rfl rfl rfl zV (by unfold zc2;rw[ut ht10])
 refine qce ?_;refine qbP ?_;refine Cf (p:=256≤n) (fun ht13=>?_) (fun ht13=>?_)
 ·
  refine qaL ?_;refine CN ?_;exact zq rfl rfl rfl rfl zV (by unfold zc2;rw[ur ht10,ut ht13])
 refine CSQR ?_;refine qau ?_;refine qbX ?_;refine qbx ?_;refine qa9 ?_;refine qbj ?_;refine A0 aV ?_;refine qah ?_;refine CNB ?_;refine Lp (ι:=Nat) 3 (fun (k:Nat)=>((((((Fr.none).set 2 (.ptr 0 0)).set 4 (.ptr 1 0)).set 5 (.ptr 2 0)).set 6 (.val i64T (n/64))).set 7 (.val i64T (n%64))).set 19 (.val i64T (k:Int))) (fun (k:Nat)=>(((Hp.none).set 0 (.box 30 zL a)).set 1 (.box 30 zL zax)).set 2 (.box 30 zL (setN (zmL a n) zax k))) (fun (k:Nat)=>k≤4) (fun (k:Nat)=>4-k) (0) (uf _) ?_;intro k hinv;refine qas ?_;refine Cf (p:=k<4) (fun ht20=>?_) (fun ht20=>?_)
 ·
  refine qbe ?_;refine qad ?_;refine zn [some 1,some 1,some 1,some 1,some 1,some 1,some 1,some 1,some 1,some 1,some 1,some 1,some 1,some 1,some 1,some 1,some 1,some 1,some 1,some 1,none] mixed yc ?_;refine X0 mV ?_;refine qcm ?_;refine qb7 ?_;refine X0 zbh ?_;refine X0 (oCl (zsU _ _) rfl zsv yf) ?_;refine X0 mV ?_;refine X0 (zce rfl rfl rfl yo rfl) ?_;refine qcm ?_;refine qb7 ?_;refine X0 zbh ?_;refine X0 zbh ?_;refine X0 (oCl (zsU _ _) rfl zsv yf) ?_;refine X0 (zlY rfl rfl rfl yo rfl) ?_;refine X0 mV ?_;refine X0 za1 ?_;refine X0 (zlY rfl rfl rfl yo rfl) ?_;refine X0 (zso rfl rfl rfl) ?_;refine xo ?_;refine XK.e (x:=.idk) (fun fr' hfr kk H=>by exact zg rfl rfl rfl ((hfr 41 yc).trans rfl) rfl (Lens.elem (i:=k) ya u64T) zaQ ((hfr 40 yc).trans rfl) (zp H)) ?_;refine qba ?_;refine qan ?_;refine zJ (n:=2) (y:=setN (zmL a n) zax (k+1)) rfl zeZ ?_;exact Nx (k+1) ya ya
 obtain rfl:k=4:=ya;refine CE ?_;refine qbs ?_;exact zq rfl rfl rfl rfl zV (by unfold zc2;rw[ur ht10,ur ht13];exact ziA rfl)
theorem zqk (a:Wide):Tells P 110 [.val zL a] (.val idT (zi5 a)):=by
 refine zc Tryz.func110 rfl rfl rfl (fun ext w hext=>?_);refine ze (d:=0) rfl zaC (fun ha=>?_);refine qaf ?_;refine qaI ?_;refine CNQR ?_;refine qaI ?_;refine CNQQR ?_;refine qbp ?_;refine Lp (ι:=Nat) 3 (fun (k:Nat)=>((((Fr.none).set 1 (.ptr 0 0)).set 2 (.ptr 1 0)).set 3 (.ptr 2 0)).set 5 (.val i64T (k:Int))) (fun (k:Nat)=>(((Hp.none).set 0 (.box 30 zL a)).set 1 (.box 27 idT zId)).set 2 (.box 27 idT (setN (zoJ a) zId k))) (fun (k:Nat)=>k≤32) (fun (k:Nat)=>32-k) (0) (uf _) ?_;intro k hinv;refine qas ?_;refine Cf (p:=k<32) (fun ht6=>?_) (fun ht6=>?_)
 ·
  refine qbe ?_;refine qci ?_;refine qai ?_;refine qbx ?_;refine A0 za1 ?_;refine A0 (zs (i:=3-k/8) rfl rfl rfl yh zaO ya) ?_;refine A0 (zl rfl rfl rfl (Lens.elem (i:=3-k/8) ya u64T) zaQ) ?_;refine qa9 ?_;refine qbj ?_;refine A0 zfT ?_;refine A0 za1 ?_;refine xf ?_;refine qbC ?_;refine A0 (zs (i:=k) rfl rfl rfl yh zc8 ya) ?_;refine zg rfl rfl rfl rfl rfl (Lens.elem (i:=k) ya u8T) ty_5 rfl ?_;refine qcD ?_;refine zJ (n:=2) (y:=setN (zoJ a) zId (k+1)) rfl zeZ ?_;exact Nx (k+1) ya ya
 obtain rfl:k=32:=ya;refine qbQ ?_;refine qbw ?_;refine qcb ?_;exact zq rfl rfl rfl rfl zT (ziA rfl)
theorem of32W_ok (b:Ab.Id):Tells P 233 [.val idT b] (.val zL (zgR b)):=by
 refine zc Tryz.func233 rfl rfl rfl (fun ext w hext=>?_);refine ze (d:=0) rfl zgv (fun hb=>?_);refine qaf ?_;refine qau ?_;refine CNQR ?_;refine qau ?_;refine CNQQR ?_;refine qbw ?_;refine qbp ?_;refine Lp (ι:=Nat) 3 (fun (k:Nat)=>((((Fr.none).set 2 (.ptr 1 0)).set 3 (.ptr 2 0)).set 7 (.val idT b)).set 8 (.val i64T (k:Int))) (fun (k:Nat)=>((Hp.none).set 1 (.box 30 zL zax)).set 2 (.box 30 zL (zn8 b k))) (fun (k:Nat)=>k≤32) (fun (k:Nat)=>32-k) (0) (uf _) ?_;intro k hinv;refine qas ?_;refine Cf (p:=k<32) (fun ht9=>?_) (fun ht9=>?_)
 ·
  obtain⟨x,hx⟩:∃x,b[k]?=some x:=yq;refine qbe ?_;refine A0 (g_index rfl rfl rfl rfl zc8 ty_5 yj) ?_;refine A0 aV ?_;refine qaS ?_;refine qbx ?_;refine A0 za1 ?_;refine qci ?_;refine qai ?_;refine A0 (zs (i:=3-k/8) rfl rfl rfl yh zaO ya) ?_;refine A0 (zl rfl rfl rfl (Lens.elem (i:=3-k/8) ya u64T) zaQ) ?_;refine A0 (zlY rfl rfl rfl yo rfl) ?_;refine qa9 ?_;refine A0 (zdv rfl (zhX) (us_5) rfl) ?_;refine A0 (zso rfl rfl rfl) ?_;refine A0 (zs (i:=3-k/8) rfl rfl rfl yh zaO ya) ?_;refine zg rfl rfl rfl rfl rfl (Lens.elem (i:=3-k/8) ya u64T) zaQ rfl ?_;refine qcD ?_;refine zJ (n:=2) (y:=zn8 b (k+1)) rfl (by unfold zn8;rw[zcu];unfold of32S;rw[uq (l:=b),hx];rfl) ?_;exact Nx (k+1) ya ya
 obtain rfl:k=32:=ya;refine CE ?_;refine qbs ?_;exact zq rfl rfl rfl rfl zV (rfl)
theorem zjN (a b:Wide):Tells P 32 [.val zL a,.val zL b] (.val i64T (cmpW a b)):=by
 refine zc Tryz.func32 rfl rfl rfl (fun ext w hext=>?_);refine qaw ?_;refine qb5 ?_;refine G0 (zs (i:=3) rfl rfl rfl yh zaO ya) ?_;refine G0 (zl rfl rfl rfl (Lens.elem (i:=3) ya u64T) zaQ) ?_;refine G0 (zs (i:=3) rfl rfl rfl yh zaO ya) ?_;refine G0 (zl rfl rfl rfl (Lens.elem (i:=3) ya u64T) zaQ) ?_;refine G0 (oCl (zoF _ _) rfl fn_63 yf) ?_;refine G0 (zs (i:=2) rfl rfl rfl yh zaO ya) ?_;refine G0 (zl rfl rfl rfl (Lens.elem (i:=2) ya u64T) zaQ) ?_;refine G0 (zs (i:=2) rfl rfl rfl yh zaO ya) ?_;refine G0 (zl rfl rfl rfl (Lens.elem (i:=2) ya u64T) zaQ) ?_;refine G0 (oCl (zoF _ _) rfl fn_63 yf) ?_;refine G0 (zs (i:=1) rfl rfl rfl yh zaO ya) ?_;refine G0 (zl rfl rfl rfl (Lens.elem (i:=1) ya u64T) zaQ) ?_;refine G0 (zs (i:=1) rfl rfl rfl yh zaO ya) ?_;refine G0 (zl rfl rfl rfl (Lens.elem (i:=1) ya u64T) zaQ) ?_;refine G0 (oCl (zoF _ _) rfl fn_63 yf) ?_;refine G0 (zs (i:=0) rfl rfl rfl yh zaO ya) ?_;refine G0 (zl rfl rfl rfl (Lens.elem (i:=0) ya u64T) zaQ) ?_;refine G0 (zs (i:=0) rfl rfl rfl yh zaO ya) ?_;refine G0 (zl rfl rfl rfl (Lens.elem (i:=0) ya u64T) zaQ) ?_;refine G0 (oCl (zoF _ _) rfl fn_63 yf) ?_;refine G0 (zW (T:=i64T) (xs:=[_,_,_,_]) rfl zcJ zfm yaK rfl rfl) ?_;refine G0 (oCl (orInt _) rfl fn_62 ye) ?_;refine qa6 ?_;exact za rfl rfl (zb rfl rfl)
def ofW (n:UInt64):Wide:=[n,0,0,0]
def tgtM (bits:UInt32):UInt64:=z6 (IntL.toI u32T (bits&&&16777215))
def tgtE (bits:UInt32):Int:=IntL.toI u32T (zdy bits 24)
def zay (bits:UInt32):Bool:=decide (3≤tgtE bits∧tgtE bits≤32∧32768≤(tgtM bits).toNat∧(tgtM bits).toNat<8388608)
def tgtW (bits:UInt32):Wide:=if zay bits=true then upW (ofW (tgtM bits)) (8*(tgtE bits-3)) else zax
theorem zr7 (n:UInt64):Tells P 107 [.val u64T n] (.val zL (ofW n)):=by
 refine zc Tryz.func107 rfl rfl rfl (fun ext w hext=>?_);refine CQR ?_;refine qau ?_;refine qbX ?_;refine A0 (g_buildP (T:=u64T) (xs:=[_]) rfl zaO zf7 yz rfl rfl) ?_;refine qag ?_;refine CN ?_;exact zq rfl rfl rfl rfl zV (rfl)
theorem zk8 (bits:UInt32):Tells P 60 [.val u32T bits] (.tup2 (.val zL (tgtW bits)) (.val zu (zay bits))):=by
 have he0:0≤tgtE bits:=Int.natCast_nonneg _;have heL:tgtE bits<4294967296:=ybX;refine zc Tryz.func60 rfl rfl rfl (fun ext w hext=>?_);refine CQR ?_;refine qau ?_;refine qaS ?_;refine A0 (zlX rfl rfl rfl yo rfl) ?_;refine A0 (g_cvi rfl (ui_3) (zk3) rfl (zaF (by show -9223372036854775808≤tgtE bits∧tgtE bits≤9223372036854775807;omega))) ?_;refine zi (d:=8) (y:=tgtE bits) rfl rfl ?_;refine qa9 ?_;refine A0 (ze7 rfl rfl rfl) ?_;refine A0 (zdv rfl (zhX) (zk3) rfl) ?_;refine zi (d:=11) (y:=tgtM bits) rfl rfl ?_;refine A0 aV ?_;refine qah ?_;refine A0 zbK ?_;refine Sp (d:=13) (p:=tgtE bits<3) (fun g13=>?_) (fun g13=>?_)
 ·
  refine qa9 ?_;refine qcI ?_;refine qat ?_;refine qcI ?_;refine qat ?_;refine qc1 ?_;refine Ct ?_;refine qaL ?_;refine qad ?_;exact zx rfl rfl (zC rfl rfl zV yP) (zX (zb rfl yaj))
 refine qa9 ?_;refine A1 mV ?_;refine A1 zcm ?_;refine Sp (d:=16) (p:=32<tgtE bits) (fun g16=>?_) (fun g16=>?_)
 ·
  refine qat ?_;refine qcI ?_;refine qat ?_;refine qc1 ?_;refine Ct ?_;refine qaL ?_;refine qad ?_;exact zx rfl rfl (zC rfl rfl zV yP) (zX (zb rfl yaj))
 refine qat ?_;refine A1 mV ?_;refine A1 zbK ?_;refine zad (d:=20) (p:=(tgtM bits).toNat<32768) rfl (by rw[uo];show((tgtM bits).toNat:Int)<(32768:Int)↔_;omega) (fun g20=>?_) (fun g20=>?_)
 ·
  refine qat ?_;refine qc1 ?_;refine Ct ?_;refine qaL ?_;refine qad ?_;exact zx rfl rfl (zC rfl rfl zV yP) (zX (zb rfl yaj))
 refine qat ?_;refine A1 mV ?_;refine A1 zec ?_;refine zad (d:=24) (p:=8388608≤(tgtM bits).toNat) rfl (by rw[uo];show(8388608:Int)≤((tgtM bits).toNat:Int)↔_;omega) (fun g24=>?_) (fun g24=>?_)
 ·
  refine qar ?_;refine Ct ?_;refine qaL ?_;refine qad ?_;exact zx rfl rfl (zC rfl rfl zV yP) (zX (zb rfl yaj))
 refine qar ?_;refine Cg ?_;refine qbL ?_;refine A0 (oCl (zr7 _) rfl zsz ye) ?_;refine qco ?_;refine A0 zfT ?_;refine A0 (oCl (upW_ok _ _) rfl fn_106 yf) ?_;refine qag ?_;refine qad ?_;exact zx rfl rfl (zC rfl rfl zV (by unfold tgtW;rw[ut yac])) (zX (zb rfl (by unfold zay;symm;apply ui;omega)))
def searchN (f:Int→Bool) (lo hi:Nat):Nat :=
  if h:lo<hi then (if f (((lo+hi)/2:Nat):Int)=true then searchN f lo ((lo+hi)/2) else searchN f ((lo+hi)/2+1) hi) else lo
termination_by hi-lo
theorem zld {f:Int→Bool} {lo hi:Nat} (h:lo<hi) (hf:¬f (((lo+hi)/2:Nat):Int)=true):searchN f lo hi=searchN f ((lo+hi)/2+1) hi:=by
  rw[searchN,dif_pos h,ur hf]
theorem zjp {f:Int→Bool} {lo hi:Nat} (h:lo<hi) (hf:f (((lo+hi)/2:Nat):Int)=true):searchN f lo hi=searchN f lo ((lo+hi)/2):=by
  conv=>lhs;rw[searchN,dif_pos h,ut hf]
theorem search_end {f:Int→Bool} {lo:Nat}:searchN f lo lo=lo:=by rw[searchN,dif_neg (Nat.lt_irrefl _)]
def zfU (n t:Wide) (k:Int):Bool:=decide (0<cmpW n (zc2 t k))
def znl (id:Ab.Id) (t:Wide):Int:=(searchN (zfU (zgR id) t) 0 32:Nat)-1
theorem zle {f:Int→Bool} (lo hi:Nat) (h:lo≤hi):searchN f lo hi≤hi:=by
  rw[searchN]
  split
  · split
    · have:=zle (f:=f) lo ((lo+hi)/2) ya;omega
    exact zle _ _ ya
  exact h
termination_by hi-lo
theorem search_ok (n:Nat) (f:Int→Bool) (hn:n<4611686018427387904):Tells P 236 [.val i64T (n:Int),.fn1 P i64T zu f] (.val i64T (searchN f 0 n:Nat)):=by
 refine zc Tryz.func236 rfl rfl rfl (fun ext w hext=>?_);refine ze (d:=0) rfl zab (fun hin0=>?_);refine CQR ?_;refine qaS ?_;refine A0 aV ?_;refine qaJ ?_;refine CB ?_;refine Lp (ι:=Nat×Nat) 0 (fun (i:Nat×Nat)=>match i with|(lo,hi)=>(((Fr.none).set 1 (.fn1 P i64T zu f)).set 5 (.val i64T (lo:Int))).set 6 (.val i64T (hi:Int))) (fun (i:Nat×Nat)=>match i with|(lo,hi)=>Hp.none) (fun (i:Nat×Nat)=>match i with|(lo,hi)=>lo≤hi∧hi≤n∧searchN f 0 n=searchN f lo hi) (fun (i:Nat×Nat)=>match i with|(lo,hi)=>hi-lo) ((0,n)) (⟨uf _,ug _,rfl⟩) ?_;intro⟨lo,hi⟩ hinv;dsimp only at hinv;refine qb9 ?_;refine qa1 ?_;refine Cf (p:=lo<hi) (fun ht11=>?_) (fun ht11=>?_)
 ·
  refine CS ?_;refine CB ?_;refine CQR ?_;refine qai ?_;refine A0 zbh ?_;refine xe ?_;refine xf ?_;refine A0 (g_cvi rfl (ui_3) (us_156) rfl (mid_eq ya)) ?_;refine qaj ?_;refine A0 mF ?_;refine qa9 ?_;refine A0 (zkO rfl rfl yl) ?_;refine qaQ ?_;refine zk (p:=¬f (((lo+hi)/2:Nat):Int)=true) rfl yx (fun ht21=>?_) (fun ht21=>?_)
  ·
   refine CR ?_;refine qak ?_;refine CI ?_;exact Nx (((lo+hi)/2+1,hi)) yaG ybe
  refine CR ?_;refine qa9 ?_;refine qad ?_;refine CI ?_;exact Nx ((lo,(lo+hi)/2)) yaG ybe
 obtain rfl:hi=lo:=ya;refine CE ?_;refine qcg ?_;exact za rfl rfl (zb rfl (by rw[hinv.2.2,search_end]))
theorem zpJ (n t:Wide) (k:Int):Tells P 234 [.val i64T k,.rptr zL n,.rptr zL t] (.val zu (zfU n t k)):=by
 refine zc Tryz.func234 rfl rfl rfl (fun ext w hext=>?_);refine ze (d:=0) rfl zab (fun hin0=>?_);refine CQR ?_;refine qb5 ?_;refine G0 (zh rfl rfl zV) ?_;refine G0 (zh rfl rfl zV) ?_;refine G0 mV ?_;refine G0 (oCl (downW_ok _ _) rfl fn_235 yf) ?_;refine G0 (oCl (zjN _ _) rfl fn_32 yf) ?_;refine G0 zcm ?_;refine qa6 ?_;exact za rfl rfl (zb rfl rfl)
theorem levelW_ok (id:Ab.Id) (t:Wide):Tells P 202 [.val idT id,.val zL t] (.val i64T (znl id t)):=by
 refine zc Tryz.func202 rfl rfl rfl (fun ext w hext=>?_);have hsl:=zle (f:=zfU (zgR id) t) 0 32 yp;refine qaw ?_;refine qaj ?_;refine qbw ?_;refine A0 (oCl (of32W_ok _) rfl fn_233 ye) ?_;refine qau ?_;refine qag ?_;refine CNQR ?_;refine A0 (zpT (caps:=[_,_]) rfl rfl) ?_;refine A0 aC ?_;refine CNQR ?_;refine A0 mC ?_;refine A0 (oCl (search_ok 32 (zfU (zgR id) t) yp) rfl fn_236 ⟨yl,(by first|exact zdY (Cs:=[_,_]) rfl fn_234 yaQ ⟨yX,yX,trivial⟩ rfl (fun x=>zpJ (zgR id) t x)|exact zdX (Cs:=[_,_]) rfl fn_234 yaQ ⟨yX,yX,trivial⟩ rfl (fun x y=>zpJ (zgR id) t x)|exact zdZ rfl),trivial⟩) ?_;refine A0 za1 ?_;refine qad ?_;exact za rfl rfl (zb rfl rfl)
def zae (n:Nat):Nat:=if n=0 then 0 else Nat.log2 n+1
theorem zql {n s:Nat} (h:2^s≤n):zae n=s+zae (n/2^s):=by
  have hp:=Nat.two_pow_pos s;have h1:1≤n/2^s:=(Nat.le_div_iff_mul_le hp).2 ya;unfold zae;rw[ur ya,ur ya];obtain⟨k,hk⟩:∃k,k=Nat.log2 (n/2^s):=⟨_,rfl⟩;have h2:=(Nat.log2_eq_iff (n:=n/2^s) (k:=k) ya).1 hk.symm;have h3:Nat.log2 n=k+s:=by
    rw[Nat.log2_eq_iff ya]
    constructor
    · rw[Nat.pow_add];exact(Nat.le_div_iff_mul_le hp).1 h2.1
    rw[show k+s+1=k+1+s by omega,Nat.pow_add];exact(Nat.div_lt_iff_lt_mul hp).1 h2.2
  rw[h3,←hk];omega
theorem zf4 {n s:Nat} (h:n<2^s):zae n≤s:=by
  unfold zae
  split
  · omega
  rename_i h0
  have:=(Nat.log2_lt h0).2 h
  omega
theorem za8 (x:UInt64) {m:Nat} (h:m≤64):(zaB x m).toNat=x.toNat/2^m:=by
  have hx:x.toNat<18446744073709551616:=x.toNat_lt;unfold zaB;rw[UInt64.toNat_ofNat_of_lt' (Nat.lt_of_le_of_lt (Nat.div_le_self _ _) hx),Nat.min_eq_left h]
theorem u8_small {x:UInt64} (h:x.toNat<256):(zb2 (IntL.toI u64T x)).toNat=x.toNat:=by
  unfold zb2;show(UInt8.ofNat ((x.toNat:Int)%256).toNat).toNat=x.toNat
  rw[UInt8.toNat_ofNat_of_lt' (by show _<256;omega)];omega
theorem len_small {x:UInt64} (h:x.toNat<256):IntL.toI u8T (UInt8.ofNat (zae (zb2 (IntL.toI u64T x)).toNat))=zae x.toNat:=by
  have:=zf4 (s:=8) (n:=x.toNat) ya
  rw[u8_small h];show((UInt8.ofNat (zae x.toNat)).toNat:Int)=_;rw[UInt8.toNat_ofNat_of_lt' (by show _<256;omega)]
theorem zgV {x y:UInt64} {b:Int} {s:Nat} (hy:y.toNat<256) (hx:zae x.toNat=s+zae y.toNat) (hs:s≤64) (hb:b=(s:Int)):IntKind.i64.wrap (b+IntKind.i64.wrap (IntL.toI u8T (UInt8.ofNat (zae (zb2 (IntL.toI u64T y)).toNat))))=(zae x.toNat:Nat):=by
  have:=zf4 (s:=8) (n:=y.toNat) ya
  rw[len_small hy,zaF (n:=((zae y.toNat:Nat):Int)) ya,zaF ya,hx,hb];omega
theorem zdc {x:UInt64} {s:Nat} (hs:s≤64) (h:2^s≤x.toNat):zae x.toNat=s+zae (zaB x s).toNat:=by
  rw[za8 x hs];exact zql h
theorem zsg (x:UInt64):Tells P 194 [.val u64T x] (.val i64T (zae x.toNat:Nat)):=by
 refine zc Tryz.func194 rfl rfl rfl (fun ext w hext=>?_);refine qcJ ?_;refine qbP ?_;refine zk (p:=4294967296≤(x).toNat) rfl (by rw[uo];show(4294967296:Int)≤((x).toNat:Int)↔_;omega) (fun ht4=>?_) (fun ht4=>?_)
 ·
  refine qa0 ?_;refine xf ?_;refine qci ?_;refine qah ?_;refine qbP ?_;refine zk (p:=65536≤(zaB x 32).toNat) rfl (by rw[uo];show(65536:Int)≤((zaB x 32).toNat:Int)↔_;omega) (fun ht8=>?_) (fun ht8=>?_)
  ·
   refine qa0 ?_;refine xf ?_;refine qci ?_;refine qa9 ?_;refine A0 zbh ?_;refine qah ?_;refine qbP ?_;refine zk (p:=256≤(zaB (zaB x 32) 16).toNat) rfl (by rw[uo];show(256:Int)≤((zaB (zaB x 32) 16).toNat:Int)↔_;omega) (fun ht14=>?_) (fun ht14=>?_)
   ·
    refine qa0 ?_;refine xf ?_;refine qci ?_;refine qa9 ?_;refine A0 zbh ?_;refine qbW ?_;refine qbC ?_;refine A0 (zdt (fun n=>UInt8.ofNat (zae n)) rfl rfl st_9 yc) ?_;refine qaO ?_;exact za rfl rfl (zb rfl (zgV (y:=zaB (zaB (zaB x 32) 16) 8) (s:=56) yt (by rw[zdc (s:=32) yp ht4,zdc (s:=16) yp ht8,zdc (s:=8) yp ht14];omega) yp (by rfl)))
   refine CSQR ?_;refine qai ?_;refine qbC ?_;refine A0 (zdt (fun n=>UInt8.ofNat (zae n)) rfl rfl st_9 yc) ?_;refine qaO ?_;exact za rfl rfl (zb rfl (zgV (y:=zaB (zaB x 32) 16) (s:=48) yt (by rw[zdc (s:=32) yp ht4,zdc (s:=16) yp ht8];omega) yp (by rfl)))
  refine qce ?_;refine qbP ?_;refine zk (p:=256≤(zaB x 32).toNat) rfl (by rw[uo];show(256:Int)≤((zaB x 32).toNat:Int)↔_;omega) (fun ht14=>?_) (fun ht14=>?_)
  ·
   refine qa0 ?_;refine xf ?_;refine qci ?_;refine qa9 ?_;refine A0 zbh ?_;refine qbW ?_;refine qbC ?_;refine A0 (zdt (fun n=>UInt8.ofNat (zae n)) rfl rfl st_9 yc) ?_;refine qaO ?_;exact za rfl rfl (zb rfl (zgV (y:=zaB (zaB x 32) 8) (s:=40) yt (by rw[zdc (s:=32) yp ht4,zdc (s:=8) yp ht14];omega) yp (by rfl)))
  refine CSQR ?_;refine qai ?_;refine qbC ?_;refine A0 (zdt (fun n=>UInt8.ofNat (zae n)) rfl rfl st_9 yc) ?_;refine qaO ?_;exact za rfl rfl (zb rfl (zgV (y:=zaB x 32) (s:=32) yt (zdc (s:=32) yp ht4) yp (by rfl)))
 refine qce ?_;refine qbP ?_;refine zk (p:=65536≤(x).toNat) rfl (by rw[uo];show(65536:Int)≤((x).toNat:Int)↔_;omega) (fun ht8=>?_) (fun ht8=>?_)
 ·
  refine qa0 ?_;refine xf ?_;refine qci ?_;refine qa9 ?_;refine A0 zbh ?_;refine qah ?_;refine qbP ?_;refine zk (p:=256≤(zaB x 16).toNat) rfl (by rw[uo];show(256:Int)≤((zaB x 16).toNat:Int)↔_;omega) (fun ht14=>?_) (fun ht14=>?_)
  ·
   refine qa0 ?_;refine xf ?_;refine qci ?_;refine qa9 ?_;refine A0 zbh ?_;refine qbW ?_;refine qbC ?_;refine A0 (zdt (fun n=>UInt8.ofNat (zae n)) rfl rfl st_9 yc) ?_;refine qaO ?_;exact za rfl rfl (zb rfl (zgV (y:=zaB (zaB x 16) 8) (s:=24) yt (by rw[zdc (s:=16) yp ht8,zdc (s:=8) yp ht14];omega) yp (by rfl)))
  refine CSQR ?_;refine qai ?_;refine qbC ?_;refine A0 (zdt (fun n=>UInt8.ofNat (zae n)) rfl rfl st_9 yc) ?_;refine qaO ?_;exact za rfl rfl (zb rfl (zgV (y:=zaB x 16) (s:=16) yt (zdc (s:=16) yp ht8) yp (by rfl)))
 refine qce ?_;refine qbP ?_;refine zk (p:=256≤(x).toNat) rfl (by rw[uo];show(256:Int)≤((x).toNat:Int)↔_;omega) (fun ht14=>?_) (fun ht14=>?_)
 ·
  refine qa0 ?_;refine xf ?_;refine qci ?_;refine qa9 ?_;refine A0 zbh ?_;refine qbW ?_;refine qbC ?_;refine A0 (zdt (fun n=>UInt8.ofNat (zae n)) rfl rfl st_9 yc) ?_;refine qaO ?_;exact za rfl rfl (zb rfl (zgV (y:=zaB x 8) (s:=8) yt (zdc (s:=8) yp ht14) yp (by rfl)))
 refine CSQR ?_;refine qai ?_;refine qbC ?_;refine A0 (zdt (fun n=>UInt8.ofNat (zae n)) rfl rfl st_9 yc) ?_;refine qaO ?_;exact za rfl rfl (zb rfl (zgV (y:=x) (s:=0) yt ((Nat.zero_add _).symm) yp (by rfl)))
theorem lenU_ok (x:UInt64):Tells P 228 [.val u64T x] (.val i64T (zae x.toNat:Nat)):=by
 refine zc Tryz.func228 rfl rfl rfl (fun ext w hext=>?_);refine CQR ?_;refine qaJ ?_;refine Cg ?_;refine qbL ?_;refine A0 (oCl (zsg _) rfl fn_194 ye) ?_;refine qad ?_;exact za rfl rfl (zb rfl rfl)
theorem growNilId (n:Nat) (hn:n≤1000000):Tells P 231 [.lit (.slice none 0 0),.val i64T (n:Int)] (.fresh 27 idT []):=by
 refine zc Tryz.func231 rfl rfl rfl (fun ext w hext=>?_);refine ze (d:=1) rfl zab (fun hin1=>?_);refine qaB ?_;refine qb2 ?_;refine qa1 ?_;refine zfJ rfl (uh (by show ¬((n:Int)<0);omega)) ?_;refine qce ?_;refine A0 mL ?_;refine A0 (ziU rfl rfl zdO) ?_;refine A0 mL ?_;refine A0 yab ?_;refine A0 za1 ?_;refine A0 za1 ?_;refine qaS ?_;refine qc5 ?_;refine zk (p:=0<n) rfl yaL (fun ht16=>?_) (fun ht16=>?_)
 ·
  refine CR ?_;refine A0 mL ?_;refine A0 mL ?_;refine A0 (ziU rfl rfl zdO) ?_;refine A0 yaO ?_;refine qa9 ?_;refine znM (T:=idT) (n:=n) rfl rfl rfl rfl rfl rfl yar zey zqB (ui_3) (⟨by assumption,by omega,by omega⟩) ?_;refine A0 mL ?_;refine A0 yab ?_;refine A0 (znp (q:=0) rfl rfl rfl rfl zdR yh yd) ?_;refine A0 aS ?_;refine CNQR ?_;refine A0 mS ?_;refine A0 aS ?_;refine CN ?_;exact za rfl rfl (zlp rfl rfl yG rfl)
 refine CSQR ?_;refine A0 mL ?_;refine A0 aL ?_;refine CN ?_;exact za rfl rfl (zr rfl)
theorem concatId (ls:List (List Ab.Id)) (hl:ls.flatten.length≤1000000):Tells P 200 [.val (bsl (bsl idT)) ls] (.fresh 27 idT ls.flatten):=by
 refine zc Tryz.func200 rfl rfl rfl (fun ext w hext=>?_);refine ze (d:=0) rfl zm (fun hsl0=>?_);refine qaB ?_;refine CNQR ?_;refine qah ?_;refine A0 (zaZ rfl rfl isl_253) ?_;refine qbp ?_;refine Lp (ι:=Nat) 0 (fun (k:Nat)=>(((((Fr.none).set 0 (.val (bsl (bsl idT)) ls)).set 3 (.val i64T ((ls.take k).flatten.length:Int))).set 9 (.val (bsl (bsl idT)) ls)).set 10 (.val i64T (ls.length:Int))).set 11 (.val i64T (k:Int))) (fun (k:Nat)=>Hp.none) (fun (k:Nat)=>k≤ls.length) (fun (k:Nat)=>ls.length-k) (0) (uf _) ?_;intro k hinv;refine qas ?_;refine Cf (p:=k<ls.length) (fun ht12=>?_) (fun ht12=>?_)
 ·
  obtain⟨x,hx⟩:∃x,ls[k]?=some x:=⟨_,ub ht12⟩;have hle:=zft ls (k+1);rw[zbo hx,ue] at hle;refine CSQBQR ?_;refine A0 (zbj rfl rfl rfl sl_253 yj) ?_;refine A0 (zh rfl rfl zf8) ?_;refine A0 aX ?_;refine qbX ?_;refine A0 mX ?_;refine A0 yab ?_;refine A0 zbh ?_;refine qaS ?_;refine qa1 ?_;refine zfJ rfl (uh yat) ?_;refine qbF ?_;refine zi (d:=3) (y:=((ls.take (k+1)).flatten.length:Int)) rfl (by rw[zbo hx,ue];omega) ?_;exact Nx (k+1) ya ya
 refine zi (d:=3) (y:=((ls.flatten.length:Nat):Int)) rfl yak ?_;refine CE ?_;refine qa0 ?_;refine zam (growNilId ls.flatten.length hl) rfl fn_231 ybF rfl rfl rfl ?_;refine A0 aO ?_;refine qb2 ?_;refine A0 (zaZ rfl rfl isl_253) ?_;refine qbp ?_;refine Lp (ι:=Nat) 1 (fun k=>(((Fr.none.set 6 (.own 0)).set 25 (.val (bsl (bsl idT)) ls)).set 26 (.val i64T (ls.length:Int))).set 27 (.val i64T (k:Int))) (fun k=>Hp.none.set 0 (.row 27 idT (ls.take k).flatten)) (fun k=>k≤ls.length) (fun k=>ls.length-k) (0) (uf _) ?_;intro k hinv;refine qas ?_;refine Cf (p:=k<ls.length) (fun ht28=>?_) (fun ht28=>?_)
 ·
  obtain⟨x,hx⟩:∃x,ls[k]?=some x:=⟨_,ub ht28⟩;have hle:=zft ls (k+1);rw[zbo hx,ue] at hle;refine CSQBQR ?_;refine A0 (zbj rfl rfl rfl sl_253 yj) ?_;refine A0 (zh rfl rfl zf8) ?_;refine A0 aX ?_;refine CNR ?_;refine A0 mO ?_;refine A0 mX ?_;refine zo rfl rfl rfl rfl rfl rfl rfl zey ya ?_;refine A0 aO ?_;refine qcD ?_;refine xh ?_;refine zB (n:=0) rfl (zbo hx).symm ?_;exact Nx (k+1) ya ya
 refine qa7 ?_;exact za rfl rfl (zf rfl rfl yak)
def mulM (x y:UInt64):UInt64:=zaB x 32*(y&&&4294967295)+zaB ((x&&&4294967295)*(y&&&4294967295)) 32
def mulHi (x y:UInt64):UInt64:=zaB x 32*zaB y 32+zaB (mulM x y) 32+zaB ((mulM x y&&&4294967295)+(x&&&4294967295)*zaB y 32) 32
theorem mul64_ok (x y:UInt64):Tells P 252 [.val u64T x,.val u64T y] (.tup2 (.val u64T (mulHi x y)) (.val u64T (x*y))):=by
 refine zc Tryz.func252 rfl rfl rfl (fun ext w hext=>?_);refine CQR ?_;refine A0 aV ?_;refine qaS ?_;refine A0 (zow rfl rfl rfl) ?_;refine qaS ?_;refine xf ?_;refine qaS ?_;refine A0 (zow rfl rfl rfl) ?_;refine qaS ?_;refine xf ?_;refine qbW ?_;refine A0 (zg0 rfl rfl rfl) ?_;refine qbW ?_;refine A0 (zg0 rfl rfl rfl) ?_;refine qa9 ?_;refine xf ?_;refine A0 (zfC rfl rfl rfl) ?_;refine qaS ?_;refine A0 (zow rfl rfl rfl) ?_;refine qaS ?_;refine xf ?_;refine qbW ?_;refine qa9 ?_;refine A0 (zg0 rfl rfl rfl) ?_;refine A0 (zfC rfl rfl rfl) ?_;refine qbW ?_;refine A0 (zg0 rfl rfl rfl) ?_;refine qa9 ?_;refine A0 (zfC rfl rfl rfl) ?_;refine qa9 ?_;refine xf ?_;refine A0 (zfC rfl rfl rfl) ?_;refine qbW ?_;refine A0 (zg0 rfl rfl rfl) ?_;refine qad ?_;exact zac rfl rfl (zb rfl rfl) (zb rfl rfl)
theorem mulU_ok (x y:UInt64):Tells P 232 [.val u64T x,.val u64T y] (.tup2 (.val u64T (mulHi x y)) (.val u64T (x*y))):=by
 refine zc Tryz.func232 rfl rfl rfl (fun ext w hext=>?_);refine CQR ?_;refine A0 aV ?_;refine qaJ ?_;refine Cg ?_;refine CSQR ?_;refine qai ?_;refine A0 (oCl (mul64_ok _ _) rfl fn_252 yf) ?_;refine qaM ?_;refine A0 aV ?_;refine qbW ?_;refine qb6 ?_;exact zac rfl rfl (zb rfl rfl) (zb rfl rfl)
theorem mulHi_one {n:Nat} (h:n≤1000000):mulHi 1 (z6 (IntL.toI i64T (n:Int)))=0:=by
  have e:(z6 (IntL.toI i64T (n:Int))).toNat=n:=by
    unfold z6;show(UInt64.ofNat ((n:Int)%18446744073709551616).toNat).toNat=n;rw[UInt64.toNat_ofNat_of_lt' yQ];omega
  obtain⟨y,hy⟩:∃y,y=z6 (IntL.toI i64T (n:Int)):=⟨_,rfl⟩;rw[←hy] at e ⊢;have a1:zaB (1:UInt64) 32=0:=yp;have a2:zaB y 32=0:=by
    apply UInt64.toNat_inj.1;rw[za8 y yp,e];show n/4294967296=0;omega
  have a3:y&&&4294967295=y:=by
    apply UInt64.toNat_inj.1;rw[UInt64.toNat_and,e];show n&&&(2^32-1)=n;rw[Nat.and_two_pow_sub_one_eq_mod];omega
  have a4:(1:UInt64)&&&4294967295=1:=yp;unfold mulHi mulM;rw[a1,a2,a3,a4,UInt64.one_mul,a2];simp;rfl
theorem mulLo_one {n:Nat} (h:n≤1000000):IntKind.i64.wrap (IntL.toI u64T (1*z6 (IntL.toI i64T (n:Int))))=(n:Int):=by
  have e:(z6 (IntL.toI i64T (n:Int))).toNat=n:=by
    unfold z6;show(UInt64.ofNat ((n:Int)%18446744073709551616).toNat).toNat=n;rw[UInt64.toNat_ofNat_of_lt' yQ];omega
  rw[UInt64.one_mul];show IntKind.i64.wrap (((z6 (IntL.toI i64T (n:Int))).toNat:Nat):Int)=n;rw[e,zaF ya]
theorem u64_small {n:Nat} (h:n≤1000000):(z6 (IntL.toI i64T (n:Int))).toNat=n:=by
  unfold z6;show(UInt64.ofNat ((n:Int)%18446744073709551616).toNat).toNat=n;rw[UInt64.toNat_ofNat_of_lt' yQ];omega
theorem rep_step {x:Ab.Id} {l:List Ab.Id} {i m N:Nat} (hl:l.length=N) (hi:i+m≤N) (hm:m≤i) (h:l.take i=List.replicate i x):(l.take i++(l.take i).take m++l.drop (i+m)).take (i+m)=List.replicate (i+m) x:=by
  rw[h,List.take_replicate,Nat.min_eq_left hm,←List.replicate_append_replicate,List.take_append_of_le_length yx,uc yx]
theorem repeatId (x:Ab.Id) (n:Nat) (hn:1≤n∧n≤1000):Tells P 201 [.val (bsl idT) [x],.val i64T (n:Int)] (.fresh 27 idT (List.replicate n x)):=by
 refine zc Tryz.func201 rfl rfl rfl (fun ext w hext=>?_);refine ze (d:=0) rfl zm (fun hsl0=>?_);refine ze (d:=1) rfl zab (fun hin1=>?_);refine qaB ?_;refine qb2 ?_;refine qa1 ?_;refine zfJ rfl (uh yat) ?_;refine qbL ?_;refine qbA ?_;refine xe ?_;refine qa9 ?_;refine xe ?_;refine A0 (oCl (mulU_ok 1 (z6 (IntL.toI i64T (n:Int)))) rfl fn_232 yf) ?_;refine A0 mX ?_;refine A0 yR ?_;refine zi (d:=19) (y:=(0:UInt64)) rfl (mulHi_one ya) ?_;refine A0 yZ ?_;refine A0 aV ?_;refine qah ?_;refine A0 zcm ?_;refine zgG (d:=22) rfl (rfl) ?_;refine qa9 ?_;refine A1 mV ?_;refine A1 zcm ?_;refine zgG (d:=25) rfl (uh (by rw[UInt64.one_mul];show ¬((9223372036854775807:Int)<(((z6 (IntL.toI i64T (n:Int))).toNat:Nat):Int));rw[u64_small ya];omega)) ?_;refine qar ?_;refine Cg ?_;refine qbL ?_;refine A0 (g_cvi rfl (ui_3) (us_156) rfl (mulLo_one ya)) ?_;refine zqp (T:=idT) (n:=n) rfl rfl rfl rfl rfl rfl yh yh zey zqB ⟨by omega,by omega,(show(n)*32≤16777216 by omega)⟩ ?_;refine qbd ?_;refine qa9 ?_;refine aw_copy_o rfl rfl rfl rfl rfl rfl rfl zey (m:=1) yG yG ?_;refine A0 aX ?_;refine CNQ ?_;refine CB ?_;refine Lp (ι:=Nat×List Ab.Id) 1 (fun (i:Nat×List Ab.Id)=>match i with|(i,l)=>((Fr.none).set 7 (.own 0)).set 8 (.val i64T (i:Int))) (fun (i:Nat×List Ab.Id)=>match i with|(i,l)=>(Hp.none).set 0 (.row 27 idT l)) (fun (i:Nat×List Ab.Id)=>match i with|(i,l)=>l.length=n∧1≤i∧i≤n∧l.take i=List.replicate i x) (fun (i:Nat×List Ab.Id)=>match i with|(i,l)=>n-i) ((1,[x]++(List.replicate n zId).drop 1)) (⟨by simp;omega,by omega,by omega,by simp⟩) ?_;intro⟨i,l⟩ hinv;dsimp only at hinv;refine qaK ?_;refine A0 mO ?_;refine A0 (za9 rfl rfl rfl zdO) ?_;refine qa1 ?_;refine zk (p:=i<n) rfl (by rw[uo];simp only[IntL.toI,id_eq,hinv.1];omega) (fun ht37=>?_) (fun ht37=>?_)
 ·
  refine CS ?_;refine CB ?_;refine zn [some 1000001,some 1,some 1,some 1,some 1,some 1,some 1,none,some 1,some 1] mixed yc ?_;refine XK.ga (fun _=>g_mv (.inl rfl) rfl) rfl rfl rfl ?_;refine qct ?_;refine X0 (g_os_l (p:=i) rfl rfl rfl rfl zdR yh yd) ?_;refine qct ?_;refine X0 (znp (q:=i) rfl rfl rfl rfl zdR yh yd) ?_;refine XK.e (fun fr' hfr kk H=>by exact aw_copy_in rfl rfl rfl rfl ((hfr 41 yc).trans rfl) ((hfr 44 yc).trans rfl) rfl zey (m:=min i (n-i)) ya ya (zp H)) ?_;refine X0 zbh ?_;refine X0 aV ?_;refine xc ?_;refine CI ?_;exact Nx ((i+min i (n-i),l.take i++(l.take i).take (min i (n-i))++l.drop (i+min i (n-i)))) (⟨by simp;omega,by omega,by omega,rep_step hinv.1 ya ya hinv.2.2.2⟩) (by show n-(i+min i (n-i))<n-i;omega)
 refine qa7 ?_;exact za rfl rfl (zf rfl rfl (by have h:=hinv.2.2.2;rw[uc ya] at h;rw[h];congr 1;omega))
def halfN (n:Nat):Nat:=2^(zae (n-1)-1)
theorem zop (n:Nat):0<halfN n:=Nat.two_pow_pos _
theorem zqY {n:Nat} (h:2≤n):halfN n<n:=by
  unfold halfN zae;rw[ur ya,Nat.add_sub_cancel]
  have:=Nat.log2_self_le (n:=n-1) ya
  omega
theorem half_eq {n:Nat} (h:2≤n) (hn:n<4398046511104):IntKind.i64.wrap (1*2^(min (IntL.toI i64T (((zae (z6 (IntL.toI i64T ((n:Int)-1))).toNat:Nat):Int)-1)).toNat 64))=(halfN n:Nat):=by
  have e1:(z6 (IntL.toI i64T ((n:Int)-1))).toNat=n-1:=by
    unfold z6;show(UInt64.ofNat (((n:Int)-1)%18446744073709551616).toNat).toNat=n-1;rw[UInt64.toNat_ofNat_of_lt' yQ];omega
  have hb:=zf4 (s:=42) (n:=n-1) ya;have hp:2^(zae (n-1)-1)≤2^42:=Nat.pow_le_pow_right yp ya;rw[e1];have e2:(IntL.toI i64T (((zae (n-1):Nat):Int)-1)).toNat=zae (n-1)-1:=by
    show(((zae (n-1):Nat):Int)-1).toNat=_;omega
  rw[e2,Nat.min_eq_left ya,Int.one_mul];have e3:(2:Int)^(zae (n-1)-1)=((2^(zae (n-1)-1):Nat):Int):=yx;rw[e3];show _=((2^(zae (n-1)-1):Nat):Int);obtain⟨q,hq⟩:∃q,q=2^(zae (n-1)-1):=⟨_,rfl⟩;rw[←hq] at hp ⊢;exact zaF ya
theorem bitLen_one {n:Nat} (h:2≤n) (hn:n<4398046511104):1≤zae (z6 (IntL.toI i64T ((n:Int)-1))).toNat∧zae (z6 (IntL.toI i64T ((n:Int)-1))).toNat≤42:=by
  have e1:(z6 (IntL.toI i64T ((n:Int)-1))).toNat=n-1:=by
    unfold z6;show(UInt64.ofNat (((n:Int)-1)%18446744073709551616).toNat).toNat=n-1;rw[UInt64.toNat_ofNat_of_lt' yQ];omega
  rw[e1];refine⟨?_,zf4 ya⟩;unfold zae;rw[ur ya];omega
theorem half_ok (n:Nat) (h:2≤n) (hn:n<4398046511104):Tells P 189 [.val i64T (n:Int)] (.val i64T (halfN n:Nat)):=by
 obtain⟨hb1,hb2⟩:=bitLen_one h hn;refine zc Tryz.func189 rfl rfl rfl (fun ext w hext=>?_);refine ze (d:=0) rfl zab (fun hin0=>?_);refine CQR ?_;refine qaS ?_;refine A0 za1 ?_;refine xe ?_;refine A0 (oCl (lenU_ok _) rfl fn_228 ye) ?_;refine A0 za1 ?_;refine A0 (g_shlI rfl rfl rfl (by first|decide|omega|(show(0:Int)≤((_:Nat):Int)-1;omega)|(simp[IntL.toI];done)|(simp[IntL.toI];omega)) rfl) ?_;refine qad ?_;exact za rfl rfl (zb rfl (half_eq h hn))
def znm (b:List UInt8):Ab.Id:=zea ([0]++b)
theorem leaf_ok (b:List UInt8) (hb:b.length≤1000000):Tells P 191 [.val (bsl u8T) b] (.val idT (znm b)):=by
 refine zc Tryz.func191 rfl rfl rfl (fun ext w hext=>?_);refine ze (d:=0) rfl zm (fun hsl0=>?_);refine CQR ?_;refine qaI ?_;refine CNQR ?_;refine qaz ?_;refine zjR (S:=bsl u8T) (d:=3) rfl ?_;refine qa9 ?_;refine qck ?_;refine A0 (oCl (of_ok [[0],b] yG) rfl fn_65 ye) ?_;refine qcb ?_;exact zq rfl rfl rfl rfl zT (by unfold znm;simp)
def zeI (a b:Ab.Id):List UInt8:=[1]++a++b
def nodeOf (a b:Ab.Id):Ab.Id:=zea (zeI a b)
theorem zqD (a b:Ab.Id) (ha:a.length=32) (hb:b.length=32):Tells P 229 [.val (arrT 2 yp idT) [a,b]] (.fresh 5 u8T (zeI a b)):=by
 refine zc Tryz.func229 rfl rfl rfl (fun ext w hext=>?_);refine qbO ?_;refine qc8 ?_;have e0:([a,b]:List Ab.Id)[0]?=some a:=rfl;have e1:([a,b]:List Ab.Id)[1]?=some b:=rfl;refine xg ?_;refine qcL ?_;refine X0 (g_ia_ra (i:=0) rfl rfl rfl yh ar_252 yj) ?_;refine qcy ?_;refine X0 (g_ia_ra (i:=1) rfl rfl rfl yh ar_252 yj) ?_;refine qcy ?_;refine qcd ?_;refine XK.e (fun fr' hfr kk H=>by exact zam (zg4 [[1],a,b] yG) rfl zp3 ⟨(zd ((hfr 8 yc).trans rfl)),trivial⟩ rfl rfl rfl (zp H)) ?_;refine X0 aO ?_;refine xc ?_;exact za rfl rfl (zf rfl rfl (by unfold zeI;simp))
theorem node_ok (a b:Ab.Id):Tells P 190 [.val idT a,.val idT b] (.val idT (nodeOf a b)):=by
 refine zc Tryz.func190 rfl rfl rfl (fun ext w hext=>?_);refine ze (d:=0) rfl zgv (fun ha=>?_);refine ze (d:=1) rfl zgv (fun hb=>?_);refine qaw ?_;refine qaI ?_;refine CNQR ?_;refine qbw ?_;refine qbw ?_;refine A0 (zgq (T:=idT) (xs:=[_,_]) rfl ar_252 ze_252 yaJ rfl) ?_;refine A0 (oCl (zF (zqD a b ha hb)) rfl fn_229 ye) ?_;refine A0 (oCl (zrE (zeI a b) (by unfold zeI;simp;omega)) rfl zsy ye) ?_;refine qcb ?_;exact zq rfl rfl rfl rfl zT (rfl)
def zeA (l:List Ab.Id):Ab.Id:=if l.length=0 then zea [2] else if h1:l.length≤1 then l.headD zId else nodeOf (zeA (l.take (halfN l.length))) (zeA (l.drop (halfN l.length)))
termination_by l.length
decreasing_by
  · have:=zqY (n:=l.length) ya;simp;omega
  have:=zop l.length;simp;omega
theorem znX (l:List Ab.Id) (hl:l.length<4398046511104):Tells P 143 [.val (bsl idT) l] (.val idT (zeA l)):=by
 refine zc Tryz.func143 rfl rfl rfl (fun ext w hext=>?_);refine ze (d:=0) rfl zm (fun hsl0=>?_);refine CQR ?_;refine qaI ?_;refine qb2 ?_;refine qbA ?_;refine CNB ?_;refine CQR ?_;refine A0 zct ?_;refine qad ?_;refine Cf (p:=l.length=0) (fun ht6=>?_) (fun ht6=>?_)
 ·
  refine CQR ?_;refine qaz ?_;refine A0 (oCl (zrE [2] yp) rfl zsy ye) ?_;refine qcb ?_;exact zq rfl rfl rfl rfl zT (by rw[zeA,ut ht6])
 refine CQR ?_;refine A0 zct ?_;refine qad ?_;refine Cf (p:=l.length=1) (fun ht10=>?_) (fun ht10=>?_)
 ·
  obtain⟨x,hx⟩:∃x,l[0]?=some x:=yq;refine qa0 ?_;refine A0 (zD (i:=0) rfl rfl rfl ya zdR yj) ?_;refine A0 (zh rfl rfl zT) ?_;refine qcb ?_;exact zq rfl rfl rfl rfl zT ya8
 have hp:=zop l.length;have hh:=zqY (n:=l.length) ya;refine CS ?_;refine CI ?_;refine qa0 ?_;refine qbA ?_;refine A0 (oCl (half_ok l.length ya ya) rfl fn_189 ye) ?_;refine qaJ ?_;refine xm ?_;refine qb7 ?_;refine qcr ?_;refine X0 (oCl (znX (l.take (halfN l.length)) yG) rfl zsw ye) ?_;refine qb7 ?_;refine X0 (ziT rfl rfl rfl zdR yd) ?_;refine X0 (oCl (znX (l.drop (halfN l.length)) yG) rfl zsw ye) ?_;refine X0 (oCl (node_ok _ _) rfl fn_190 yf) ?_;refine XK.e (x:=.idk) (fun fr' hfr kk H=>by exact zg rfl rfl rfl ((hfr 2 yc).trans rfl) rfl (Lens.self _) zT ((hfr 26 yc).trans rfl) (zp H)) ?_;refine xc ?_;exact zq rfl rfl rfl rfl zT (by conv=>rhs;rw[zeA,ur ht6,dif_neg ya])
termination_by l.length
decreasing_by
  all_goals (simp;omega)
theorem ext_Add64:ExtAt P 59 add64E:=⟨_,rfl,rfl,rfl,rfl,rfl⟩
theorem ext_Sub64:ExtAt P 195 sub64E:=⟨_,rfl,rfl,rfl,rfl,rfl⟩
def za6 (f g:UInt64→UInt64→UInt64→UInt64) (a b:Wide) (k:Nat):Wide×UInt64:=(List.range k).foldl (fun x i=>(x.1.set i (f (x.1.getD i default) (b.getD i default) x.2),g (x.1.getD i default) (b.getD i default) x.2)) (a,0)
theorem zdV {f g:UInt64→UInt64→UInt64→UInt64} {a b:Wide} {k:Nat}:za6 f g a b (k+1)=((za6 f g a b k).1.set k (f ((za6 f g a b k).1.getD k default) (b.getD k default) (za6 f g a b k).2),g ((za6 f g a b k).1.getD k default) (b.getD k default) (za6 f g a b k).2):=by unfold za6;rw[zcu]
def addW (a b:Wide):Wide:=(za6 addS addC a b 4).1
def zf5 (a b:Wide):Bool:=decide ((za6 addS addC a b 4).2.toNat=0)
def subW (a b:Wide):Wide:=(za6 subS subC a b 4).1
def zpd (a b:Wide):Bool:=decide ((za6 subS subC a b 4).2.toNat=0)
theorem zrh (a b:Wide):Tells P 58 [.val zL a,.val zL b,.clo 59 []] (.tup2 (.val zL (za6 addS addC a b 4).1) (.val zu (decide ((za6 addS addC a b 4).2.toNat=0)))):=by
 refine zc Tryz.func58 rfl rfl rfl (fun ext w hext=>?_);refine qaw ?_;refine qau ?_;refine qaj ?_;refine qah ?_;refine CNB ?_;refine Lp (ι:=Nat) 3 (fun (k:Nat)=>((((((Fr.none).set 2 (.clo 59 [])).set 3 (.ptr 0 0)).set 4 (.ptr 1 0)).set 6 (.ptr 2 0)).set 8 (.val u64T (za6 addS addC a b k).2)).set 10 (.val i64T (k:Int))) (fun (k:Nat)=>(((Hp.none).set 0 (.box 30 zL (za6 addS addC a b k).1)).set 1 (.box 30 zL b)).set 2 (.box 30 zL zax)) (fun (k:Nat)=>k≤4∧(za6 addS addC a b k).2.toNat≤1) (fun (k:Nat)=>4-k) (0) (⟨uf _,uf 1⟩) ?_;intro k hinv;refine qas ?_;refine Cf (p:=k<4) (fun ht11=>?_) (fun ht11=>?_)
 ·
  refine qbe ?_;refine qad ?_;refine zn [some 1,some 1,some 1,some 1,some 1,some 1,some 1,some 1,some 1,some 1,some 1,some 1,some 1000001,some 1,none,some 1] mixed yc ?_;refine X0 mV ?_;refine X0 mC ?_;refine X0 mV ?_;refine xo ?_;refine xp ?_;refine X0 mV ?_;refine xo ?_;refine xp ?_;refine X0 mV ?_;refine X0 (g_ext3 rfl ext_Add64 rfl rfl rfl rfl (fun P w=>Go.Ab.run_add64 P w _ _ hinv.2)) ?_;refine qc0 ?_;refine xq ?_;refine xo ?_;refine XK.e (x:=.idk) (fun fr' hfr kk H=>by exact zg rfl rfl rfl ((hfr 26 yc).trans rfl) rfl (Lens.elem (i:=k) ya u64T) zaQ ((hfr 24 yc).trans rfl) (zp H)) ?_;refine X0 aX ?_;refine qba ?_;refine qan ?_;refine zJ (n:=0) (y:=(za6 addS addC a b (k+1)).1) rfl (by rw[zdV]) ?_;refine zi (d:=8) (y:=(za6 addS addC a b (k+1)).2) rfl (by rw[zdV]) ?_;exact Nx (k+1) (⟨by omega,by rw[zdV];exact zin _ _ hinv.2⟩) ya
 obtain rfl:k=4:=ya;refine qbQ ?_;refine qay ?_;refine qa9 ?_;refine A0 zct ?_;refine qag ?_;refine qad ?_;exact zx rfl rfl (zC rfl rfl zV (rfl)) (zX (zb rfl (by rw[uo];show((_:Nat):Int)=(0:Int)↔_;omega)))
theorem zrg (a b:Wide):Tells P 58 [.val zL a,.val zL b,.clo 195 []] (.tup2 (.val zL (za6 subS subC a b 4).1) (.val zu (decide ((za6 subS subC a b 4).2.toNat=0)))):=by
 refine zc Tryz.func58 rfl rfl rfl (fun ext w hext=>?_);refine qaw ?_;refine qau ?_;refine qaj ?_;refine qah ?_;refine CNB ?_;refine Lp (ι:=Nat) 3 (fun (k:Nat)=>((((((Fr.none).set 2 (.clo 195 [])).set 3 (.ptr 0 0)).set 4 (.ptr 1 0)).set 6 (.ptr 2 0)).set 8 (.val u64T (za6 subS subC a b k).2)).set 10 (.val i64T (k:Int))) (fun (k:Nat)=>(((Hp.none).set 0 (.box 30 zL (za6 subS subC a b k).1)).set 1 (.box 30 zL b)).set 2 (.box 30 zL zax)) (fun (k:Nat)=>k≤4∧(za6 subS subC a b k).2.toNat≤1) (fun (k:Nat)=>4-k) (0) (⟨uf _,uf 1⟩) ?_;intro k hinv;refine qas ?_;refine Cf (p:=k<4) (fun ht11=>?_) (fun ht11=>?_)
 ·
  refine qbe ?_;refine qad ?_;refine zn [some 1,some 1,some 1,some 1,some 1,some 1,some 1,some 1,some 1,some 1,some 1,some 1,some 1000001,some 1,none,some 1] mixed yc ?_;refine X0 mV ?_;refine X0 mC ?_;refine X0 mV ?_;refine xo ?_;refine xp ?_;refine X0 mV ?_;refine xo ?_;refine xp ?_;refine X0 mV ?_;refine X0 (g_ext3 rfl ext_Sub64 rfl rfl rfl rfl (fun P w=>Go.Ab.run_sub64 P w _ _ hinv.2)) ?_;refine qc0 ?_;refine xq ?_;refine xo ?_;refine XK.e (x:=.idk) (fun fr' hfr kk H=>by exact zg rfl rfl rfl ((hfr 26 yc).trans rfl) rfl (Lens.elem (i:=k) ya u64T) zaQ ((hfr 24 yc).trans rfl) (zp H)) ?_;refine X0 aX ?_;refine qba ?_;refine qan ?_;refine zJ (n:=0) (y:=(za6 subS subC a b (k+1)).1) rfl (by rw[zdV]) ?_;refine zi (d:=8) (y:=(za6 subS subC a b (k+1)).2) rfl (by rw[zdV]) ?_;exact Nx (k+1) (⟨by omega,by rw[zdV];exact znS _ _ _⟩) ya
 obtain rfl:k=4:=ya;refine qbQ ?_;refine qay ?_;refine qa9 ?_;refine A0 zct ?_;refine qag ?_;refine qad ?_;exact zx rfl rfl (zC rfl rfl zV (rfl)) (zX (zb rfl (by rw[uo];show((_:Nat):Int)=(0:Int)↔_;omega)))
theorem zoW (a b:Wide):Tells P 30 [.val zL a,.val zL b] (.tup2 (.val zL (addW a b)) (.val zu (zf5 a b))):=by
 refine zc Tryz.func30 rfl rfl rfl (fun ext w hext=>?_);refine qaw ?_;refine qau ?_;refine qaj ?_;refine qcS ?_;refine A0 (oCl (zrh a b) rfl fn_58 ⟨yl,yl,(by first|exact zdY (Cs:=[]) rfl fn_59 yJ trivial rfl (fun x=>no_contract_of_math_bits_Add64)|exact zdX (Cs:=[]) rfl fn_59 yJ trivial rfl (fun x y=>no_contract_of_math_bits_Add64)|exact zdZ rfl),trivial⟩) ?_;refine qab ?_;refine qag ?_;refine qad ?_;exact zx rfl rfl (zC rfl rfl zV (rfl)) (zX (zb rfl (rfl)))
theorem subW_ok (a b:Wide):Tells P 152 [.val zL a,.val zL b] (.tup2 (.val zL (subW a b)) (.val zu (zpd a b))):=by
 refine zc Tryz.func152 rfl rfl rfl (fun ext w hext=>?_);refine qaw ?_;refine qau ?_;refine qaj ?_;refine qcS ?_;refine A0 (oCl (zrg a b) rfl fn_58 ⟨yl,yl,(by first|exact zdY (Cs:=[]) rfl fn_195 yJ trivial rfl (fun x=>no_contract_of_math_bits_Sub64)|exact zdX (Cs:=[]) rfl fn_195 yJ trivial rfl (fun x y=>no_contract_of_math_bits_Sub64)|exact zdZ rfl),trivial⟩) ?_;refine qab ?_;refine qag ?_;refine qad ?_;exact zx rfl rfl (zC rfl rfl zV (rfl)) (zX (zb rfl (rfl)))
def nW (a:Wide):Nat:=(a.getD 0 0).toNat+18446744073709551616*(a.getD 1 0).toNat+340282366920938463463374607431768211456*(a.getD 2 0).toNat+6277101735386680763835789423207666416102355444464034512896*(a.getD 3 0).toNat
abbrev W256:Nat:=115792089237316195423570985008687907853269984665640564039457584007913129639936
theorem zqy (a b c:UInt64):(addS a b c).toNat=(a.toNat+b.toNat+c.toNat)%18446744073709551616:=by unfold addS;rw[UInt64.toNat_ofNat']
theorem zqz (a b:UInt64) {c:UInt64} (h:c.toNat≤1):(addC a b c).toNat=(a.toNat+b.toNat+c.toNat)/18446744073709551616:=by
  have ha:a.toNat<18446744073709551616:=a.toNat_lt;have hb:b.toNat<18446744073709551616:=b.toNat_lt;unfold addC;rw[UInt64.toNat_ofNat_of_lt' yQ]
theorem zqj (a0 a1 a2 a3 b0 b1 b2 b3:UInt64):za6 addS addC [a0,a1,a2,a3] [b0,b1,b2,b3] 4=([addS a0 b0 0,addS a1 b1 (addC a0 b0 0),addS a2 b2 (addC a1 b1 (addC a0 b0 0)),addS a3 b3 (addC a2 b2 (addC a1 b1 (addC a0 b0 0)))],addC a3 b3 (addC a2 b2 (addC a1 b1 (addC a0 b0 0)))):=rfl
theorem zpC {a:Wide} (_h:a.length=4):nW a<W256:=by
  have h0:(a.getD 0 0).toNat<18446744073709551616:=UInt64.toNat_lt _;have h1:(a.getD 1 0).toNat<18446744073709551616:=UInt64.toNat_lt _;have h2:(a.getD 2 0).toNat<18446744073709551616:=UInt64.toNat_lt _;have h3:(a.getD 3 0).toNat<18446744073709551616:=UInt64.toNat_lt _;unfold nW W256;omega
theorem zgE {a b:Wide} (ha:a.length=4) (hb:b.length=4) (h:nW a=nW b):a=b:=by
  match a,ha with
  | [a0,a1,a2,a3],_=>match b,hb with
    | [b0,b1,b2,b3],_ =>
      have h0:a0.toNat<18446744073709551616:=a0.toNat_lt;have h1:a1.toNat<18446744073709551616:=a1.toNat_lt;have h2:a2.toNat<18446744073709551616:=a2.toNat_lt;have h3:a3.toNat<18446744073709551616:=a3.toNat_lt;have k0:b0.toNat<18446744073709551616:=b0.toNat_lt;have k1:b1.toNat<18446744073709551616:=b1.toNat_lt;have k2:b2.toNat<18446744073709551616:=b2.toNat_lt;have k3:b3.toNat<18446744073709551616:=b3.toNat_lt;have h:a0.toNat+18446744073709551616*a1.toNat+340282366920938463463374607431768211456*a2.toNat+6277101735386680763835789423207666416102355444464034512896*a3.toNat=b0.toNat+18446744073709551616*b1.toNat+340282366920938463463374607431768211456*b2.toNat+6277101735386680763835789423207666416102355444464034512896*b3.toNat:=h;rw[UInt64.toNat_inj.1 (show a0.toNat=b0.toNat by omega),UInt64.toNat_inj.1 (show a1.toNat=b1.toNat by omega),UInt64.toNat_inj.1 (show a2.toNat=b2.toNat by omega),UInt64.toNat_inj.1 (show a3.toNat=b3.toNat by omega)]
theorem za0 {a b:Wide} (ha:a.length=4) (hb:b.length=4):(addW a b).length=4:=by
  match a,ha with
  | [a0,a1,a2,a3],_=>match b,hb with
    | [b0,b1,b2,b3],_=>unfold addW;rw[zqj];rfl
theorem zqQ {a b:Wide} (ha:a.length=4) (hb:b.length=4):nW (addW a b)=(nW a+nW b)%W256∧(zf5 a b=true↔nW a+nW b<W256):=by
  match a,ha with
  | [a0,a1,a2,a3],_=>match b,hb with
    | [b0,b1,b2,b3],_ =>
      have h0:a0.toNat<18446744073709551616:=a0.toNat_lt;have h1:a1.toNat<18446744073709551616:=a1.toNat_lt;have h2:a2.toNat<18446744073709551616:=a2.toNat_lt;have h3:a3.toNat<18446744073709551616:=a3.toNat_lt;have k0:b0.toNat<18446744073709551616:=b0.toNat_lt;have k1:b1.toNat<18446744073709551616:=b1.toNat_lt;have k2:b2.toNat<18446744073709551616:=b2.toNat_lt;have k3:b3.toNat<18446744073709551616:=b3.toNat_lt;have z:(0:UInt64).toNat≤1:=yp;have z0:(0:UInt64).toNat=0:=rfl;have c1:=zqz a0 b0 z;have l1:=zin a0 b0 z;have c2:=zqz a1 b1 l1;have l2:=zin a1 b1 l1;have c3:=zqz a2 b2 l2;have l3:=zin a2 b2 l2;have c4:=zqz a3 b3 l3;have s0:=zqy a0 b0 0;have s1:=zqy a1 b1 (addC a0 b0 0);have s2:=zqy a2 b2 (addC a1 b1 (addC a0 b0 0));have s3:=zqy a3 b3 (addC a2 b2 (addC a1 b1 (addC a0 b0 0)));unfold addW zf5;rw[zqj];unfold nW W256;simp only[List.getD_cons_zero,List.getD_cons_succ,uj];rw[z0] at c1 s0;generalize addC a3 b3 (addC a2 b2 (addC a1 b1 (addC a0 b0 0)))=x4 at *;generalize addS a3 b3 (addC a2 b2 (addC a1 b1 (addC a0 b0 0)))=y3 at *;generalize addS a2 b2 (addC a1 b1 (addC a0 b0 0))=y2 at *;generalize addC a2 b2 (addC a1 b1 (addC a0 b0 0))=x3 at *;generalize addS a1 b1 (addC a0 b0 0)=y1 at *;generalize addC a1 b1 (addC a0 b0 0)=x2 at *;generalize addS a0 b0 0=y0 at *;generalize addC a0 b0 0=x1 at *
      constructor
      · omega
      constructor<;>intro h<;>omega
theorem zj8 {a b:Wide} (ha:a.length=4) (hb:b.length=4):nW (addW a b)=(nW a+nW b)%W256:=(zqQ ha hb).1
def zku (a:Wide):Nat→Nat
  | 0=>0
  | k+1=>if 0<(a.getD k default).toNat then k*64+zae (a.getD k default).toNat else zku a k
def longW (a:Wide):Nat:=zku a 4
theorem longN_yes {a:Wide} {k:Nat} (hk:0<k) (h:0<(a.getD (k-1) default).toNat):zku a k=(k-1)*64+zae (a.getD (k-1) default).toNat:=by
  obtain⟨j,rfl⟩:∃j,k=j+1:=⟨k-1,by omega⟩;rw[Nat.add_sub_cancel] at *;rw[zku,ut h]
theorem longN_no {a:Wide} {k:Nat} (hk:0<k) (h:¬0<(a.getD (k-1) default).toNat):zku a k=zku a (k-1):=by
  obtain⟨j,rfl⟩:∃j,k=j+1:=⟨k-1,by omega⟩;rw[Nat.add_sub_cancel] at *;rw[zku,ur h]
theorem zse (a:Wide):∀k,zku a k≤k*64
  | 0=>ug _
  | k+1=>by
    have:=zse a k
    have hb:=zf4 (s:=64) (n:=(a.getD k default).toNat) (UInt64.toNat_lt _);rw[zku]
    split<;>omega
theorem zoh (a:Wide):longW a≤256:=zse a 4
theorem znI {n:Nat} (h:0<n):1≤zae n:=by unfold zae;rw[ur ya];omega
theorem longW_pos {a:Wide} (hl:a.length=4) (h:a≠zax):1≤longW a:=by
  match a,hl with
  | [a0,a1,a2,a3],_ =>
    unfold longW;simp only[zku,List.getD_cons_succ,List.getD_cons_zero];have hp:∀x:UInt64,0<x.toNat→1≤zae x.toNat:=fun x hx=>znI hx
    have hz:∀x:UInt64,¬0<x.toNat→x=0:=fun x hx=>UInt64.toNat_inj.1 yG
    split
    · have:=hp _ ‹_›;omega
    split
    · have:=hp _ ‹_›;omega
    split
    · have:=hp _ ‹_›;omega
    split
    · have:=hp _ ‹_›;omega
    exact absurd (by rw[hz a0 ‹_›,hz a1 ‹_›,hz a2 ‹_›,hz a3 ‹_›];rfl) h
def zjA (out:Wide) (n:Nat):Wide:=out.set (n/64) (out.getD (n/64) default|||zhJ 1 (n%64))
def zik (b:Wide) (x:Wide×Wide) (n:Nat):Wide×Wide:=if zpd x.1 (upW b n)=true then (subW x.1 (upW b n),zjA x.2 n) else x
def divN (b:Wide):Nat→Wide×Wide→Wide×Wide
  | 0,x=>x
  | n+1,x=>divN b n (zik b x n)
theorem zoD {b:Wide} {n:Int} (h:0≤n) (x:Wide×Wide):divN b (n+1).toNat x=divN b (n-1+1).toNat (zik b x n.toNat):=by
  rw[show(n+1).toNat=n.toNat+1 by omega,show(n-1+1).toNat=n.toNat by omega,divN]
def divP (a b:Wide):Wide×Wide:=if b=zax then (zax,zax) else ((divN b (longW a+1-longW b) (a,zax)).2,(divN b (longW a+1-longW b) (a,zax)).1)
def divW (a b:Wide):Wide:=(divP a b).1
def remW (a b:Wide):Wide:=(divP a b).2
def divOk (b:Wide):Bool:=decide (b≠zax)
theorem zsd (a:Wide):Tells P 151 [.val zL a] (.val i64T (longW a:Nat)):=by
 refine zc Tryz.func151 rfl rfl rfl (fun ext w hext=>?_);refine ze (d:=0) rfl zaC (fun ha=>?_);refine qaf ?_;refine qbR ?_;refine Lp (ι:=Nat) 1 (fun (k:Nat)=>((Fr.none).set 1 (.ptr 0 0)).set 3 (.val i64T ((k:Int)-1))) (fun (k:Nat)=>(Hp.none).set 0 (.box 30 zL a)) (fun (k:Nat)=>k≤4∧longW a=zku a k) (fun (k:Nat)=>k) (4) (⟨ug _,rfl⟩) ?_;intro k hinv;refine qaK ?_;refine qbP ?_;refine Cf (p:=0<k) (fun ht5=>?_) (fun ht5=>?_)
 ·
  refine qbe ?_;refine xr ?_;refine xu ?_;refine qc5 ?_;refine zk (p:=0<(a.getD (k-1) default).toNat) rfl (by rw[uo];show(0:Int)<((a.getD (k-1) default).toNat:Int)↔_;omega) (fun ht11=>?_) (fun ht11=>?_)
  ·
   have hb:=zf4 (s:=64) (n:=(a.getD (k-1) default).toNat) (UInt64.toNat_lt _);refine qa0 ?_;refine A0 zfT ?_;refine qa9 ?_;refine xr ?_;refine xu ?_;refine A0 (oCl (zsg _) rfl fn_194 ye) ?_;refine A0 zbh ?_;refine qad ?_;exact za rfl rfl (zb rfl (by rw[hinv.2,longN_yes ht5 ht11];omega))
  refine CSIR ?_;refine qco ?_;refine qad ?_;refine zi (d:=3) (y:=((k-1:Nat):Int)-1) rfl ya ?_;exact Nx (k-1) (⟨by omega,by rw[hinv.2,longN_no ht5 ht11]⟩) ya
 obtain rfl:k=0:=ya;refine qcc ?_;exact za rfl rfl (zb rfl (by rw[hinv.2];rfl))
theorem divW_ok (a b:Wide):Tells P 108 [.val zL a,.val zL b] (.tup3 (.val zL (divW a b)) (.val zL (remW a b)) (.val zu (divOk b))):=by
 refine zc Tryz.func108 rfl rfl rfl (fun ext w hext=>?_);refine ze (d:=0) rfl zaC (fun ha=>?_);refine ze (d:=1) rfl zaC (fun hb=>?_);refine qaw ?_;refine qau ?_;refine qau ?_;refine qcH ?_;refine qay ?_;refine xa ?_;refine A0 (zfY rfl rfl rfl (zsH)) ?_;refine CN ?_;refine zk (p:=b=zax) rfl yx (fun ht13=>?_) (fun ht13=>?_)
 ·
  refine CQR ?_;refine xa ?_;refine xa ?_;refine qag ?_;refine qag ?_;refine qad ?_;exact zkU rfl rfl (zC rfl rfl zV (by unfold divW divP;rw[ut ht13])) (zC rfl rfl zV (by unfold remW divP;rw[ut ht13])) (zX (zb rfl (by unfold divOk;symm;exact uh (fun h=>h ht13))))
 have hz:=longW_pos hb ht13;have hla:=zoh a;have hlb:=zoh b;refine CSQR ?_;refine qau ?_;refine CNQ ?_;refine qaH ?_;refine G0 (oLs rfl rfl rfl zV) ?_;refine G0 (oCl (zsd _) rfl fn_151 ye) ?_;refine G0 (oLs rfl rfl rfl zV) ?_;refine G0 (oCl (zsd _) rfl fn_151 ye) ?_;refine G0 za1 ?_;refine qa6 ?_;refine CB ?_;refine Lp (ι:=Int×Wide×Wide) 5 (fun(n,x)=>(((((Fr.none.set 2 (.ptr 0 0)).set 3 (.ptr 1 0)).set 4 (.ptr 2 0)).set 5 (.ptr 3 0)).set 7 (.ptr 4 0)).set 8 (.val i64T n)) (fun(n,x)=>((((Hp.none.set 0 (.box 30 zL x.1)).set 1 (.box 30 zL b)).set 2 (.box 30 zL zax)).set 3 (.box 30 zL zax)).set 4 (.box 30 zL x.2)) (fun(n,x)=>n≤255∧-256≤n∧x.2.length=4∧divN b (n+1).toNat x=divN b (longW a+1-longW b) (a,zax)) (fun(n,x)=>(n+1).toNat) (((longW a:Int)-(longW b:Int),a,zax)) (⟨by omega,by omega,rfl,by rw[show((longW a:Int)-(longW b:Int)+1).toNat=longW a+1-longW b by omega]⟩) ?_;intro⟨n,x⟩ hinv;dsimp only at hinv;refine qaK ?_;refine qbP ?_;refine Cf (p:=0≤n) (fun ht22=>?_) (fun ht22=>?_)
 ·
  refine qaD ?_;refine CQ ?_;refine xv ?_;refine XK.gf (t:=2) rfl rfl (fun _ he=>zl rfl rfl he (Lens.self _) zV) ⟨rfl,trivial⟩ rfl rfl rfl ?_;refine XK.gf (t:=3) rfl rfl (fun _ he=>zl rfl rfl he (Lens.self _) zV) ⟨rfl,trivial⟩ rfl rfl rfl ?_;refine XK.ga (fun _=>g_mv (.inl rfl) rfl) rfl rfl rfl ?_;refine XK.ga (fun _=>zb7 (upW_ok _ _) rfl fn_106 yf rfl) rfl rfl rfl ?_;refine XK.ga (fun _=>zb7 (subW_ok _ _) rfl fn_152 yf rfl) rfl rfl rfl ?_;refine xw ?_;refine xx ?_;refine xq ?_;refine XK.e (fun fr' hfr kk H=>by exact zP zf7 rfl rfl rfl rfl (zp H)) ?_;refine XK.e (x:=.idk) (fun fr' hfr kk H=>by exact zg rfl rfl rfl ((hfr 9 yc).trans rfl) rfl (Lens.self _) zV ((hfr 31 yc).trans rfl) (zp H)) ?_;refine X0 aV ?_;refine XK.nilp ⟨yz,yz,trivial⟩ ?_;refine qa0 ?_;refine CN ?_;refine zk (p:=zpd x.1 (upW b n)=true) rfl yx (fun ht33=>?_) (fun ht33=>?_)
  ·
   refine qbs ?_;refine xm ?_;refine X0 mV ?_;refine X0 (g_quo rfl rfl rfl ybz (by first|decide|omega) rfl) ?_;refine X0 (zs (i:=n.toNat/64) rfl rfl rfl yh zaO ya) ?_;refine X0 (zl rfl rfl rfl (Lens.elem (i:=n.toNat/64) ya u64T) zaQ) ?_;refine X0 mV ?_;refine X0 (g_rem rfl rfl rfl ybz (by first|decide|omega) rfl) ?_;refine X0 (zlY rfl rfl rfl yo rfl) ?_;refine X0 (zso rfl rfl rfl) ?_;refine X0 (zs (i:=n.toNat/64) rfl rfl rfl yh zaO ya) ?_;refine XK.e (x:=.idk) (fun fr' hfr kk H=>by exact zg rfl rfl rfl ((hfr 43 yc).trans rfl) rfl (Lens.elem (i:=n.toNat/64) ya u64T) zaQ ((hfr 42 yc).trans rfl) (zp H)) ?_;refine qba ?_;refine qco ?_;refine qad ?_;refine zJ (n:=4) (y:=zjA x.2 n.toNat) rfl (by unfold zjA;rw[show(IntL.toI i64T (n%64)).toNat=n.toNat%64 by simp only[IntL.toI,id_eq];omega];rfl) ?_;exact Nx ((n-1,subW x.1 (upW b n),zjA x.2 n.toNat)) yW (by show(n-1+1).toNat<(n+1).toNat;omega)
  refine CSIR ?_;refine qco ?_;refine qad ?_;exact Nx ((n-1,x)) yW (by show(n-1+1).toNat<(n+1).toNat;omega)
 refine CE ?_;refine CQ ?_;refine zn [some 1,some 1000001,none,none,some 1] mixed yc ?_;refine qcm ?_;refine XK.gf (t:=2) rfl rfl (fun _ he=>zl rfl rfl he (Lens.self _) zV) ⟨rfl,trivial⟩ rfl rfl rfl ?_;refine XK.e (x:=.idk) (fun fr' hfr kk H=>by exact zg rfl rfl rfl ((hfr 4 yc).trans rfl) rfl (Lens.self _) zV ((hfr 44 yc).trans rfl) (zp H)) ?_;refine XK.e (x:=.idk) (fun fr' hfr kk H=>by exact zg rfl rfl rfl ((hfr 5 yc).trans rfl) rfl (Lens.self _) zV ((hfr 45 yc).trans rfl) (zp H)) ?_;refine X0 aV ?_;refine XK.nilp ⟨yz,trivial⟩ ?_;exact zkU rfl rfl (zC rfl rfl zV (by unfold divW divP;rw[ur ht13,←hinv.2.2.2,show(n+1).toNat=0 by omega];rfl)) (zC rfl rfl zV (by unfold remW divP;rw[ur ht13,←hinv.2.2.2,show(n+1).toNat=0 by omega];rfl)) (zX (zb rfl (by unfold divOk;symm;exact ui ht13)))
def zkn (t:Wide):Wide:=if zf5 t (ofW 1)=true then addW (divW [~~~ t.getD 0 default,~~~ t.getD 1 default,~~~ t.getD 2 default,~~~ t.getD 3 default] (addW t (ofW 1))) (ofW 1) else ofW 1
theorem workW_ok (t:Wide):Tells P 61 [.val zL t] (.val zL (zkn t)):=by
 refine zc Tryz.func61 rfl rfl rfl (fun ext w hext=>?_);refine ze (d:=0) rfl zaC (fun ha=>?_);refine qaf ?_;refine qau ?_;refine CNQ ?_;refine xy ?_;refine XK.gf (t:=1) rfl rfl (fun _ he=>zl rfl rfl he (Lens.self _) zV) ⟨rfl,trivial⟩ rfl rfl rfl ?_;refine XK.ga (fun _=>zb7 (zr7 1) rfl zsz ye rfl) rfl rfl rfl ?_;refine XK.ga (fun _=>zb7 (zoW _ _) rfl fn_30 yf rfl) rfl rfl rfl ?_;refine xw ?_;refine xx ?_;refine xq ?_;refine XK.e (fun fr' hfr kk H=>by exact zP zf7 rfl rfl rfl rfl (zp H)) ?_;refine XK.e (x:=.idk) (fun fr' hfr kk H=>by exact zg rfl rfl rfl ((hfr 3 yc).trans rfl) rfl (Lens.self _) zV ((hfr 13 yc).trans rfl) (zp H)) ?_;refine X0 aV ?_;refine XK.nilp ⟨yz,trivial⟩ ?_;refine qaK ?_;refine qaQ ?_;refine zk (p:=¬zf5 t (ofW 1)=true) rfl (by cases zf5 t (ofW 1)<;>rfl) (fun ht16=>?_) (fun ht16=>?_)
 ·
  refine CQR ?_;refine A0 (oCl (zr7 1) rfl zsz ye) ?_;refine qag ?_;refine CN ?_;exact zq rfl rfl rfl rfl zV (by unfold zkn;rw[ur ht16]<;>rfl)
 refine CSQR ?_;refine A0 (zs (i:=0) rfl rfl rfl yh zaO ya) ?_;refine A0 (zl rfl rfl rfl (Lens.elem (i:=0) ya u64T) zaQ) ?_;refine A0 (zou rfl rfl) ?_;refine A0 (zs (i:=1) rfl rfl rfl yh zaO ya) ?_;refine A0 (zl rfl rfl rfl (Lens.elem (i:=1) ya u64T) zaQ) ?_;refine A0 (zou rfl rfl) ?_;refine A0 (zs (i:=2) rfl rfl rfl yh zaO ya) ?_;refine A0 (zl rfl rfl rfl (Lens.elem (i:=2) ya u64T) zaQ) ?_;refine A0 (zou rfl rfl) ?_;refine A0 (zs (i:=3) rfl rfl rfl yh zaO ya) ?_;refine A0 (zl rfl rfl rfl (Lens.elem (i:=3) ya u64T) zaQ) ?_;refine A0 (zou rfl rfl) ?_;refine A0 (zgq (T:=u64T) (xs:=[_,_,_,_]) rfl zaO zf7 yaK rfl) ?_;refine qau ?_;refine qag ?_;refine CNQR ?_;refine qcS ?_;refine A0 (oCl (divW_ok _ _) rfl fn_108 yf) ?_;refine qaM ?_;refine A0 e32 ?_;refine qau ?_;refine qau ?_;refine qag ?_;refine qag ?_;refine qaJ ?_;refine zn [some 1,some 1,some 1,some 1,some 1,some 1000001,none] mixed yc ?_;refine qcm ?_;refine X0 (oCl (zr7 1) rfl zsz ye) ?_;refine X0 (oCl (zoW _ _) rfl fn_30 yf) ?_;refine qc0 ?_;refine xq ?_;refine XK.e (x:=.idk) (fun fr' hfr kk H=>by exact zg rfl rfl rfl ((hfr 6 yc).trans rfl) rfl (Lens.self _) zV ((hfr 42 yc).trans rfl) (zp H)) ?_;refine xc ?_;refine qbs ?_;exact zq rfl rfl rfl rfl zV (by unfold zkn;rw[ut (ua ht16)]<;>rfl)
def hOk (h:Head):Bool:=decide (0≤h.height∧h.height≤1048576)
def zlt (h:Head):List UInt8:=[zaj (z6 (IntL.toI i64T h.height)) 4,h.prev,h.links,h.txs,h.past,zi5 h.work,zaj (z6 (IntL.toI u32T h.bits)) 4,zaj h.nonce 8].flatten
def zbi (h:Head):List UInt8:=if hOk h=true then zlt h else []
def zR (h:Head):Ab.Id:=if hOk h=true then zea ([5]++zlt h) else zId
def zaL (h:Head):Int:=if zay h.bits=true∧hOk h=true then (if h.height=0 then 31 else znl (zR h) (tgtW h.bits)) else -1
def zcF (h:Head):Wide:=if zay h.bits=true then zkn (tgtW h.bits) else zax
def zcd (h:Head):Bool:=!decide (zaL h = -1)
theorem ziY {h:Head} {ρ:Nat→Value} {B:Nat→Prop} {U N:Nat→Prop} {w:World} {v:Value} (hv:(AV.val zbU h).rel ρ B U N w v):h.prev.length=32∧h.links.length=32∧h.txs.length=32∧h.past.length=32∧h.work.length=4:=by
  obtain⟨cs,⟨_,_,_,_,_,_,_,h1,_,_,_,h2,_,_,_,h3,_,_,_,h4,_,_,_,h5,_⟩,_⟩:=hv;exact⟨h1.1,h2.1,h3.1,h4.1,h5.1⟩
theorem zdW (a:Wide):(zi5 a).length=32:=by unfold zi5;simp
theorem hput_ok (h:Head):Tells P 64 [.val zbU h] (.tup2 (.fresh 5 u8T (zbi h)) (.val zu (hOk h))):=by
 refine zc Tryz.func64 rfl rfl rfl (fun ext w hext=>?_);refine ze (d:=0) rfl ziY (fun hh=>?_);obtain⟨hh1,hh2,hh3,hh4,hh5⟩:=hh;refine qbO ?_;refine qcH ?_;refine qbN ?_;refine A0 zbK ?_;refine Sp (d:=7) (p:=h.height<0) (fun g7=>?_) (fun g7=>?_)
 ·
  refine qa9 ?_;refine qac ?_;refine qar ?_;refine Ct ?_;refine qaB ?_;refine qad ?_;exact zac rfl rfl ybp (zb rfl (by unfold hOk;symm;apply uh;omega))
 refine qa9 ?_;refine A1 (oFp zdm) ?_;refine A1 (oLb zat ty_3) ?_;refine A1 zcm ?_;refine qar ?_;refine Cf (p:=1048576<h.height) (fun ht12=>?_) (fun ht12=>?_)
 ·
  refine qaB ?_;refine qad ?_;exact zac rfl rfl ybp (zb rfl (by unfold hOk;symm;apply uh;omega))
 refine CSQR ?_;refine A0 (oFp zfF) ?_;refine A0 (oLb zcq zV) ?_;refine A0 (oCl (zqk _) rfl fn_110 ye) ?_;refine qaI ?_;refine qao ?_;refine qc8 ?_;refine zej (d:=4) rfl rfl (Lens.self _) ?_;have hbl:=zdW h.work;have hn1:=zU (z6 (IntL.toI i64T h.height)) 4;have hn2:=zU (z6 (IntL.toI u32T h.bits)) 4;have hn3:=zU h.nonce 8;refine zn [some 1,some 1,some 1,some 1,some 1,some 1,some 1,some 1,some 1,some 1,some 1,some 1,some 1,some 1,some 1,some 1,some 1,some 1,some 1,some 1,some 1,none,some 1,some 1] mixed yc ?_;refine X0 (oFr zdm zat) ?_;refine X0 (zh rfl rfl ty_3) ?_;refine X0 (zdv rfl (zhX) (us_3) rfl) ?_;refine qcu ?_;refine X0 (oFr zet zbz) ?_;refine qcy ?_;refine X0 (oFr zes zbb) ?_;refine qcy ?_;refine X0 (oFr zfH zcX) ?_;refine qcy ?_;refine X0 (oFr zfG zcr) ?_;refine qcy ?_;refine qcy ?_;refine X0 (oFr zcf zan) ?_;refine X0 (zh rfl rfl zaY) ?_;refine X0 (zdv rfl (zhX) (zk3) rfl) ?_;refine qcu ?_;refine X0 (oFr zfE zb0) ?_;refine X0 (zh rfl rfl zaQ) ?_;refine X0 (zkf (T:=sl u8T) (S:=bsl u8T) (zb7 (zF (zmm _ 8 yp)) rfl fn_112 ybF rfl)) ?_;refine X0 (zW (T:=(bsl u8T)) (xs:=[_,_,_,_,_,_,_,_]) rfl zix zjt yai rfl rfl) ?_;refine XK.e (fun fr' hfr kk H=>by exact zam (zg4 [zaj (z6 (IntL.toI i64T h.height)) 4,h.prev,h.links,h.txs,h.past,zi5 h.work,zaj (z6 (IntL.toI u32T h.bits)) 4,zaj h.nonce 8] (by simp[hh1,hh2,hh3,hh4,hbl,hn1,hn2,hn3])) rfl zp3 ⟨(zd ((hfr 36 yc).trans rfl)),trivial⟩ rfl rfl rfl (zp H)) ?_;refine X0 aO ?_;refine X0 aV ?_;refine xc ?_;exact zac rfl rfl (zf rfl rfl (by unfold zbi;rw[ut (by unfold hOk;rw[uj];omega)];rfl)) (zb rfl (by unfold hOk;symm;apply ui;omega))
theorem ze5 (h:Head):Tells P 33 [.val zbU h] (.val idT (zR h)):=by
 refine zc Tryz.func33 rfl rfl rfl (fun ext w hext=>?_);refine ze (d:=0) rfl ziY (fun hh=>?_);obtain⟨hh1,hh2,hh3,hh4,hh5⟩:=hh;refine qaf ?_;refine qaI ?_;refine CNQR ?_;refine qcp ?_;refine A0 (oCl (zdP (hput_ok h)) rfl fn_64 ye) ?_;refine qcz ?_;refine zk (p:=¬hOk h=true) rfl (by cases hOk h<;>rfl) (fun ht11=>?_) (fun ht11=>?_)
 ·
  refine CQR ?_;refine A0 (zdF rfl zc8 zqB rfl) ?_;refine qcb ?_;exact zq rfl rfl rfl rfl zT (by unfold zR;rw[ur ht11]<;>rfl)
 refine CSQR ?_;refine qaz ?_;refine zjR (S:=bsl u8T) (d:=13) rfl ?_;refine qa9 ?_;refine zjR (S:=bsl u8T) (d:=14) rfl ?_;refine qck ?_;refine A0 (oCl (of_ok [[5],zbi h] (by unfold zbi;split<;>simp[zlt,hh1,hh2,hh3,hh4,zdW,zU])) rfl fn_65 ye) ?_;refine qcb ?_;exact zq rfl rfl rfl rfl zT (by unfold zR zbi;rw[ut (ua ht11),ut (ua ht11)];simp)
theorem zkc (h:Head):Tells P 159 [.val zbU h] (.val i64T (zaL h)):=by
 refine zc Tryz.func159 rfl rfl rfl (fun ext w hext=>?_);refine qaf ?_;refine qaj ?_;refine A0 (oFp zcf) ?_;refine A0 (oLb zan zaY) ?_;refine A0 (oCl (zk8 _) rfl fn_60 ye) ?_;refine qcl ?_;refine qaJ ?_;refine CB ?_;refine qaK ?_;refine A0 oN ?_;refine zad (d:=13) (p:=¬zay h.bits=true) rfl ybA (fun g13=>?_) (fun g13=>?_)
 ·
  refine qad ?_;refine Ct ?_;refine CS ?_;refine Ct ?_;refine qaq ?_;exact za rfl rfl (zb rfl (by unfold zaL;rw[ur (by unfold hOk;rw[uj];exact fun h=>g13 h.1)]<;>rfl))
 refine qad ?_;refine Cg ?_;refine CQR ?_;refine qbN ?_;refine A0 zbK ?_;refine Sp (d:=16) (p:=h.height<0) (fun g16=>?_) (fun g16=>?_)
 ·
  refine qad ?_;refine Ct ?_;refine CS ?_;refine Ct ?_;refine qaq ?_;exact za rfl rfl (zb rfl (by unfold zaL;rw[ur (by unfold hOk;rw[uj];omega)]<;>rfl))
 refine qad ?_;refine Cg ?_;refine CR ?_;refine qbN ?_;refine A0 zcm ?_;refine Sp (d:=19) (p:=1048576<h.height) (fun g19=>?_) (fun g19=>?_)
 ·
  refine qad ?_;refine Ct ?_;refine qaq ?_;exact za rfl rfl (zb rfl (by unfold zaL;rw[ur (by unfold hOk;rw[uj];omega)]<;>rfl))
 refine qad ?_;refine Cg ?_;refine CQR ?_;refine qbN ?_;refine A0 zct ?_;refine qad ?_;refine Cf (p:=h.height=0) (fun ht20=>?_) (fun ht20=>?_)
 ·
  refine qaq ?_;exact za rfl rfl (zb rfl (by unfold zaL;rw[ut ⟨ua g13,by unfold hOk;rw[uj];omega⟩,ut ht20]<;>rfl))
 refine CS ?_;refine CI ?_;refine qaH ?_;refine G0 (oLs rfl rfl rfl za4) ?_;refine G0 (oCl (ze5 _) rfl zqZ ye) ?_;refine G0 (oLs rfl rfl rfl zV) ?_;refine G0 (oCl (levelW_ok _ _) rfl fn_202 yf) ?_;refine qa6 ?_;exact za rfl rfl (zb rfl (by unfold zaL;rw[ut ⟨ua g13,by unfold hOk;rw[uj];omega⟩,ur ht20]))
theorem zlQ (h:Head):Tells P 31 [.val zbU h] (.val zL (zcF h)):=by
 refine zc Tryz.func31 rfl rfl rfl (fun ext w hext=>?_);refine qaf ?_;refine qau ?_;refine CNQR ?_;refine A0 (oFp zcf) ?_;refine A0 (oLb zan zaY) ?_;refine A0 (oCl (zk8 _) rfl fn_60 ye) ?_;refine qcl ?_;refine qah ?_;refine qaQ ?_;refine zk (p:=¬zay h.bits=true) rfl ybA (fun ht12=>?_) (fun ht12=>?_)
 ·
  refine qaL ?_;refine CN ?_;exact zq rfl rfl rfl rfl zV (by unfold zcF;rw[ur ht12]<;>rfl)
 refine CSQR ?_;refine qay ?_;refine A0 (oCl (workW_ok _) rfl fn_61 ye) ?_;refine qag ?_;refine CN ?_;exact zq rfl rfl rfl rfl zV (by unfold zcF;rw[ut (ua ht12)])
theorem zno (h:Head):Tells P 137 [.val zbU h] (.val zu (zcd h)):=by
 refine zc Tryz.func137 rfl rfl rfl (fun ext w hext=>?_);refine qaf ?_;refine qaj ?_;refine qcp ?_;refine A0 (oCl (zkc _) rfl fn_159 ye) ?_;refine A0 zeb ?_;refine qad ?_;exact za rfl rfl (zb rfl rfl)
theorem zhv {t:Total} {ρ:Nat→Value} {B:Nat→Prop} {U N:Nat→Prop} {w:World} {v:Value} (hv:(AV.val zao t).rel ρ B U N w v):t.h.length=32∧t.w.length=4:=by
  obtain⟨cs,⟨_,_,_,h1,_,_,_,h2,_⟩,_⟩:=hv;exact⟨h1.1,h2.1⟩
def zcI (t:Total):List UInt8:=[t.h,zi5 t.w,zaj (z6 (IntL.toI i64T t.n)) 4].flatten
theorem zeF {t:Total} (h:t.h.length=32):(zcI t).length=68:=by unfold zcI;simp[h,zdW,zU]
def ziP (a b:Total):Total:=⟨zea ([3]++zcI a++zcI b),addW a.w b.w,IntKind.i64.wrap (a.n+b.n)⟩
def leafT (id:Ab.Id) (w:Wide):Total:=⟨id,w,1⟩
def zeK (id:Ab.Id):Ab.Id:=znm id
def zhq (l:List Ab.Id):Ab.Id:=zeA (l.map zeK)
def zmV (l:List Tx):Ab.Id:=zeA (l.map idOf)
theorem zjZ (t:Total) (hh:t.h.length=32):Tells P 188 [.val zao t] (.fresh 5 u8T (zcI t)):=by
 refine zc Tryz.func188 rfl rfl rfl (fun ext w hext=>?_);refine qbO ?_;refine CNQR ?_;refine qc9 ?_;refine A0 (oCl (zqk _) rfl fn_110 ye) ?_;refine qaI ?_;refine qao ?_;refine qc8 ?_;refine zej (d:=3) rfl rfl (Lens.self _) ?_;have hbl:=zdW t.w;have hn:=zU (z6 (IntL.toI i64T t.n)) 4;refine zn [some 1,some 1,some 1,some 1,some 1,some 1,some 1,some 1,none,some 1] mixed yc ?_;refine X0 (oFr zdg zcy) ?_;refine qcy ?_;refine qcy ?_;refine X0 (oFr zcG zbZ) ?_;refine X0 (zh rfl rfl ty_3) ?_;refine X0 (zdv rfl (zhX) (us_3) rfl) ?_;refine qcu ?_;refine qcd ?_;refine XK.e (fun fr' hfr kk H=>by exact zam (zg4 [t.h,zi5 t.w,zaj (z6 (IntL.toI i64T t.n)) 4] (by simp[hh,hbl,hn])) rfl zp3 ⟨(zd ((hfr 14 yc).trans rfl)),trivial⟩ rfl rfl rfl (zp H)) ?_;refine X0 aO ?_;refine xc ?_;exact za rfl rfl (zf rfl rfl rfl)
theorem mleaf_ok (id:Ab.Id) (w:Wide):Tells P 142 [.val idT id,.val zL w] (.val zao (leafT id w)):=by
 refine zc Tryz.func142 rfl rfl rfl (fun ext w hext=>?_);refine qaw ?_;refine qbI ?_;refine CNQR ?_;refine qbw ?_;refine qay ?_;refine A0 (z7 rfl zjW znK (.cons zdg zcy zT rfl (.cons zgt zfg zV rfl (.cons zcG zbZ ty_3 rfl .nil))) rfl) ?_;refine qaV ?_;refine CN ?_;exact zq rfl rfl rfl rfl zaV (rfl)
theorem join_ok (a b:Total):Tells P 141 [.val zao a,.val zao b] (.val zao (ziP a b)):=by
 refine zc Tryz.func141 rfl rfl rfl (fun ext w hext=>?_);refine ze (d:=0) rfl zhv (fun ha=>?_);refine ze (d:=1) rfl zhv (fun hb=>?_);refine qaw ?_;refine qbI ?_;refine CNQR ?_;refine qc9 ?_;refine qc9 ?_;refine A0 (oCl (zoW _ _) rfl fn_30 yf) ?_;refine qcl ?_;refine qaJ ?_;refine zn [some 1,some 1,some 1,some 1,some 1,some 1,some 1,some 1,some 1,some 1,some 1,some 1,some 1,some 1,none] mixed yc ?_;refine qcL ?_;refine X0 (oLs rfl rfl rfl zaV) ?_;refine X0 (zkf (T:=sl u8T) (S:=bsl u8T) (zb7 (zF (zjZ a ha.1)) rfl fn_188 ye rfl)) ?_;refine X0 (oLs rfl rfl rfl zaV) ?_;refine X0 (zkf (T:=sl u8T) (S:=bsl u8T) (zb7 (zF (zjZ b hb.1)) rfl fn_188 ye rfl)) ?_;refine qcd ?_;refine X0 (oCl (of_ok [[3],zcI a,zcI b] (by simp[zeF ha.1,zeF hb.1])) rfl fn_65 ye) ?_;refine qcm ?_;refine X0 (oFp zcG) ?_;refine X0 (oLb zbZ ty_3) ?_;refine X0 (oFp zcG) ?_;refine X0 (oLb zbZ ty_3) ?_;refine X0 zbh ?_;refine X0 (z7 rfl zjW znK (.cons zdg zcy zT rfl (.cons zgt zfg zV rfl (.cons zcG zbZ ty_3 rfl .nil))) rfl) ?_;refine XK.e (x:=.idk) (fun fr' hfr kk H=>by exact zg rfl rfl rfl ((hfr 4 yc).trans rfl) rfl (Lens.self _) zaV ((hfr 28 yc).trans rfl) (zp H)) ?_;refine xc ?_;exact zq rfl rfl rfl rfl zaV (by unfold ziP;simp)
theorem zlF (id:Ab.Id):Tells P 145 [.val idT id] (.val idT (zeK id)):=by
 refine zc Tryz.func145 rfl rfl rfl (fun ext w hext=>?_);refine ze (d:=0) rfl zgv (fun hid=>?_);refine qaf ?_;refine qaI ?_;refine qc8 ?_;refine CR ?_;refine qbJ ?_;refine A0 (oCl (leaf_ok id ya) rfl fn_191 ye) ?_;refine qcb ?_;exact zq rfl rfl rfl rfl zT (rfl)
theorem mapped_ok (l:List Ab.Id) (f:Ab.Id→Ab.Id) (hl:l.length≤4000000000000):Tells P 144 [.val (bsl idT) l,.fn1 P idT idT f] (.fresh 27 idT (l.map f)):=by
 refine zc Tryz.func144 rfl rfl rfl (fun ext w hext=>?_);refine ze (d:=0) rfl zm (fun hsl0=>?_);refine qaB ?_;refine CNQR ?_;refine A0 aL ?_;refine qb2 ?_;refine qbA ?_;refine qbp ?_;refine zcw (T:=idT) (d:=5) 27 rfl ?_;refine Lp (ι:=Nat) 1 (fun (k:Nat)=>((((((Fr.none).set 0 (.val (bsl idT) l)).set 1 (.fn1 P idT idT f)).set 5 (.own 0)).set 8 (.val (bsl idT) l)).set 9 (.val i64T (l.length:Int))).set 10 (.val i64T (k:Int))) (fun (k:Nat)=>(Hp.none).set 0 (.row 27 idT ((l.take k).map f))) (fun (k:Nat)=>k≤l.length) (fun (k:Nat)=>l.length-k) (0) (uf _) ?_;intro k hinv;refine qas ?_;refine Cf (p:=k<l.length) (fun ht11=>?_) (fun ht11=>?_)
 ·
  obtain⟨x,hx⟩:∃x,l[k]?=some x:=⟨_,ub ht11⟩;refine CSQBQR ?_;refine A0 (zbj rfl rfl rfl zdR yj) ?_;refine A0 (zh rfl rfl zT) ?_;refine qaI ?_;refine qao ?_;refine CNR ?_;refine A0 mO ?_;refine A0 mF ?_;refine qbw ?_;refine A0 (zkO rfl rfl yl) ?_;refine qbq ?_;refine qan ?_;refine zcj 2 0 3 rfl rfl rfl rfl rfl rfl ?_;refine zB (n:=0) (y:=(l.take (k+1)).map f) rfl (by rw[un,hx];simp) ?_;exact Nx (k+1) ya ya
 refine qa7 ?_;exact za rfl rfl (zf rfl rfl yak)
theorem zlE (l:List Ab.Id) (hl:l.length≤4000000000000):Tells P 100 [.val (bsl idT) l] (.val idT (zhq l)):=by
 refine zc Tryz.func100 rfl rfl rfl (fun ext w hext=>?_);refine ze (d:=0) rfl zm (fun hsl0=>?_);refine CQR ?_;refine qaI ?_;refine qbX ?_;refine A0 (oCl (zF (mapped_ok l zeK hl)) rfl fn_144 ⟨yl,(by first|exact zdY (Cs:=[]) rfl fn_145 yJ trivial rfl (fun x=>zlF x)|exact zdX (Cs:=[]) rfl fn_145 yJ trivial rfl (fun x y=>zlF x)|exact zdZ rfl),trivial⟩) ?_;refine A0 (oCl (znX (l.map zeK) yG) rfl zsw ye) ?_;refine qcb ?_;exact zq rfl rfl rfl rfl zT (rfl)
theorem zo7 (l:List Tx) (hl:l.length≤4000000000000):Tells P 101 [.val (bsl txT) l] (.val idT (zmV l)):=by
 refine zc Tryz.func101 rfl rfl rfl (fun ext w hext=>?_);refine ze (d:=0) rfl zm (fun hsl0=>?_);refine CQR ?_;refine qaI ?_;refine CNQR ?_;refine A0 aL ?_;refine qb2 ?_;refine qbG ?_;refine qbp ?_;refine zcw (T:=idT) (d:=3) 27 rfl ?_;refine Lp (ι:=Nat) 2 (fun (k:Nat)=>(((((Fr.none).set 2 (.ptr 0 0)).set 3 (.own 1)).set 6 (.val (bsl txT) l)).set 7 (.val i64T (l.length:Int))).set 8 (.val i64T (k:Int))) (fun (k:Nat)=>((Hp.none).set 0 (.box 27 idT zId)).set 1 (.row 27 idT ((l.take k).map idOf))) (fun (k:Nat)=>k≤l.length) (fun (k:Nat)=>l.length-k) (0) (uf _) ?_;intro k hinv;refine qas ?_;refine Cf (p:=k<l.length) (fun ht9=>?_) (fun ht9=>?_)
 ·
  obtain⟨x,hx⟩:∃x,l[k]?=some x:=ya0;refine CSQBQR ?_;refine qbo ?_;refine qca ?_;refine CNR ?_;refine A0 mO ?_;refine qb0 ?_;refine A0 (oCl (id_ok _) rfl fn_146 ye) ?_;refine qbq ?_;refine qan ?_;refine xz ?_;refine zB (n:=1) (y:=(l.take (k+1)).map idOf) rfl (by rw[un,hx];simp) ?_;exact Nx (k+1) ya ya
 obtain rfl:k=l.length:=ya;refine zfx (d:=3) rfl rfl ?_;refine zi (d:=3) (y:=l.map idOf) rfl (by rw[List.take_length]) ?_;refine CE ?_;refine qa0 ?_;refine A0 (oCl (znX (l.map idOf) yG) rfl zsw ye) ?_;refine qcb ?_;exact zq rfl rfl rfl rfl zT (rfl)
def zfn:List Total→Total→Total
  | [],x=>x
  | y::r,x=>zfn r (ziP y x)
def zer (p:List Total):Total:=match p.reverse with
  | []=>⟨zea [4],zax,0⟩
  | x::r=>zfn r x
def zkr:List Total→Total→List Total
  | [],x=>[x]
  | y::r,x=>if y.n=x.n then zkr r (ziP y x) else x::y::r
def zbx (p:List Total) (leaf:Total):List Total:=(zkr p.reverse leaf).reverse
theorem zlz:zer []=⟨zea [4],zax,0⟩:=rfl
theorem zni {p:List Total} {x:Total} {n:Nat} (hn:p.length=n+1) (hx:p[n]?=some x):zer p=zfn (p.take n).reverse x:=by
  have e:p=p.take n++[x]:=by
    have:=un (l:=p) (i:=n)
    rw[uc ya,hx] at this;simpa using this
  unfold zer
  conv=>lhs;rw[e]
  simp
theorem ziD {p:List Total} {k:Nat} {x y:Total} (hx:p[k]?=some x):zfn (p.take (k+1)).reverse y=zfn (p.take k).reverse (ziP x y):=by
  rw[un,hx];simp[zfn]
theorem znh (p:List Total) (hp:p.length≤1000000):Tells P 102 [.val (bsl zao) p] (.val zao (zer p)):=by
 refine zc Tryz.func102 rfl rfl rfl (fun ext w hext=>?_);refine ze (d:=0) rfl zm (fun hsl0=>?_);refine CQR ?_;refine qbI ?_;refine qb2 ?_;refine xA ?_;refine qcC ?_;refine Cf (p:=p.length=0) (fun ht8=>?_) (fun ht8=>?_)
 ·
  obtain rfl:p=[]:=List.length_eq_zero_iff.1 ht8;refine CQR ?_;refine qaz ?_;refine A0 (oCl (zrE [4] yp) rfl zsy ye) ?_;refine A0 (z7 rfl zjW znK (.cons zdg zcy zT rfl .nil) rfl) ?_;refine qaV ?_;refine CN ?_;exact zq rfl rfl rfl rfl zaV (zlz.symm)
 obtain⟨n,hn⟩:∃n,p.length=n+1:=⟨p.length-1,by omega⟩;obtain⟨x0,hx0⟩:∃x,p[n]?=some x:=yq;have hroot:=zni hn hx0;refine CSQR ?_;refine qai ?_;refine xA ?_;refine A0 za1 ?_;refine A0 (zD (i:=n) rfl rfl rfl ya zeH yj) ?_;refine A0 (zh rfl rfl zaV) ?_;refine qbI ?_;refine qaV ?_;refine CNQQR ?_;refine qai ?_;refine xA ?_;refine A0 za1 ?_;refine A0 yaN ?_;refine zi (d:=22) (y:=p.take n) rfl (by congr 1;omega) ?_;refine zdJ rfl rfl rfl rfl Tryz.func147 fn_147 rfl rfl (fun ia1 iok1=>?_);refine qbO ?_;refine CNQR ?_;refine A0 (zpT (caps:=[_]) rfl rfl) ?_;refine A0 aC ?_;refine CN ?_;refine zaM rfl ?_;refine CNB ?_;refine zoN rfl rfl rfl Tryz.func193 fn_193 rfl rfl (by intro n hn;simp only[List.mem_cons,List.not_mem_nil,or_false] at hn;rcases hn with rfl<;>rfl) (fun fid2 ca2 lN2 DN2 cok2 rc2 hrc2=>?_);refine CQR ?_;refine A0 (oLs rfl rfl rfl zko) ?_;refine xA ?_;refine A0 za1 ?_;refine qcn ?_;refine zi (d:=3) (y:=(n:Int)-1) rfl yG ?_;refine Lp (ι:=Nat×Total) 5 (fun(k,y)=>((Fr.none.set 0 (.lit (.func (.yield lN2) #[] #[]))).set 1 (.ptr 2 0)).set 3 (.val i64T ((k:Int)-1))) (fun(k,y)=>((((Hp.none.set 0 (.box 148 zao zrw)).set 1 (.box 148 zao y)).set 2 (.box 53 (bsl zao) (p.take n))).set 3 (.objAt DN2 (.deferred (some [])))).set 4 (.objAt lN2 (rc2 .ready none))) (fun(k,y)=>k≤n∧zer p=zfn (p.take k).reverse y) (fun(k,y)=>k) ((n,x0)) (⟨ug _,hroot⟩) ?_;intro⟨k,y⟩ hinv;dsimp only at hinv;refine qaK ?_;refine qbP ?_;refine Cf (p:=0<k) (fun ht8=>?_) (fun ht8=>?_)
 ·
  obtain⟨x,hx⟩:∃x,(p.take n)[k-1]?=some x:=⟨_,ub yG⟩;have hx2:p[k-1]?=some x:=by rw[List.getElem?_take] at hx;split at hx;exact hx;cases hx
  refine CSQBQR ?_;refine A0 mL ?_;refine qa9 ?_;refine A0 (oLs rfl rfl rfl zko) ?_;refine qa9 ?_;refine A0 (zD (i:=k-1) rfl rfl rfl ya zeH yj) ?_;refine A0 (zh rfl rfl zaV) ?_;refine zoK (nL:=4) rfl rfl rfl rfl rfl hrc2 rfl rfl rfl (fun ya3 yok3=>?_);refine CR ?_;refine qbI ?_;refine qaV ?_;refine CN ?_;refine zoQ (nL:=4) hrc2 rfl ?_;refine CB ?_;refine CR ?_;refine A0 (oLs rfl rfl rfl zaV) ?_;refine A0 (oLs rfl rfl rfl zaV) ?_;refine A0 (oCl (join_ok _ _) rfl fn_141 yf) ?_;refine qaV ?_;refine CN ?_;refine CI ?_;refine zhc (nL:=4) hrc2 rfl ?_;refine qaQ ?_;refine Cg ?_;refine CSIR ?_;refine qco ?_;refine qad ?_;refine zi (d:=3) (y:=((k-1:Nat):Int)-1) rfl ya ?_;exact Nx ((k-1,ziP x y)) (⟨by omega,by rw[hinv.2,show k=k-1+1 by omega,ziD hx2];rfl⟩) (by show k-1<k;omega)
 obtain rfl:k=0:=ya;refine CE ?_;refine zhd (nL:=4) rfl hrc2 rfl yp ?_;refine CI ?_;refine CQR ?_;refine A0 (oLs rfl rfl rfl zaV) ?_;refine qaV ?_;refine CN ?_;refine zcb (zi9 (nD:=3) rfl rfl rfl ?_);exact zoT rfl rfl rfl rfl zaV (by rw[hinv.2];rfl)
theorem zj9 (p:List Total) (leaf:Total) (hp:p.length≤1000000):Tells P 98 [.val (bsl zao) p,.val zao leaf] (.fresh 148 zao (zbx p leaf)):=by
 refine zc Tryz.func98 rfl rfl rfl (fun ext w hext=>?_);refine ze (d:=0) rfl zm (fun hsl0=>?_);refine qbO ?_;refine CN ?_;refine zsR (ι:=List Total×Total) 2 0 rfl rfl rfl (fun (i:List Total×Total)=>match i with|(r,x)=>((Fr.none).set 3 (.ptr 0 0)).set 5 (.own 1)) (fun (i:List Total×Total)=>match i with|(r,x)=>((Hp.none).set 0 (.box 148 zao leaf)).set 1 (.row 148 zao (r.reverse++[x]))) (fun (i:List Total×Total)=>match i with|(r,x)=>r.length≤1000000∧zkr r x=zkr p.reverse leaf) (fun (i:List Total×Total)=>match i with|(r,x)=>r.length) ?_ (fun hreach=>?_)
 ·
  intro⟨r,x⟩ hinv;dsimp only at hinv;refine CQR ?_;refine A0 mO ?_;refine A0 (za9 rfl rfl rfl zfr) ?_;refine zi (d:=13) (y:=((r.length+1:Nat):Int)) rfl yx ?_;refine qaJ ?_;refine qaH ?_;refine G0 mV ?_;refine G0 zbK ?_;refine zaq (d:=15) (p:=r=[]) rfl (by rw[uo];show((r.length+1:Nat):Int)<2↔_;rw[←List.length_eq_zero_iff];omega) (fun g15=>?_) (fun g15=>?_)
  ·
   refine G0 mV ?_;refine qaa ?_;refine qaE ?_;refine G2 ?_;refine G2 ?_;refine qbV ?_;refine Ct ?_;refine CQR ?_;refine A0 mO ?_;refine qbK ?_;exact za rfl rfl (zf rfl rfl (by unfold zbx;rw[←hinv.2,g15];rfl))
  obtain⟨y,s,hr⟩:∃y s,r=y::s:=by cases r with|nil=>exact absurd rfl g15|cons y s=>exact⟨y,s,rfl⟩
  have hrl:r.length=s.length+1:=by rw[hr];rfl
  have hx1:(r.reverse++[x])[s.length]?=some y:=by rw[hr];simp
  have hx2:(r.reverse++[x])[s.length+1]?=some x:=by rw[List.getElem?_append_right (by simp[hrl])];simp[hrl]
  refine G0 mV ?_;refine G1 mO ?_;refine G1 mV ?_;refine G1 za1 ?_;refine G1 (zI (i:=s.length) rfl rfl rfl rfl yh zeH yd) ?_;refine G1 (znr rfl rfl zcG rfl) ?_;refine G1 (zbA rfl rfl rfl rfl yj zbZ ty_3) ?_;refine G1 mO ?_;refine G1 mV ?_;refine G1 za1 ?_;refine G1 (zI (i:=s.length+1) rfl rfl rfl rfl yh zeH yd) ?_;refine G1 (znr rfl rfl zcG rfl) ?_;refine G1 (zbA rfl rfl rfl rfl yj zbZ ty_3) ?_;refine G1 zeb ?_;refine qbV ?_;refine zk (p:=¬y.n=x.n) rfl yF (fun ht30=>?_) (fun ht30=>?_)
  ·
   refine CQR ?_;refine A0 mO ?_;refine qbK ?_;exact za rfl rfl (zf rfl rfl (by unfold zbx;rw[←hinv.2,hr,zkr,ur ht30];simp))
  refine CS ?_;refine CQ ?_;refine zn [some 1,some 1,some 1,some 1,some 1,some 1,some 1,some 1,some 1,some 1,some 1,some 1,some 1,some 1,some 1,some 1,none,some 1] mixed yc ?_;refine qct ?_;refine X0 za1 ?_;refine X0 (znp (q:=s.length) rfl rfl rfl rfl zeH yh yd) ?_;refine qct ?_;refine X0 za1 ?_;refine X0 (zI (i:=s.length) rfl rfl rfl rfl yh zeH yd) ?_;refine X0 (zbA rfl rfl rfl rfl yj (Lens.self _) zaV) ?_;refine qct ?_;refine X0 za1 ?_;refine X0 (zI (i:=s.length+1) rfl rfl rfl rfl yh zeH yd) ?_;refine X0 (zbA rfl rfl rfl rfl yj (Lens.self _) zaV) ?_;refine X0 (oCl (join_ok _ _) rfl fn_141 yf) ?_;refine X0 (zW (T:=zao) (xs:=[_]) rfl zeH zfl yz rfl rfl) ?_;refine XK.e (fun fr' hfr kk H=>by exact zoR rfl rfl rfl rfl ((hfr 35 yc).trans rfl) ((hfr 47 yc).trans rfl) rfl zfl yG (zp H)) ?_;refine X0 aS ?_;refine xc ?_;refine zqn (d:=5) rfl rfl rfl yG ?_;refine qbS ?_;refine zB (n:=1) (y:=s.reverse++[ziP y x]) rfl (by simp[hr,List.take_append];exact uc yx) ?_;exact aw_goto ((s,ziP y x)) rfl (⟨by omega,by rw[←hinv.2,hr,zkr,ut (ua ht30)]⟩) (by show s.length<r.length;omega) rfl (by (repeat refine Fr.le_set ?_ y6);exact Fr.le_none _) (by (repeat refine Hp.le_set ?_ rfl);exact Hp.le_none _) (by (repeat refine Fr.below_setB ?_ rfl);exact Fr.below_none _) (by (repeat refine Hp.below_set ?_ yp);exact Hp.below_none _)
 refine CQ ?_;refine zn [some 1,none,some 2,some 2,none,some 1] mixed yc ?_;refine X0 mV ?_;refine XK.e (fun fr' hfr kk H=>by exact zam (znF p y5) rfl fn_139 ⟨(zd ((hfr 7 yc).trans rfl)),trivial⟩ rfl rfl rfl (zp H)) ?_;refine XK.gb (t:=3) rfl rfl (fun _ he=>zl rfl rfl he (Lens.self _) zaV) rfl yz rfl rfl rfl ?_;refine XK.g2 (zW (T:=zao) (xs:=[_]) rfl zeH zfl yz rfl rfl) (zW (T:=zao) (xs:=[_]) rfl zeH zfl yz rfl rfl) rfl rfl rfl ?_;refine XK.e (fun fr' hfr kk H=>by exact zo rfl rfl rfl rfl ((hfr 8 yc).trans rfl) rfl ((hfr 10 yc).trans rfl) zfl yG (zp H)) ?_;refine X0 aO ?_;refine xc ?_;refine CQR ?_;refine qaJ ?_;refine qbS ?_;refine zB (n:=1) (y:=p.reverse.reverse++[leaf]) rfl yx ?_;exact zsT hreach ((p.reverse,leaf)) rfl (⟨by simp;omega,rfl⟩) rfl (by (repeat refine Fr.le_set ?_ y6);exact Fr.le_none _) (by (repeat refine Hp.le_set ?_ rfl);exact Hp.le_none _) (by (repeat refine Fr.below_setB ?_ rfl);exact Fr.below_none _) (by (repeat refine Hp.below_set ?_ yp);exact Hp.below_none _)
def zb8 (l:List Ab.Id) (id:Ab.Id) (level:Int):List Ab.Id:=if 32<l.length then [] else if l.length=0 then [id] else if level<1 then l else l.take 1++List.replicate (min level 31).toNat id++l.drop ((min level 31).toNat+1)
theorem zqS (l:List Ab.Id) (id:Ab.Id) (level:Int):Tells P 158 [.val (bsl idT) l,.val idT id,.val i64T level] (.fresh 27 idT (zb8 l id level)):=by
 refine zc Tryz.func158 rfl rfl rfl (fun ext w hext=>?_);refine ze (d:=0) rfl zm (fun hsl0=>?_);refine ze (d:=2) rfl zab (fun hin2=>?_);refine qbO ?_;refine CNQ ?_;refine CB ?_;refine qa0 ?_;refine qbA ?_;refine A0 zcm ?_;refine Sp (d:=12) (p:=32<l.length) (fun g12=>?_) (fun g12=>?_)
 ·
  refine qad ?_;refine Ct ?_;refine qaB ?_;refine CN ?_;exact za rfl rfl (by unfold zb8;rw[ut g12];exact zr rfl)
 refine qad ?_;refine Cg ?_;refine qa0 ?_;refine qbA ?_;refine A0 zct ?_;refine Sp (d:=16) (p:=l.length=0) (fun g16=>?_) (fun g16=>?_)
 ·
  refine qad ?_;refine Ct ?_;refine CQR ?_;refine qbw ?_;refine zbk (T:=idT) (xs:=[_]) rfl rfl rfl rfl zdR zey yz rfl rfl ?_;refine qbK ?_;exact za rfl rfl (zf rfl rfl (by unfold zb8;rw[ur g12,ut g16]))
 refine qad ?_;refine Cg ?_;refine qa0 ?_;refine A0 zbK ?_;refine Sp (d:=21) (p:=level<1) (fun g21=>?_) (fun g21=>?_)
 ·
  refine qad ?_;refine Ct ?_;refine qa0 ?_;refine zam (zoH l y5) rfl fn_73 ye rfl rfl rfl ?_;refine qbK ?_;exact za rfl rfl (zf rfl rfl (by unfold zb8;rw[ur g12,ur g16,ut g21]))
 refine qad ?_;refine Cg ?_;refine CS ?_;refine CI ?_;refine qa0 ?_;refine A0 (g_min rfl rfl rfl) ?_;refine A0 (zl1 rfl rfl rfl (show _=((((min level 31).toNat+1:Nat):Int):Int) from(zaF ya).trans ya)) ?_;refine qaJ ?_;refine zn [some 1,some 1,some 1,some 1,some 1,some 1,some 1,some 1,none,some 1] mixed yc ?_;refine X0 mV ?_;refine qcr ?_;refine X0 (oLs rfl rfl rfl zT) ?_;refine X0 (zW (T:=idT) (xs:=[_]) rfl zdR zey yz rfl rfl) ?_;refine X0 mV ?_;refine X0 (zpS rfl rfl rfl (show _=(((min level 31).toNat:Int):Int) from(zaF ya).trans ya)) ?_;refine X0 (zkf (T:=sl idT) (S:=bsl idT) (zb7 (zF (repeatId id (min level 31).toNat ya)) rfl fn_201 yf rfl)) ?_;refine X0 (zW (T:=(bsl idT)) (xs:=[_,_]) rfl sl_253 row_253 yaJ rfl rfl) ?_;refine XK.e (fun fr' hfr kk H=>by exact zam (concatId [l.take 1,List.replicate (min level 31).toNat id] yG) rfl fn_200 ⟨(zd ((hfr 34 yc).trans rfl)),trivial⟩ rfl rfl rfl (zp H)) ?_;refine X0 aO ?_;refine xc ?_;refine qaK ?_;refine qbA ?_;refine qa9 ?_;refine qc5 ?_;refine Cf (p:=(min level 31).toNat+1<l.length) (fun ht39=>?_) (fun ht39=>?_)
 ·
  refine CR ?_;refine A0 mO ?_;refine qai ?_;refine A0 (ziT rfl rfl rfl zdR yd) ?_;refine zo rfl rfl rfl rfl rfl rfl rfl zey yG ?_;refine qbd ?_;refine qbK ?_;exact za rfl rfl (zf rfl rfl (by unfold zb8;rw[ur g12,ur g16,ur g21];simp;omega))
 refine CSQR ?_;refine A0 mO ?_;refine qbK ?_;exact za rfl rfl (zf rfl rfl (by unfold zb8;rw[ur g12,ur g16,ur g21,List.drop_of_length_le ya];simp))
def zfp:Nat→Head→Option Head
  | 0,_=>none
  | n+1,h=>if zcd h=true then some h else zfp n { h with nonce:=h.nonce+1 }
def zgS (h:Head) (tries:Int):Option Head:=zfp (min tries 200).toNat h
theorem ziN {n:Nat} {h:Head} (hn:0<n) (hm:¬zcd h=true):zfp n h=zfp (n-1) { h with nonce:=h.nonce+1 }:=by
  obtain⟨m,rfl⟩:∃m,n=m+1:=⟨n-1,by omega⟩;rw[zfp,ur hm];rfl
theorem zgT {n:Nat} {h:Head} (hn:0<n) (hm:zcd h=true):zfp n h=some h:=by
  obtain⟨m,rfl⟩:∃m,n=m+1:=⟨n-1,by omega⟩;rw[zfp,ut hm]
theorem mine_ok (h:Head) (tries:Int):Tells P 118 [.val zbU h,.val i64T tries] (.tup2 (.val zbU ((zgS h tries).getD h)) (.val zu (zgS h tries).isSome)):=by
 refine zc Tryz.func118 rfl rfl rfl (fun ext w hext=>?_);refine ze (d:=1) rfl zab (fun hin1=>?_);refine qaf ?_;refine qcR ?_;refine zP ze_4 rfl rfl rfl rfl ?_;refine CNQQR ?_;refine qcp ?_;refine qa9 ?_;refine zdJ rfl rfl rfl rfl Tryz.func157 fn_157 rfl rfl (fun ia1 iok1=>?_);refine qaw ?_;refine A0 aL ?_;refine CNQR ?_;refine A0 (zpT (caps:=[_,_]) rfl rfl) ?_;refine A0 aC ?_;refine CN ?_;refine zaM rfl ?_;refine CNB ?_;refine zoN rfl rfl rfl Tryz.func199 fn_199 rfl rfl ybb (fun fid2 ca2 lN2 DN2 cok2 rc2 hrc2=>?_);refine CQR ?_;refine A0 (oLs rfl rfl rfl ty_3) ?_;refine A0 (g_min rfl rfl rfl) ?_;refine qbp ?_;refine Lp (ι:=Nat×Head) 7 (fun(k,g)=>((((Fr.none.set 0 (.lit (.func (.yield lN2) #[] #[]))).set 1 (.ptr 4 0)).set 2 (.ptr 3 0)).set 5 (.val i64T (min tries 200))).set 6 (.val i64T (k:Int))) (fun(k,g)=>((((((Hp.none.set 0 (.box 33 zbU h)).set 1 (.box 33 zbU zHead)).set 2 (.box 4 zu false)).set 3 (.box 33 zbU g)).set 4 (.box 3 i64T tries)).set 5 (.objAt DN2 (.deferred (some [])))).set 6 (.objAt lN2 (rc2 .ready none))) (fun(k,g)=>k≤(min tries 200).toNat∧zgS h tries=zfp ((min tries 200).toNat-k) g) (fun(k,g)=>(min tries 200).toNat-k) ((0,h)) (⟨uf _,rfl⟩) ?_;intro⟨k,g⟩ hinv;dsimp only at hinv;refine qas ?_;refine Cf (p:=(k:Int)<min tries 200) (fun ht7=>?_) (fun ht7=>?_)
 ·
  refine qaD ?_;refine CQQR ?_;refine A0 mL ?_;refine qcp ?_;refine zoK (nL:=6) rfl rfl rfl rfl rfl hrc2 rfl rfl rfl (fun ya3 yok3=>?_);refine CR ?_;refine qcR ?_;refine qb8 ?_;refine CN ?_;refine zoQ (nL:=6) hrc2 rfl ?_;refine CB ?_;refine CQR ?_;refine qcp ?_;refine A0 (oCl (zno _) rfl fn_137 ye) ?_;refine CN ?_;refine zk (p:=zcd g=true) rfl yx (fun ht12=>?_) (fun ht12=>?_)
  ·
   refine CQR ?_;refine qcp ?_;refine qb8 ?_;refine zg rfl rfl rfl rfl rfl (Lens.self _) ty_4 rfl ?_;refine CN ?_;refine zqo (nL:=6) hrc2 rfl ?_;refine qaQ ?_;refine Ct ?_;refine zrj (nL:=6) rfl hrc2 rfl yp ?_;refine zcb (zi9 (nD:=5) rfl rfl rfl ?_);exact zoS rfl rfl (zC rfl rfl za4 (by rw[hinv.2,zgT ya ht12];rfl)) (zC rfl rfl ty_4 (by rw[hinv.2,zgT ya ht12];rfl))
  refine CS ?_;refine CI ?_;refine zhc (nL:=6) hrc2 rfl ?_;refine qaQ ?_;refine Cg ?_;refine CS ?_;refine CR ?_;refine A0 (oFp zfE) ?_;refine A0 (oLb zb0 zaQ) ?_;refine A0 (zfC rfl rfl rfl) ?_;refine A0 (oFp zfE) ?_;refine zg rfl rfl rfl rfl rfl zb0 zaQ rfl ?_;refine qcD ?_;exact Nx ((k+1,{ g with nonce:=g.nonce+1 })) (⟨by omega,by rw[hinv.2,ziN ya ht12];rfl⟩) (by show(min tries 200).toNat-(k+1)<(min tries 200).toNat-k;omega)
 refine CE ?_;refine zhd (nL:=6) rfl hrc2 rfl yp ?_;refine CI ?_;refine CQR ?_;refine qcp ?_;refine qb8 ?_;refine zg rfl rfl rfl rfl rfl (Lens.self _) ty_4 rfl ?_;refine CN ?_;refine zcb (zi9 (nD:=5) rfl rfl rfl ?_);exact zoS rfl rfl (zC rfl rfl za4 (by rw[hinv.2,show(min tries 200).toNat-k=0 by omega];rfl)) (zC rfl rfl ty_4 (by rw[hinv.2,show(min tries 200).toNat-k=0 by omega];rfl))
theorem zhb:∀{a b:List UInt8},Lib.compareBytes a b=0↔a=b
  | [],[]=>by simp[Lib.compareBytes]
  | [],_::_=>by simp[Lib.compareBytes]
  | _::_,[]=>by simp[Lib.compareBytes]
  | x::a,y::b=>by
    unfold Lib.compareBytes;by_cases h1:x<y
    · rw[ut h1]
      constructor
      · intro h;omega
      intro h;injection h with h _;subst h;exact absurd h1 (UInt8.lt_irrefl _)
    rw[ur h1];by_cases h2:y<x
    · rw[ut h2]
      constructor
      · intro h;omega
      intro h;injection h with h _;subst h;exact absurd h2 (UInt8.lt_irrefl _)
    rw[ur h2];have e:x=y:=UInt8.le_antisymm (UInt8.not_lt.1 h2) (UInt8.not_lt.1 h1);subst e;rw[zhb (a:=a) (b:=b)];simp
theorem cb_neg:∀{a b:List UInt8},Lib.compareBytes b a = -Lib.compareBytes a b
  | [],[]=>by simp[Lib.compareBytes]
  | [],_::_=>by simp[Lib.compareBytes]
  | _::_,[]=>by simp[Lib.compareBytes]
  | x::a,y::b=>by
    unfold Lib.compareBytes;by_cases h1:x<y
    · have h2:¬y<x:=fun h=>UInt8.lt_irrefl _ (UInt8.lt_trans h1 h)
      simp[h1,h2]
    by_cases h2:y<x
    · simp[h1,h2]
    simp only[ur h1,ur h2];exact cb_neg
theorem zsO:∀{a b c:List UInt8},Lib.compareBytes a b<0→Lib.compareBytes b c<0→Lib.compareBytes a c<0
  | [],[],_,h,_=>by simp[Lib.compareBytes] at h
  | _::_,[],_,h,_=>by simp[Lib.compareBytes] at h
  | _,_::_,[],_,h=>by simp[Lib.compareBytes] at h
  | [],_::_,_::_,_,_=>by simp[Lib.compareBytes]
  | x::a,y::b,z::c,h,k=>by
    unfold Lib.compareBytes at h k ⊢;by_cases h1:x<y
    · by_cases k1:y<z
      · rw[ut (UInt8.lt_trans h1 k1)];omega
      rw[ur k1] at k;by_cases k2:z<y
      · rw[ut k2] at k;omega
      have e:y=z:=UInt8.le_antisymm (UInt8.not_lt.1 k2) (UInt8.not_lt.1 k1);subst e;rw[ut h1];omega
    rw[ur h1] at h;by_cases h2:y<x
    · rw[ut h2] at h;omega
    rw[ur h2] at h;have e:x=y:=UInt8.le_antisymm (UInt8.not_lt.1 h2) (UInt8.not_lt.1 h1);subst e;by_cases k1:x<z
    · rw[ut k1];omega
    rw[ur k1] at k ⊢;by_cases k2:z<x
    · rw[ut k2] at k;omega
    rw[ur k2] at k ⊢;exact zsO h k
theorem ziL (a b:In):zaI a b=if Lib.compareBytes a.tx b.tx=0 then zg7 a.i b.i else Lib.compareBytes a.tx b.tx:=by
  unfold zaI;simp only[orL];by_cases h:Lib.compareBytes a.tx b.tx=0
  · rw[ut h,ut h]
    split<;>simp_all
  rw[ur h,ur h]
theorem zrb {x y:Int}:zg7 x y=0↔x=y:=by unfold zg7;split<;>(try split)<;>omega
theorem zbN {a b:In}:zaI a b=0↔a=b:=by
  rw[ziL];by_cases h:Lib.compareBytes a.tx b.tx=0
  · rw[ut h,zrb]
    have:=zhb.1 h
    cases a;cases b;simp_all
  rw[ur h]
  constructor
  · intro e;exact absurd e h
  intro e;subst e;exact absurd (zhb.2 rfl) h
theorem zbT (a b:In):zaI b a = -zaI a b:=by
  rw[ziL,ziL,cb_neg (a:=a.tx) (b:=b.tx)];by_cases h:Lib.compareBytes a.tx b.tx=0
  · rw[ut h,ut ya]
    unfold zg7;split<;>split<;>(try split)<;>omega
  rw[ur h,ur ya]
theorem zdS {a b c:In} (h:zaI a b<0) (k:zaI b c<0):zaI a c<0:=by
  rw[ziL] at h k ⊢;by_cases h1:Lib.compareBytes a.tx b.tx=0
  · rw[ut h1] at h
    have e:=zhb.1 h1;rw[e];by_cases k1:Lib.compareBytes b.tx c.tx=0
    · rw[ut k1] at k ⊢
      unfold zg7 at *;split at h<;>split at k<;>(try split at h)<;>(try split at k)<;>split<;>(try split)<;>omega
    rw[ur k1] at k ⊢;exact k
  rw[ur h1] at h;by_cases k1:Lib.compareBytes b.tx c.tx=0
  · have e:=zhb.1 k1
    rw[←e,ur h1];exact h
  rw[ur k1] at k
  have:=zsO h k
  rw[ur ya];exact this
def sortL_ren:Go.Shelf.Ren:=⟨fun|6=>224|15=>228|14=>249|28=>250|29=>194|20=>256|21=>257|22=>258|23=>259|24=>260|25=>261|26=>262|27=>263|46=>264|47=>265|48=>266|49=>267|50=>268|57=>269|n=>n,fun|22=>54|24=>180|25=>247|3=>3|39=>156|0=>0|53=>31|55=>28|4=>4|46=>276|45=>275|50=>238|5=>5|9=>9|66=>281|70=>285|76=>287|77=>288|n=>n,fun|n=>n⟩
theorem sortL:Go.Proofs.SlLaysF0.n6 P sortL_ren:={
  mixed:=by kernel_rfl,
  f6:=⟨Tryz.f224.name,by decide,Tryz.func224.trans (congrArg some yu)⟩,
  f14:=⟨Tryz.f249.name,by decide,Tryz.func249.trans (congrArg some yu)⟩,
  f15:=Tryz.func228.trans (congrArg some yu),
  f20:=⟨Tryz.f256.name,by decide,Tryz.func256.trans (congrArg some yu)⟩,
  f21:=⟨Tryz.f257.name,by decide,Tryz.func257.trans (congrArg some yu)⟩,
  f22:=⟨Tryz.f258.name,by decide,Tryz.func258.trans (congrArg some yu)⟩,
  f23:=⟨Tryz.f259.name,by decide,Tryz.func259.trans (congrArg some yu)⟩,
  f24:=⟨Tryz.f260.name,by decide,Tryz.func260.trans (congrArg some yu)⟩,
  f25:=⟨Tryz.f261.name,by decide,Tryz.func261.trans (congrArg some yu)⟩,
  f26:=⟨Tryz.f262.name,by decide,Tryz.func262.trans (congrArg some yu)⟩,
  f27:=⟨Tryz.f263.name,by decide,Tryz.func263.trans (congrArg some yu)⟩,
  f28:=Tryz.func250.trans (congrArg some yu),
  f29:=Tryz.func194.trans (congrArg some yu),
  f46:=⟨Tryz.f264.name,by decide,Tryz.func264.trans (congrArg some yu)⟩,
  f47:=Tryz.func265.trans (congrArg some yu),
  f48:=Tryz.func266.trans (congrArg some yu),
  f49:=⟨Tryz.f267.name,by decide,Tryz.func267.trans (congrArg some yu)⟩,
  f50:=⟨Tryz.f268.name,by decide,Tryz.func268.trans (congrArg some yu)⟩,
  f57:=⟨Tryz.f269.name,by decide,Tryz.func269.trans (congrArg some yu)⟩,
  t0:=Tryz.underlying0,
  a0:=Tryz.isAgg0,
  z0:=Tryz.sizeOf0,
  v0:=Tryz.zeroValue0,
  t3:=Tryz.underlying3,
  a3:=Tryz.isAgg3,
  z3:=Tryz.sizeOf3,
  v3:=Tryz.zeroValue3,
  t4:=Tryz.underlying4,
  a4:=Tryz.isAgg4,
  z4:=Tryz.sizeOf4,
  v4:=Tryz.zeroValue4,
  t5:=Tryz.underlying5,
  a5:=Tryz.isAgg5,
  z5:=Tryz.sizeOf5,
  v5:=Tryz.zeroValue5,
  t9:=Tryz.underlying9,
  a9:=Tryz.isAgg9,
  z9:=Tryz.sizeOf9,
  v9:=Tryz.zeroValue9,
  t22:=Tryz.underlying54,
  a22:=Tryz.isAgg54,
  z22:=Tryz.sizeOf54,
  v22:=Tryz.zeroValue54,
  t25:=Tryz.underlying247,
  a25:=Tryz.isAgg247,
  z25:=Tryz.sizeOf247,
  v25:=Tryz.zeroValue247,
  t39:=Tryz.underlying156,
  a39:=Tryz.isAgg156,
  z39:=Tryz.sizeOf156,
  v39:=Tryz.zeroValue156,
  t45:=Tryz.underlying275,
  a45:=Tryz.isAgg275,
  z45:=Tryz.sizeOf275,
  v45:=Tryz.zeroValue275,
  t46:=Tryz.underlying276,
  a46:=Tryz.isAgg276,
  z46:=Tryz.sizeOf276,
  v46:=Tryz.zeroValue276,
  t50:=Tryz.underlying238,
  a50:=Tryz.isAgg238,
  z50:=Tryz.sizeOf238,
  v50:=Tryz.zeroValue238,
  t53:=Tryz.underlying31,
  a53:=Tryz.isAgg31,
  z53:=Tryz.sizeOf31,
  v53:=Tryz.zeroValue31,
  t55:=Tryz.underlying28,
  a55:=Tryz.isAgg28,
  z55:=Tryz.sizeOf28,
  v55:=Tryz.zeroValue28,
  t66:=Tryz.underlying281,
  a66:=Tryz.isAgg281,
  z66:=Tryz.sizeOf281,
  v66:=Tryz.zeroValue281,
  t70:=Tryz.underlying285,
  a70:=Tryz.isAgg285,
  z70:=Tryz.sizeOf285,
  v70:=Tryz.zeroValue285,
  t76:=Tryz.underlying287,
  a76:=Tryz.isAgg287,
  z76:=Tryz.sizeOf287,
  v76:=Tryz.zeroValue287,
  t77:=Tryz.underlying288,
  a77:=Tryz.isAgg288,
  z77:=Tryz.sizeOf288,
  v77:=Tryz.zeroValue288 }
def Apart (l:List Coin):Prop:=l.Pairwise fun a b=>zaI a.inn b.inn≠0
def ziv (l:List Coin):List Coin:=l.mergeSort fun a b=>decide (zaI a.inn b.inn≤0)
def zp6 (l:Ab.Id):List Value:=l.map fun b=>.int .u8 b.toNat
def zma (c:Coin):List Value:=zp6 c.inn.tx++[.int .i64 c.inn.i,.int .i64 c.out.v,.int .i64 c.out.to]
def okCoin (c:Coin):Prop:=c.inn.tx.length=32∧IntKind.InR .i64 c.inn.i∧IntKind.InR .i64 c.out.v∧IntKind.InR .i64 c.out.to
theorem flat_u8:Flat1 u8T (fun b=>[.int .u8 b.toNat]) (fun _=>True):=fun _ _ _ _ _=>Iff.rfl
theorem flat_id:Flat1 idT zp6 (fun l=>l.length=32):=fun U N w l cs=>by
  show(l.length=32∧zaa u8T U N w l cs)↔_;rw[ziV flat_u8];have e:(l.map fun b:UInt8=>[Value.int .u8 b.toNat]).flatten=zp6 l:=by
    unfold zp6
    induction l with
    | nil=>rfl
    | cons x l ih=>rw[List.map_cons,List.flatten_cons,ih];rfl
  rw[e];exact⟨fun h=>⟨h.2.1,h.1⟩,fun h=>⟨h.2,h.1,fun _ _=>trivial⟩⟩
theorem flat_coin:Flat1 zal zma okCoin:=fun U N w c cs=>by
  constructor
  · rintro ⟨c1,c2,rfl,⟨d1,d2,rfl,h1,h2⟩,⟨d3,d4,rfl,h3,h4⟩⟩
    obtain⟨rfl,k1⟩:=(flat_id _ _ _ _ _).1 h1;obtain⟨rfl,k2⟩:=h2;obtain⟨rfl,k3⟩:=h3;obtain⟨rfl,k4⟩:=h4;exact⟨by simp[zma],k1,k2,k3,k4⟩
  rintro ⟨rfl,k1,k2,k3,k4⟩
  exact⟨zp6 c.inn.tx++[.int .i64 c.inn.i],[.int .i64 c.out.v,.int .i64 c.out.to],by simp[zma],⟨zp6 c.inn.tx,[.int .i64 c.inn.i],rfl,(flat_id _ _ _ _ _).2 ⟨rfl,k1⟩,rfl,k2⟩,⟨[.int .i64 c.out.v],[.int .i64 c.out.to],rfl,⟨rfl,k3⟩,rfl,k4⟩⟩
theorem zla {l r:List Coin} (hl:Apart l) (hp:r.Perm l) (hs:r.Pairwise fun a b=>¬zaI b.inn a.inn<0):r=ziv l:=by
  have hle:∀a b c:Coin,(decide (zaI a.inn b.inn≤0))=true→(decide (zaI b.inn c.inn≤0))=true→(decide (zaI a.inn c.inn≤0))=true:=fun a b c h1 h2=>by
    have h1:=of_decide_eq_true h1;have h2:=of_decide_eq_true h2;apply ui;by_cases e1:zaI a.inn b.inn=0
    · rw[zbN.1 e1];exact h2
    by_cases e2:zaI b.inn c.inn=0
    · rw[←zbN.1 e2];exact h1
    have:=zdS (show zaI a.inn b.inn<0 by omega) (show zaI b.inn c.inn<0 by omega);omega
  have htot:∀a b:Coin,(decide (zaI a.inn b.inn≤0)||decide (zaI b.inn a.inn≤0))=true:=fun a b=>by
    have:=zbT a.inn b.inn
    rw[Bool.or_eq_true,uj,uj];omega
  have h1:(ziv l).Pairwise fun a b=>(decide (zaI a.inn b.inn≤0))=true:=List.pairwise_mergeSort (fun a b c=>hle a b c) (fun a b=>htot a b) l
  have h2:r.Pairwise fun a b=>(decide (zaI a.inn b.inn≤0))=true:=hs.imp fun {a b} h=>by
    have:=zbT a.inn b.inn
    exact ui ya
  have hperm:r.Perm (ziv l):=hp.trans (List.mergeSort_perm l _).symm;have hap:Apart (ziv l):=(List.mergeSort_perm l _).symm.pairwise hl (fun {a b} h=>by have:=zbT a.inn b.inn;omega);have hinj:∀a∈ziv l,∀b∈ziv l,zaI a.inn b.inn=0→a=b:=by
    intro a ha b hb h0;apply Classical.byContradiction;intro hne;obtain⟨i,hi,rfl⟩:=List.getElem_of_mem ha;obtain⟨j,hj,rfl⟩:=List.getElem_of_mem hb;have hw:=List.pairwise_iff_getElem.1 hap;rcases Nat.lt_trichotomy i j with h|h|h
    · exact hw i j hi hj h h0
    · subst h;exact hne rfl
    have:=zbT (ziv l)[i].inn (ziv l)[j].inn
    exact hw j i hj hi h ya
  refine hperm.eq_of_pairwise (le:=fun a b=>(decide (zaI a.inn b.inn≤0))=true) (fun a b ha hb x y=>?_) h2 h1;have x:=of_decide_eq_true x;have y:=of_decide_eq_true y
  have:=zbT a.inn b.inn
  exact hinj a (hperm.mem_iff.1 ha) b hb ya
theorem sort_ok (l:List Coin) (hl:Apart l) (hn:l.length<1000000):zfz P 224 (.row 180 zal l) [.own 0,.clo 225 []] (.lit (.tuple #[])) (.row 180 zal (ziv l)) :=
  sort_tells sortL flat_coin (fun c h=>by unfold zma zp6;simp only[ue,List.length_map,h.1,List.length_cons,List.length_nil];rfl) (fun c _ v hv=>by
    unfold zma zp6 at hv;simp only[List.mem_append,List.mem_map,List.mem_cons,List.not_mem_nil,or_false] at hv;rcases hv with ⟨b,_,rfl⟩|rfl|rfl|rfl<;>rfl) rfl (x0:=⟨⟨zId,0⟩,⟨0,0⟩⟩) ⟨rfl,zcY.2 yp,zcY.2 yp,zcY.2 yp⟩ zd4 (cf:=fun a b=>zaI a.inn b.inn)
    (fun c _ h=>by have:=zbN.2 (rfl:c.inn=c.inn);omega) (fun a b c _ _ _ h1 h2=>zdS h1 h2)
    (fun a b c _ _ _ h1 h2 h3=>by
      have n1:=zbT a.inn b.inn;have n2:=zbT b.inn c.inn;by_cases e1:zaI a.inn b.inn=0
      · rw[zbN.1 e1] at h3;exact h2 h3
      by_cases e2:zaI b.inn c.inn=0
      · rw[←zbN.1 e2] at h3;exact h1 h3
      have:=zdS (show zaI c.inn b.inn<0 by omega) (show zaI b.inn a.inn<0 by omega)
      have n3:=zbT a.inn c.inn;omega) fn_225 (fun x y=>made2_ok x y) ya (fun r hp hs=>zla hl hp hs)
end Go.Proofs.YtgoebfjaaklopaaGreat
