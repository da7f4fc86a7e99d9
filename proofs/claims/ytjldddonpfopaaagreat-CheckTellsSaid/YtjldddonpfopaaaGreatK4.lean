/- Parts of the proof: the layer that reads Go values as data, and what the functions of the program tell. -/
import Derived.Test.YtjldddonpfopaaaGreatK3
set_option linter.unusedVariables false
set_option linter.unusedSimpArgs false
set_option maxRecDepth 20000
namespace Go.Proofs.YtjldddonpfopaaaGreat
open Go.Ab Go.RowKit
def rotl (x:UInt32) (n:Int):UInt32:=shl32 x ((u64OfI n)&&&31).toNat|||shr32 x (32-((u64OfI n)&&&31)).toNat
theorem rotl_ok (x:UInt32) (n:Int):Tells P 142 [.val u32T x,.val i64T n] (.val u32T (rotl x n)):=by
 refine zc Tryz.func142 rfl rfl rfl (fun ext w hext=>?_)
 refine ze (d:=1) rfl zQ (fun hin1=>?_)
 refine CQR ?_;refine qa7 ?_;refine A0 (zcr rfl (ui_130) (us_3) rfl) ?_;refine A0 (g_and64 rfl rfl rfl) ?_;refine qb7 ?_;refine A0 (g_shl32 rfl rfl rfl (by first|decide|(simp [IntL.toI];done)|(simp [IntL.toI];omega)) rfl) ?_;refine qag ?_;refine A0 (g_sub64 rfl rfl rfl) ?_;refine A0 (g_shr32 rfl rfl rfl (by first|decide|(simp [IntL.toI];done)|(simp [IntL.toI];omega)) rfl) ?_;refine A0 (g_or32 rfl rfl rfl) ?_;refine qab ?_
 exact zb rfl rfl (za rfl rfl)
theorem right_ok (x:UInt32) (n:Int):Tells P 87 [.val u32T x,.val i64T n] (.val u32T (rotl x (IntKind.i64.wrap (0-n)))):=by
 refine zc Tryz.func87 rfl rfl rfl (fun ext w hext=>?_)
 refine ze (d:=1) rfl zQ (fun hin1=>?_)
 refine CQR ?_;refine qb7 ?_;refine A0 (g_neg rfl rfl rfl) ?_;refine A0 (oCl (rotl_ok _ _) rfl fn_142 ⟨(zd rfl),(zd rfl),trivial⟩) ?_;refine qab ?_
 exact zb rfl rfl (za rfl rfl)
def shaK:List UInt32:=[1116352408,1899447441,3049323471,3921009573,961987163,1508970993,2453635748,2870763221,3624381080,310598401,607225278,1426881987,1925078388,2162078206,2614888103,3248222580,3835390401,4022224774,264347078,604807628,770255983,1249150122,1555081692,1996064986,2554220882,2821834349,2952996808,3210313671,3336571891,3584528711,113926993,338241895,666307205,773529912,1294757372,1396182291,1695183700,1986661051,2177026350,2456956037,2730485921,2820302411,3259730800,3345764771,3516065817,3600352804,4094571909,275423344,430227734,506948616,659060556,883997877,958139571,1322822218,1537002063,1747873779,1955562222,2024104815,2227730452,2361852424,2428436474,2756734187,3204031479,3329325298]
def numBytes (n:UInt64) (size:Nat):List UInt8:=(List.range size).map fun j=>u8OfI (IntL.toI u64T (shr64 n (8*(size-1-j))))
theorem numBytes_step {n:UInt64} {size k:Nat} {l:List UInt8} (hk:k<size) (hl:l.length=size) (h:∀j,size-k≤j→j<size→l[j]?=(numBytes n size)[j]?):∀j,size-(k+1)≤j→j<size→(l.set (size-1-k) (u8OfI (IntL.toI u64T (shr64 n (8*k)))))[j]?=(numBytes n size)[j]?:=fun j h1 h2=>by
  rw [List.getElem?_set]
  by_cases c:size-1-k=j
  · rw [if_pos c,if_pos (by omega)]
    unfold numBytes
    rw [List.getElem?_map,List.getElem?_range h2,Option.map_some]
    congr 4;omega
  · rw [if_neg c];exact h j (by omega) h2
theorem numBytes_all {n:UInt64} {size:Nat} {l:List UInt8} (hl:l.length=size) (h:∀j,size-size≤j→j<size→l[j]?=(numBytes n size)[j]?):l=numBytes n size:=by
  apply List.ext_getElem?
  intro j
  by_cases c:j<size
  · exact h j (by omega) c
  · rw [List.getElem?_eq_none (by omega),List.getElem?_eq_none (by unfold numBytes;simp;omega)]
theorem numbers_ok:Tells P 88 [] (.val (arrT 64 (by decide) u32T) shaK):=by
 refine zc Tryz.func88 rfl rfl rfl (fun ext w hext=>?_)
 refine CQR ?_;refine zI ze_133 rfl rfl rfl rfl ?_;refine CNQR ?_
 refine A0 (zfg (T:=u32T) (xs:=[_,_,_,_,_,_,_,_,_,_,_,_,_,_,_,_,_,_,_,_,_,_,_,_,_,_,_,_,_,_,_,_,_,_,_,_,_,_,_,_,_,_,_,_,_,_,_,_,_,_,_,_,_,_,_,_,_,_,_,_,_,_,_,_]) rfl ar_133 ze_133 ⟨rfl,rfl,rfl,rfl,rfl,rfl,rfl,rfl,rfl,rfl,rfl,rfl,rfl,rfl,rfl,rfl,rfl,rfl,rfl,rfl,rfl,rfl,rfl,rfl,rfl,rfl,rfl,rfl,rfl,rfl,rfl,rfl,rfl,rfl,rfl,rfl,rfl,rfl,rfl,rfl,rfl,rfl,rfl,rfl,rfl,rfl,rfl,rfl,rfl,rfl,rfl,rfl,rfl,rfl,rfl,rfl,rfl,rfl,rfl,rfl,rfl,rfl,rfl,rfl,rfl,rfl,rfl,rfl,rfl,rfl,rfl,rfl,rfl,rfl,rfl,rfl,rfl,rfl,rfl,rfl,rfl,rfl,rfl,rfl,rfl,rfl,rfl,rfl,rfl,rfl,rfl,rfl,rfl,rfl,rfl,rfl,rfl,rfl,rfl,rfl,rfl,rfl,rfl,rfl,rfl,rfl,rfl,rfl,rfl,rfl,rfl,rfl,rfl,rfl,rfl,rfl,rfl,rfl,rfl,rfl,rfl,rfl,rfl,rfl,rfl,rfl,rfl,rfl,trivial⟩ rfl) ?_
 refine zh rfl rfl rfl rfl rfl (Lens.self _) ty_133 rfl ?_;refine CN ?_
 exact zu rfl rfl rfl rfl ty_133 (rfl)
theorem binPut_ok (n:UInt64) (size:Nat) (hs:size≤8):Tells P 81 [.val u64T n,.val i64T (size:Int)] (.fresh 5 u8T (numBytes n size)):=by
 refine zc Tryz.func81 rfl rfl rfl (fun ext w hext=>?_)
 refine ze (d:=1) rfl zQ (fun hin1=>?_)
 refine qay ?_;refine qbb ?_;refine A0 zbh ?_;refine qar ?_;refine zd9 (d:=9) rfl (decide_eq_false (by show ¬((size:Int)<0);omega)) ?_;refine A1 mV ?_;refine A1 zbb ?_;refine A0 oK ?_;refine zd9 (d:=12) rfl (decide_eq_false (by show ¬((8:Int)<(size:Int));omega)) ?_;refine CN ?_;refine Cg ?_;refine qbG ?_;refine aw_mks (T:=u8T) (n:=size) rfl rfl rfl rfl rfl rfl (by first|omega|rfl) (by first|omega|rfl) zR ze_5 ⟨by omega,by omega,(show (size)*1≤16777216 by omega)⟩ ?_;refine A0 aO ?_;refine CNQQR ?_;refine qag ?_;refine CNB ?_
 refine Lp (ι:=Nat×List UInt8) 1 (fun (i:Nat×List UInt8)=>match i with|(k,l)=>(((((Fr.none).set 0 (.val u64T n)).set 1 (.val i64T (size:Int))).set 5 (.own 0)).set 15 (.val i64T (size:Int))).set 16 (.val i64T (k:Int))) (fun (i:Nat×List UInt8)=>match i with|(k,l)=>(Hp.none).set 0 (.row 5 u8T l)) (fun (i:Nat×List UInt8)=>match i with|(k,l)=>k≤size∧l.length=size∧∀j,size-k≤j→j<size→l[j]?=(numBytes n size)[j]?) (fun (i:Nat×List UInt8)=>match i with|(k,l)=>size-k) ((0,List.replicate size 0)) (⟨Nat.zero_le _,by simp,fun j h1 h2=>by omega⟩) ?_
 intro ⟨k,l⟩ hinv
 dsimp only at hinv
 refine qao ?_;refine Cf (p:=k<size) (fun ht17=>?_) (fun ht17=>?_)
 ·
  obtain ⟨x,hx⟩:∃x,l[size-1-k]?=some x:=⟨_,List.getElem?_eq_getElem (by omega)⟩
  refine qaL ?_;refine qb2 ?_;refine A0 mO ?_;refine qby ?_;refine qby ?_;refine qag ?_;refine A0 zfc ?_;refine A0 (zbP rfl rfl rfl (by first|decide|(simp [IntL.toI];done)|(simp [IntL.toI];omega)) rfl) ?_;refine A0 (zcU rfl (ui_5) (us_33) rfl) ?_;refine A0 (zas (i:=size-1-k) rfl rfl rfl rfl (by first|omega|rfl) zaW (by first|assumption|omega|(simp;omega))) ?_;refine zdl rfl rfl rfl rfl rfl rfl (by assumption) (Lens.self _) ty_5 rfl ?_;refine qbw ?_
  exact Nx ((k+1,l.set (size-1-k) (u8OfI (IntL.toI u64T (shr64 n (8*k)))))) (⟨by omega,by simp;exact hinv.2.1,numBytes_step ht17 hinv.2.1 hinv.2.2⟩) (by show _<size-k;simp only [];omega)
 ·
  refine qat ?_
  exact zb rfl rfl (zg rfl rfl (numBytes_all hinv.2.1 (by rw [show k=size by omega] at hinv;exact hinv.2.2)))
set_option maxRecDepth 20000
theorem growNil (n:Nat) (hn:n≤140737488355328):Tells P 138 [.lit (.slice none 0 0),.val i64T (n:Int)] (.fresh 5 u8T []):=by
 refine zc Tryz.func138 rfl rfl rfl (fun ext w hext=>?_)
 refine ze (d:=1) rfl zQ (fun hin1=>?_)
 refine qay ?_;refine qbb ?_;refine qaz ?_;refine zeG rfl (decide_eq_false (by show ¬((n:Int)<0);omega)) ?_;refine qbO ?_;refine A0 mL ?_;refine A0 (g_cap_nil rfl rfl zcT) ?_;refine A0 mL ?_;refine A0 (by first|exact zah rfl rfl zcT|exact zaY rfl rfl rfl zcT|exact zbu rfl rfl zcT) ?_;refine A0 zay ?_;refine A0 zay ?_;refine qa7 ?_;refine qcb ?_;refine zj (p:=0<n) rfl (by rw [decide_eq_decide];simp only [IntL.toI,id_eq];omega) (fun ht16=>?_) (fun ht16=>?_)
 ·
  refine CR ?_;refine A0 mL ?_;refine A0 mL ?_;refine A0 (g_cap_nil rfl rfl zcT) ?_;refine A0 (by first|exact zbt rfl rfl rfl (by first|rfl|omega) zaW|exact zdy rfl rfl rfl zaW (by first|assumption|omega|(simp;omega))) ?_;refine qar ?_;refine aw_appendz (T:=u8T) (n:=n) rfl rfl rfl rfl rfl rfl (by first|rfl|omega) zR ze_5 (ui_3) (⟨by assumption,by omega,by omega⟩) ?_;refine A0 mL ?_;refine A0 (by first|exact zah rfl rfl zcT|exact zaY rfl rfl rfl zcT|exact zbu rfl rfl zcT) ?_
  refine A0 (g_os_h (q:=0) rfl rfl rfl rfl zaW (by first|omega|rfl) (by first|assumption|omega|(simp;omega))) ?_;refine A0 aS ?_;refine CNQR ?_;refine A0 mS ?_;refine A0 aS ?_;refine CN ?_
  exact zb rfl rfl (ret_fresh_s rfl rfl (by simp;omega) rfl)
 ·
  refine CSQR ?_;refine A0 mL ?_;refine A0 aL ?_;refine CN ?_
  exact zb rfl rfl (zH rfl)
theorem za8 {α:Type} {ls:List (List α)} {k:Nat} {x:List α} (h:ls[k]?=some x):(ls.take (k+1)).flatten=(ls.take k).flatten++x:=by
  rw [List.take_add_one,h];simp
theorem zep {α:Type} (ls:List (List α)) (k:Nat):(ls.take k).flatten.length≤ls.flatten.length:=by
  conv=>rhs;rw [←List.take_append_drop k ls,List.flatten_append,List.length_append]
  omega
theorem zeW (ls:List (List UInt8)) (hl:ls.flatten.length≤140737488355328):Tells P 80 [.val (bsl (bsl u8T)) ls] (.fresh 5 u8T ls.flatten):=by
 refine zc Tryz.func80 rfl rfl rfl (fun ext w hext=>?_)
 refine ze (d:=0) rfl zi (fun hsl0=>?_)
 refine qbP ?_;refine qah ?_;refine A0 (zah rfl rfl isl_128) ?_;refine qaI ?_;refine Lp (ι:=Nat) 0 (fun (k:Nat)=>(((((Fr.none).set 0 (.val (bsl (bsl u8T)) ls)).set 3 (.val i64T ((ls.take k).flatten.length:Int))).set 9 (.val (bsl (bsl u8T)) ls)).set 10 (.val i64T (ls.length:Int))).set 11 (.val i64T (k:Int))) (fun (k:Nat)=>Hp.none) (fun (k:Nat)=>k≤ls.length) (fun (k:Nat)=>ls.length-k) (0) (Nat.zero_le _) ?_
 intro k hinv
 refine qao ?_;refine Cf (p:=k<ls.length) (fun ht12=>?_) (fun ht12=>?_)
 ·
  obtain ⟨x,hx⟩:∃x,ls[k]?=some x:=⟨_,List.getElem?_eq_getElem ht12⟩
  have hle:=zep ls (k+1)
  rw [za8 hx,List.length_append] at hle
  refine CSQBQR ?_;refine A0 (zaQ rfl rfl rfl zdF (by assumption)) ?_;refine A0 (zf rfl rfl zbT) ?_;refine A0 aX ?_;refine qbx ?_;refine A0 mX ?_;refine A0 (by first|exact zah rfl rfl zcT|exact zaY rfl rfl rfl zcT|exact zbu rfl rfl zcT) ?_;refine A0 zaG ?_;refine qa7 ?_;refine qaz ?_;refine zeG rfl (decide_eq_false (by simp only [IntL.toI,id_eq];omega)) ?_;refine qbn ?_;refine zp (d:=3) (y:=((ls.take (k+1)).flatten.length:Int)) rfl (by rw [za8 hx,List.length_append];omega) ?_
  exact Nx (k+1) (by omega) (by omega)
 ·
  refine zp (d:=3) (y:=((ls.flatten.length:Nat):Int)) rfl (by rw [List.take_of_length_le (by omega)]) ?_;refine CE ?_;refine qa2 ?_;refine zaE (growNil ls.flatten.length hl) rfl fn_138 ⟨(by first|exact zq rfl|exact zC rfl|exact zy rfl rfl|exact zA rfl|exact zr rfl|exact zL rfl rfl|exact zB rfl),(zd rfl),trivial⟩ rfl rfl rfl ?_;refine A0 aO ?_;refine qbb ?_;refine A0 (zah rfl rfl isl_128) ?_;refine qaI ?_
  refine Lp (ι:=Nat) 1 (fun (k:Nat)=>((((Fr.none).set 6 (.own 0)).set 25 (.val (bsl (bsl u8T)) ls)).set 26 (.val i64T (ls.length:Int))).set 27 (.val i64T (k:Int))) (fun (k:Nat)=>(Hp.none).set 0 (.row 5 u8T (ls.take k).flatten)) (fun (k:Nat)=>k≤ls.length) (fun (k:Nat)=>ls.length-k) (0) (Nat.zero_le _) ?_
  intro k hinv
  refine qao ?_;refine Cf (p:=k<ls.length) (fun ht28=>?_) (fun ht28=>?_)
  ·
   obtain ⟨x,hx⟩:∃x,ls[k]?=some x:=⟨_,List.getElem?_eq_getElem ht28⟩
   have hle:=zep ls (k+1)
   rw [za8 hx,List.length_append] at hle
   refine CSQBQR ?_;refine A0 (zaQ rfl rfl rfl zdF (by assumption)) ?_;refine A0 (zf rfl rfl zbT) ?_;refine A0 aX ?_;refine CNR ?_;refine A0 mO ?_;refine A0 mX ?_;refine zn rfl rfl rfl rfl rfl rfl rfl zR (by omega) ?_;refine A0 aO ?_;refine qbw ?_;refine zaB 1 0 2 rfl rfl rfl rfl rfl rfl ?_;refine zK (n:=0) rfl (za8 hx).symm ?_
   exact Nx (k+1) (by omega) (by omega)
  ·
   refine qat ?_
   exact zb rfl rfl (zg rfl rfl (by rw [List.take_of_length_le (by omega)]))
set_option maxRecDepth 20000
def padZ (n:Nat):Nat:=(64-(n+9)%64)%64
def padOf (b:List UInt8):List UInt8:=(b++128::List.replicate (padZ b.length) 0)++numBytes (8*u64OfI (IntL.toI i64T (b.length:Int))) 8
theorem padOf_pre (b:List UInt8):(b++128::List.replicate (padZ b.length) 0).length=b.length+1+padZ b.length:=by simp;omega
theorem pad_step {b l : List UInt8} {k : Nat} (hk : k < 8) (hl : l.length = b.length + padZ b.length + 9) (h : ∀ j, j < b.length + padZ b.length + 1 ∨ b.length + padZ b.length + 9 - k ≤ j → l[j]? = (padOf b)[j]?) :
    ∀j,j<b.length+padZ b.length+1∨b.length+padZ b.length+9-(k+1)≤j→(l.set (b.length+padZ b.length+8-k) (u8OfI (IntL.toI u64T (shr64 (8*u64OfI (IntL.toI i64T (b.length:Int))) (8*k)))))[j]?=(padOf b)[j]?:=fun j hj=>by
  rw [List.getElem?_set]
  by_cases c:b.length+padZ b.length+8-k=j
  · rw [if_pos c,if_pos (by omega)]
    unfold padOf
    rw [List.getElem?_append_right (by rw [padOf_pre];omega),padOf_pre]
    unfold numBytes
    rw [List.getElem?_map,List.getElem?_range (by omega),Option.map_some]
    congr 4;omega
  · rw [if_neg c];exact h j (by omega)
theorem pad_start {b:List UInt8} {j:Nat} (hj:j<b.length+padZ b.length+1∨b.length+padZ b.length+9-0≤j):([b,[128],List.replicate (padZ b.length+8) 0].flatten)[j]?=(padOf b)[j]?:=by
  unfold padOf
  have e:[b,[128],List.replicate (padZ b.length+8) (0:UInt8)].flatten=(b++128::List.replicate (padZ b.length) 0)++List.replicate 8 0:=by
    rw [←List.replicate_append_replicate];simp
  rw [e]
  have hl:=padOf_pre b
  generalize b++128::List.replicate (padZ b.length) 0=pre at hl
  rcases hj with hj|hj
  · rw [List.getElem?_append_left (by omega),List.getElem?_append_left (by omega)]
  · rw [List.getElem?_append_right (by omega),List.getElem?_append_right (by omega),hl]
    rw [List.getElem?_eq_none (by simp;omega),List.getElem?_eq_none (by unfold numBytes;simp;omega)]
theorem pad_all {b l:List UInt8} (h:∀j,j<b.length+padZ b.length+1∨b.length+padZ b.length+9-8≤j→l[j]?=(padOf b)[j]?):l=padOf b:=List.ext_getElem? fun j=>h j (by omega)
theorem pad_ok (b:List UInt8) (hb:b.length≤70368744177664):Tells P 48 [.val (sl u8T) b] (.fresh 5 u8T (padOf b)):=by
 have hz:((padZ b.length:Nat):Int)=(64-((b.length:Int)+1+8)%64)%64:=by unfold padZ;omega
 have hz2:padZ b.length<64:=by unfold padZ;omega
 refine zc Tryz.func48 rfl rfl rfl (fun ext w hext=>?_)
 refine ze (d:=0) rfl zi (fun hsl0=>?_)
 refine qay ?_;refine qbx ?_;refine A0 (zah rfl rfl zcT) ?_;refine A0 zaG ?_;refine A0 zaG ?_;refine A0 (g_rem rfl rfl rfl (by first|omega|assumption) (by first|decide|omega) rfl) ?_;refine A0 zay ?_;refine A0 (g_rem rfl rfl rfl (by first|omega|assumption) (by first|decide|omega) rfl) ?_;refine qa7 ?_;refine A0 (zo (T:=u8T) (xs:=[_]) rfl zaW zR ⟨rfl,rfl,trivial⟩ rfl rfl) ?_;refine qar ?_;refine A0 zaG ?_
 refine aw_mks (T:=u8T) (n:=padZ b.length+8) rfl rfl rfl rfl rfl rfl (by first|omega|rfl) (by first|omega|rfl) zR ze_5 ⟨by omega,by omega,(show (padZ b.length+8)*1≤16777216 by omega)⟩ ?_;refine aw_pub (d:=17) rfl rfl ?_;refine A0 (zo (T:=(sl u8T)) (xs:=[_,_,_]) rfl zdF zde ⟨rfl,rfl,rfl,rfl,rfl,rfl,trivial⟩ rfl rfl) ?_;refine zaE (zeW [b,[128],List.replicate (padZ b.length+8) 0] (by simp;omega)) rfl fn_80 ⟨(zd rfl),trivial⟩ rfl rfl rfl ?_;refine A0 aO ?_;refine CNQQR ?_;refine qaI ?_
 refine Lp (ι:=Nat×List UInt8) 2 (fun (i:Nat×List UInt8)=>match i with|(k,l)=>(((Fr.none).set 0 (.val (sl u8T) b)).set 4 (.own 1)).set 20 (.val i64T (k:Int))) (fun (i:Nat×List UInt8)=>match i with|(k,l)=>(Hp.none).set 1 (.row 5 u8T l)) (fun (i:Nat×List UInt8)=>match i with|(k,l)=>k≤8∧l.length=b.length+padZ b.length+9∧∀j,j<b.length+padZ b.length+1∨b.length+padZ b.length+9-k≤j→l[j]?=(padOf b)[j]?) (fun (i:Nat×List UInt8)=>match i with|(k,l)=>8-k) ((0,[b,[128],List.replicate (padZ b.length+8) 0].flatten)) (⟨Nat.zero_le _,by simp;omega,fun j h=>pad_start h⟩) ?_
 intro ⟨k,l⟩ hinv
 dsimp only at hinv
 refine qao ?_;refine Cf (p:=k<8) (fun ht21=>?_) (fun ht21=>?_)
 ·
  obtain ⟨x,hx⟩:∃x,l[b.length+padZ b.length+8-k]?=some x:=⟨_,List.getElem?_eq_getElem (by omega)⟩
  refine qaL ?_;refine qb2 ?_;refine A0 mO ?_;refine A0 mO ?_;refine A0 (zaY rfl rfl rfl zcT) ?_;refine A0 zay ?_;refine qby ?_;refine qar ?_;refine A0 (zah rfl rfl zcT) ?_;refine A0 (zcr rfl (ui_33) (us_3) rfl) ?_;refine A0 (g_mul64 rfl rfl rfl) ?_;refine qar ?_;refine A0 zfc ?_;refine A0 (zbP rfl rfl rfl (by first|decide|(simp [IntL.toI];done)|(simp [IntL.toI];omega)) rfl) ?_;refine A0 (zcU rfl (ui_5) (us_33) rfl) ?_;refine A0 (zas (i:=b.length+padZ b.length+8-k) rfl rfl rfl rfl (by first|omega|rfl) zaW (by first|assumption|omega|(simp;omega))) ?_
  refine zdl rfl rfl rfl rfl rfl rfl (by assumption) (Lens.self _) ty_5 rfl ?_;refine qbw ?_
  exact Nx ((k+1,l.set (b.length+padZ b.length+8-k) (u8OfI (IntL.toI u64T (shr64 (8*u64OfI (IntL.toI i64T (b.length:Int))) (8*k)))))) (⟨by omega,by simp;exact hinv.2.1,pad_step ht21 hinv.2.1 hinv.2.2⟩) (by show _<8-k;simp only [];omega)
 ·
  refine qat ?_
  exact zb rfl rfl (zg rfl rfl (pad_all (by rw [show k=8 by omega] at hinv;exact hinv.2.2)))
set_option maxRecDepth 20000
def putIn (x:In):List UInt8:=x.tx++[u8OfI (IntL.toI i64T x.i)]
def putOut (o:Out):List UInt8:=numBytes (u64OfI (IntL.toI i64T o.v)) 6++[u8OfI (IntL.toI i64T o.to)]
def putIns (t:Tx) (k:Nat):List UInt8:=u8OfI (IntL.toI i64T (t.ins.length:Int))::((t.ins.take k).map putIn).flatten
def putOuts (t:Tx) (k:Nat):List UInt8:=putIns t t.ins.length++[u8OfI (IntL.toI i64T (t.outs.length:Int))]++((t.outs.take k).map putOut).flatten
def putTx (t:Tx):List UInt8:=putOuts t t.outs.length
theorem zfa {t:Tx} {k:Nat} {x:In} (h:t.ins[k]?=some x):putIns t (k+1)=putIns t k++x.tx++[u8OfI (IntL.toI i64T x.i)]:=by
  unfold putIns
  rw [List.take_add_one,h];simp [putIn]
theorem zeh {t:Tx} {k:Nat} {x:Out} (h:t.outs[k]?=some x):putOuts t (k+1)=putOuts t k++numBytes (u64OfI (IntL.toI i64T x.v)) 6++[u8OfI (IntL.toI i64T x.to)]:=by
  unfold putOuts
  rw [List.take_add_one,h];simp [putOut]
theorem fact_in {U N:Nat→Prop} {w:World} {x:In} {cs:List Value} (h:inT.rel U N w x cs):x.tx.length=32:=by
  obtain ⟨c1,c2,_,h1,_⟩:=h
  exact h1.1
theorem fact_txl {t:Tx} {ρ:Nat→Value} {B:Nat→Prop} {U N:Nat→Prop} {w:World} {v:Value} (h:(AV.val txT t).rel ρ B U N w v):t.ins.length≤9223372036854775807∧t.outs.length≤9223372036854775807:=by
  obtain ⟨cs,⟨c1,c2,_,⟨_,cap,_,h1,h2,_⟩,⟨_,cap',_,h3,h4,_⟩⟩,_⟩:=h
  unfold maxLen at h2 h4
  exact ⟨Nat.le_trans h1 h2,Nat.le_trans h3 h4⟩
theorem zN (n:UInt64) (s:Nat):(numBytes n s).length=s:=by simp [numBytes]
theorem zci {t:Tx} (h:mayTx t=true):t.ins.length≤3∧0<t.outs.length∧t.outs.length≤3:=by
  unfold mayTx at h
  simp only [Bool.and_eq_true,decide_eq_true_eq] at h
  exact ⟨h.2.1,h.2.2.1,h.2.2.2.1⟩
theorem put_ok (t:Tx):Tells P 186 [.val txT t] (.tup2 (.fresh 5 u8T (if mayTx t=true then putTx t else [])) (.val boolT (mayTx t))):=by
 refine zc Tryz.func186 rfl rfl rfl (fun ext w hext=>?_)
 refine qbi ?_;refine qbB ?_;refine qbd ?_;refine A0 (oCl (mayTx_ok _) rfl fn_214 ⟨(zd rfl),trivial⟩) ?_;refine qaE ?_;refine zj (p:=¬mayTx t=true) rfl (by simp) (fun ht11=>?_) (fun ht11=>?_)
 ·
  refine qay ?_;refine qab ?_
  exact z7 rfl rfl (by rw [if_neg ht11];exact zH rfl) (za rfl (by simpa using ht11))
 ·
  have hmay:=Classical.not_not.1 ht11
  obtain ⟨hmi,hm0,hmo⟩:=zci hmay
  refine CSQR ?_;refine qa1 ?_;refine A0 (zcU rfl (ui_5) (us_3) rfl) ?_;refine zaN (T:=u8T) (xs:=[_]) rfl rfl rfl rfl zaW zR ⟨rfl,rfl,trivial⟩ rfl rfl ?_;refine A0 aO ?_;refine CNQQR ?_;refine qa1 ?_;refine qaI ?_
  refine Lp (ι:=Nat) 2 (fun (k:Nat)=>(((((Fr.none).set 1 (.ptr 0 0)).set 4 (.own 1)).set 18 (.val (sl inT) t.ins)).set 19 (.val i64T (t.ins.length:Int))).set 20 (.val i64T (k:Int))) (fun (k:Nat)=>((Hp.none).set 0 (.box 140 txT t)).set 1 (.row 5 u8T (putIns t k))) (fun (k:Nat)=>k≤t.ins.length∧(putIns t k).length=33*k+1) (fun (k:Nat)=>t.ins.length-k) (0) (⟨Nat.zero_le _,by simp [putIns]⟩) ?_
  intro k hinv
  obtain ⟨hk,hpl⟩:=hinv
  have hinv:=And.intro hk hpl
  refine qao ?_;refine Cf (p:=k<t.ins.length) (fun ht21=>?_) (fun ht21=>?_)
  ·
   obtain ⟨x,hx⟩:∃x,t.ins[k]?=some x:=⟨_,List.getElem?_eq_getElem ht21⟩
   refine CSQBQR ?_;refine qbU ?_;refine zh rfl rfl rfl rfl rfl (Lens.self _) zbi rfl ?_;refine CN ?_;refine aw_factb (n:=2) rfl fact_in (fun hx32=>?_)
   refine zx [some 1,some 1,some 1,none,some 2,some 2,some 2,some 2,none,some 1] mixed (by decide +kernel) ?_;refine X0 mO ?_;refine X0 (oFp zb6) ?_;refine X0 (g_slice_b rfl rfl za5 rfl rfl) ?_;refine XK.e (fun fr' hfr kk H=>by exact aw_append_v rfl rfl rfl rfl ((hfr 24 (by decide +kernel)).trans rfl) rfl ((hfr 26 (by decide +kernel)).trans rfl) rfl zdm zR (by show (_+x.tx.length)*1≤_∧_+x.tx.length≤_;omega) (zz H)) ?_;refine XK.g2 (g_fa_p rfl rfl za3 rfl) (g_fa_p rfl rfl za3 rfl) rfl rfl rfl ?_
   refine XK.gb (t:=28) rfl rfl (fun _ he=>zl rfl rfl he zdD ty_3) rfl ⟨rfl,rfl,trivial⟩ rfl rfl rfl ?_;refine XK.g2 (zcU rfl (ui_5) (us_3) rfl) (zcU rfl (ui_5) (us_3) rfl) rfl rfl rfl ?_;refine XK.g2 (zo (T:=u8T) (xs:=[_]) rfl zaW zR ⟨rfl,rfl,trivial⟩ rfl rfl) (zo (T:=u8T) (xs:=[_]) rfl zaW zR ⟨rfl,rfl,trivial⟩ rfl rfl) rfl rfl rfl ?_
   refine XK.e (fun fr' hfr kk H=>by exact zn rfl rfl rfl rfl ((hfr 27 (by decide +kernel)).trans rfl) rfl ((hfr 31 (by decide +kernel)).trans rfl) zR (by simp only [List.length_append,List.length_cons,List.length_nil,hx32];omega) (zz H)) ?_;refine X0 aO ?_;refine qaQ ?_;refine qal ?_;refine zaB 4 1 5 rfl rfl rfl rfl rfl rfl ?_;refine zK (n:=1) rfl (zfa hx).symm ?_
   exact Nx (k+1) (⟨by omega,by rw [zfa hx];simp only [List.length_append,List.length_cons,List.length_nil,hx32];omega⟩) (by omega)
  ·
   obtain rfl:k=t.ins.length:=(by omega)
   obtain ⟨hli,_⟩:=hinv
   refine qbM ?_;refine A0 mO ?_;refine qaD ?_;refine A0 (zcU rfl (ui_5) (us_3) rfl) ?_;refine A0 (zo (T:=u8T) (xs:=[_]) rfl zaW zR ⟨rfl,rfl,trivial⟩ rfl rfl) ?_;refine zn rfl rfl rfl rfl rfl rfl rfl zR (by simp only [List.length_append,List.length_cons,List.length_nil];omega) ?_;refine A0 aO ?_;refine CNQQR ?_;refine qaD ?_;refine qaI ?_;refine zaB 2 1 3 rfl rfl rfl rfl rfl rfl ?_;refine zK (y:=putOuts t 0) (n:=1) rfl (by simp [putOuts]) ?_
   refine Lp (ι:=Nat) 2 (fun (k:Nat)=>(((((Fr.none).set 1 (.ptr 0 0)).set 4 (.own 1)).set 42 (.val (sl outT) t.outs)).set 43 (.val i64T (t.outs.length:Int))).set 44 (.val i64T (k:Int))) (fun (k:Nat)=>((Hp.none).set 0 (.box 140 txT t)).set 1 (.row 5 u8T (putOuts t k))) (fun (k:Nat)=>k≤t.outs.length∧(putOuts t k).length=7*k+2+33*t.ins.length) (fun (k:Nat)=>t.outs.length-k) (0) (⟨Nat.zero_le _,by simp [putOuts,hpl];omega⟩) ?_
   intro k hinv
   refine qao ?_;refine Cf (p:=k<t.outs.length) (fun ht45=>?_) (fun ht45=>?_)
   ·
    obtain ⟨x,hx⟩:∃x,t.outs[k]?=some x:=⟨_,List.getElem?_eq_getElem ht45⟩
    refine CSQBQR ?_;refine A0 (zaQ rfl rfl rfl zdV (by assumption)) ?_;refine qbL ?_;refine CN ?_;refine zx [some 1,some 1,some 1,some 1,some 1,none,some 2,some 2,some 2,some 2,none,some 1] mixed (by decide +kernel) ?_;refine X0 mO ?_;refine X0 (oFp zbL) ?_;refine X0 (oLb zcI ty_3) ?_;refine X0 (zcr rfl (ui_33) (us_3) rfl) ?_;refine X0 (oCl (zs (binPut_ok _ 6 (by decide))) rfl fn_81 ⟨(zd rfl),(zd rfl),trivial⟩) ?_
    refine XK.e (fun fr' hfr kk H=>by exact zn rfl rfl rfl rfl ((hfr 48 (by decide +kernel)).trans rfl) rfl ((hfr 52 (by decide +kernel)).trans rfl) zR (by simp only [List.length_append,List.length_cons,List.length_nil,zN];omega) (zz H)) ?_;refine XK.g2 (g_fa_p rfl rfl zck rfl) (g_fa_p rfl rfl zck rfl) rfl rfl rfl ?_;refine XK.gb (t:=54) rfl rfl (fun _ he=>zl rfl rfl he zc8 ty_3) rfl ⟨rfl,rfl,trivial⟩ rfl rfl rfl ?_;refine XK.g2 (zcU rfl (ui_5) (us_3) rfl) (zcU rfl (ui_5) (us_3) rfl) rfl rfl rfl ?_
    refine XK.g2 (zo (T:=u8T) (xs:=[_]) rfl zaW zR ⟨rfl,rfl,trivial⟩ rfl rfl) (zo (T:=u8T) (xs:=[_]) rfl zaW zR ⟨rfl,rfl,trivial⟩ rfl rfl) rfl rfl rfl ?_;refine XK.e (fun fr' hfr kk H=>by exact zn rfl rfl rfl rfl ((hfr 53 (by decide +kernel)).trans rfl) rfl ((hfr 57 (by decide +kernel)).trans rfl) zR (by simp only [List.length_append,List.length_cons,List.length_nil,zN];omega) (zz H)) ?_;refine X0 aO ?_;refine qaQ ?_;refine qal ?_;refine zaB 4 1 5 rfl rfl rfl rfl rfl rfl ?_;refine zK (n:=1) rfl (zeh hx).symm ?_
    exact Nx (k+1) (⟨by omega,by rw [zeh hx];simp only [List.length_append,List.length_cons,List.length_nil,zN];omega⟩) (by omega)
   ·
    refine qbM ?_;refine A0 mO ?_;refine A0 aO ?_;refine qab ?_
    exact z7 rfl rfl (zg rfl rfl (by rw [if_pos hmay,show k=t.outs.length by omega];rfl)) (za rfl hmay.symm)
set_option maxRecDepth 20000
def rr (x:UInt32) (n:Int):UInt32:=rotl x (IntKind.i64.wrap (0-n))
def beWord (x0 x1 x2 x3:UInt8):UInt32:=shl32 (u32OfI (IntL.toI u8T x0)) 24|||shl32 (u32OfI (IntL.toI u8T x1)) 16|||shl32 (u32OfI (IntL.toI u8T x2)) 8|||u32OfI (IntL.toI u8T x3)
def schedWord (a b x y:UInt32):UInt32:=a+b+(rr x 7^^^rr x 18^^^shr32 x 3)+(rr y 17^^^rr y 19^^^shr32 y 10)
def schedStep (b:List UInt8) (w:List UInt32) (i:Nat):List UInt32 :=
  if i<16 then w.set i (beWord (b.getD (4*i) default) (b.getD (4*i+1) default) (b.getD (4*i+2) default) (b.getD (4*i+3) default))
  else w.set i (schedWord (w.getD (i-16) default) (w.getD (i-7) default) (w.getD (i-15) default) (w.getD (i-2) default))
def schedN (b:List UInt8) (k:Nat):List UInt32:=(List.range k).foldl (schedStep b) (List.replicate 64 0)
def roundX (v w:List UInt32) (i:Nat):UInt32:=v.getD 7 default+(rr (v.getD 4 default) 6^^^rr (v.getD 4 default) 11^^^rr (v.getD 4 default) 25)+((v.getD 4 default&&&v.getD 5 default)^^^(~~~ (v.getD 4 default)&&&v.getD 6 default))+shaK.getD i default+w.getD i default
def roundY (v:List UInt32):UInt32:=(rr (v.getD 0 default) 2^^^rr (v.getD 0 default) 13^^^rr (v.getD 0 default) 22)+((v.getD 0 default&&&v.getD 1 default)^^^(v.getD 0 default&&&v.getD 2 default)^^^(v.getD 1 default&&&v.getD 2 default))
def roundStep (w v:List UInt32) (i:Nat):List UInt32:=[roundX v w i+roundY v,v.getD 0 default,v.getD 1 default,v.getD 2 default,v.getD 3 default+roundX v w i,v.getD 4 default,v.getD 5 default,v.getD 6 default]
def roundN (w s:List UInt32) (k:Nat):List UInt32:=(List.range k).foldl (roundStep w) s
def sumN (v s:List UInt32) (k:Nat):List UInt32:=(List.range k).foldl (fun s i=>s.set i (s.getD i default+v.getD i default)) s
def addOf (s:List UInt32) (b:List UInt8):List UInt32:=sumN (roundN (schedN b 64) s 64) s 8
theorem zbZ {α:Type} {f:α→Nat→α} {z:α} {k:Nat}:(List.range (k+1)).foldl f z=f ((List.range k).foldl f z) k:=by rw [List.range_succ,List.foldl_append];rfl
theorem sched_lo {b:List UInt8} {k:Nat} {x0 x1 x2 x3:UInt8} (hk:k<16) (h0:b[4*k]?=some x0) (h1:b[4*k+1]?=some x1) (h2:b[4*k+2]?=some x2) (h3:b[4*k+3]?=some x3):(schedN b k).set k (beWord x0 x1 x2 x3)=schedN b (k+1):=by
  unfold schedN
  rw [zbZ]
  unfold schedStep
  rw [if_pos hk]
  simp only [List.getD_eq_getElem?_getD,h0,h1,h2,h3,Option.getD_some]
theorem sched_hi {b:List UInt8} {k:Nat} (hk:¬k<16):(schedN b k).set k (schedWord ((schedN b k).getD (k-16) default) ((schedN b k).getD (k-7) default) ((schedN b k).getD (k-15) default) ((schedN b k).getD (k-2) default))=schedN b (k+1):=by
  have e:schedN b (k+1)=schedStep b (schedN b k) k:=zbZ
  rw [e];unfold schedStep;rw [if_neg hk]
theorem round_succ {w s:List UInt32} {k:Nat}:roundStep w (roundN w s k) k=roundN w s (k+1):=zbZ.symm
theorem sum_succ {v s:List UInt32} {k:Nat} {x:UInt32} (h:v[k]?=some x):(sumN v s k).set k ((sumN v s k).getD k default+x)=sumN v s (k+1):=by
  have e:sumN v s (k+1)=_:=zbZ
  rw [e]
  show _=(sumN v s k).set k ((sumN v s k).getD k default+v.getD k default)
  rw [List.getD_eq_getElem?_getD (l:=v),h];rfl
theorem roundN_len {w s:List UInt32} (hs:s.length=8):∀k,(roundN w s k).length=8
  | 0=>hs
  | k+1=>by rw [←round_succ];rfl
theorem add_ok (s:List UInt32) (b:List UInt8) (hb:b.length=64) (hs:s.length=8):TellsM P 49 (.box 91 (arrT 8 (by decide) u32T) s) [.ptr 0 0,.val (bsl u8T) b] (.lit (.tuple #[])) (.box 91 (arrT 8 (by decide) u32T) (addOf s b)):=by
 refine fnm_of_aw trivial Tryz.func49 rfl rfl ⟨Nat.one_pos,⟨trivial,trivial⟩⟩ (fun ext pg w hext hgr=>?_)
 refine ze (d:=1) rfl zi (fun hsl1=>?_)
 refine CQR ?_;refine zI ze_133 rfl rfl rfl rfl ?_;refine CNQQR ?_;refine qaI ?_;refine Lp (ι:=Nat) 2 (fun (k:Nat)=>((((Fr.none).set 0 (.ptr 0 0)).set 1 (.val (bsl u8T) b)).set 4 (.ptr 1 0)).set 17 (.val i64T (k:Int))) (fun (k:Nat)=>((Hp.none).set 0 (.box 91 (arrT 8 (by decide) u32T) s)).set 1 (.box 133 (arrT 64 (by decide) u32T) (schedN b k))) (fun (k:Nat)=>k≤64) (fun (k:Nat)=>64-k) (0) (Nat.zero_le _) ?_
 intro k hinv
 refine qao ?_;refine Cf (p:=k<64) (fun ht18=>?_) (fun ht18=>?_)
 ·
  refine qaL ?_;refine qah ?_;refine qaz ?_;refine Cf (p:=k<16) (fun ht21=>?_) (fun ht21=>?_)
  ·
   obtain ⟨x0,hx0⟩:∃x,b[4*k]?=some x:=⟨_,List.getElem?_eq_getElem (by omega)⟩
   obtain ⟨x1,hx1⟩:∃x,b[4*k+1]?=some x:=⟨_,List.getElem?_eq_getElem (by omega)⟩
   obtain ⟨x2,hx2⟩:∃x,b[4*k+2]?=some x:=⟨_,List.getElem?_eq_getElem (by omega)⟩
   obtain ⟨x3,hx3⟩:∃x,b[4*k+3]?=some x:=⟨_,List.getElem?_eq_getElem (by omega)⟩
   refine CQ ?_;refine zx [some 1,some 1,some 1,some 1,some 1,some 1,some 1,some 1,some 1,some 1,some 1,some 1,some 1,some 1,some 1,some 1,some 1,some 1,some 1,some 1,some 1,some 1,some 1,some 1,some 1,some 1,some 1,some 1,some 1,some 1,some 1,some 1,some 1,some 1,some 1,none] mixed (by decide +kernel) ?_;refine qaP ?_;refine X0 mV ?_;refine X0 zfc ?_;refine X0 (zm (i:=4*k) rfl rfl rfl (by omega) zaW (by assumption)) ?_;refine X0 (zf rfl rfl ty_5) ?_;refine X0 (g_cv32 rfl (ui_36) (us_5) rfl) ?_
   refine X0 (g_shl32 rfl rfl rfl (by first|decide|(simp [IntL.toI];done)|(simp [IntL.toI];omega)) rfl) ?_;refine qaP ?_;refine X0 zfc ?_;refine X0 zaG ?_;refine X0 (zm (i:=4*k+1) rfl rfl rfl (by omega) zaW (by assumption)) ?_;refine X0 (zf rfl rfl ty_5) ?_;refine X0 (g_cv32 rfl (ui_36) (us_5) rfl) ?_;refine X0 (g_shl32 rfl rfl rfl (by first|decide|(simp [IntL.toI];done)|(simp [IntL.toI];omega)) rfl) ?_;refine X0 (g_or32 rfl rfl rfl) ?_;refine qaP ?_;refine X0 zfc ?_;refine X0 zaG ?_;refine X0 (zm (i:=4*k+2) rfl rfl rfl (by omega) zaW (by assumption)) ?_
   refine X0 (zf rfl rfl ty_5) ?_;refine X0 (g_cv32 rfl (ui_36) (us_5) rfl) ?_;refine X0 (g_shl32 rfl rfl rfl (by first|decide|(simp [IntL.toI];done)|(simp [IntL.toI];omega)) rfl) ?_;refine X0 (g_or32 rfl rfl rfl) ?_;refine qaP ?_;refine X0 zfc ?_;refine X0 zaG ?_;refine X0 (zm (i:=4*k+3) rfl rfl rfl (by omega) zaW (by assumption)) ?_;refine X0 (zf rfl rfl ty_5) ?_;refine X0 (g_cv32 rfl (ui_36) (us_5) rfl) ?_;refine X0 (g_or32 rfl rfl rfl) ?_;refine X0 (zt (i:=k) rfl rfl rfl (by first|omega|rfl) ar_133 (by omega)) ?_
   refine XK.e (x:=.idk) (fun fr' hfr kk H=>by exact zh rfl rfl rfl ((hfr 56 (by decide +kernel)).trans rfl) rfl (Lens.elem (i:=k) (by omega) u32T) z8 ((hfr 55 (by decide +kernel)).trans rfl) (zz H)) ?_;refine XK.nil' ?_;refine CE ?_;refine CR ?_;refine qal ?_;refine zD (n:=1) rfl (sched_lo ht21 hx0 hx1 hx2 hx3) ?_
   exact Nx (k+1) (by omega) (by omega)
  ·
   refine CS ?_;refine qcd ?_;refine G0 zay ?_;refine G0 (zt (i:=k-15) rfl rfl rfl (by first|omega|rfl) ar_133 (by omega)) ?_;refine G0 (zl rfl rfl rfl (Lens.elem (i:=k-15) (by omega) u32T) z8) ?_;refine G0 mV ?_;refine G0 zay ?_;refine G0 (zt (i:=k-2) rfl rfl rfl (by first|omega|rfl) ar_133 (by omega)) ?_;refine G0 (zl rfl rfl rfl (Lens.elem (i:=k-2) (by omega) u32T) z8) ?_;refine G0 aV ?_;refine qa3 ?_
   refine zx [some 1,some 1,some 1,some 1,some 1,some 1,some 1,some 1,some 1,some 1,some 1,some 1,some 1,some 1,some 1,some 1,some 1,some 1,some 1,some 1,some 1,some 1,some 1,some 1,some 1,some 1,some 1,some 1,some 1,none] mixed (by decide +kernel) ?_;refine qaP ?_;refine X0 zay ?_;refine X0 (zt (i:=k-16) rfl rfl rfl (by first|omega|rfl) ar_133 (by omega)) ?_;refine X0 (zl rfl rfl rfl (Lens.elem (i:=k-16) (by omega) u32T) z8) ?_;refine X0 mV ?_;refine X0 zay ?_;refine X0 (zt (i:=k-7) rfl rfl rfl (by first|omega|rfl) ar_133 (by omega)) ?_
   refine X0 (zl rfl rfl rfl (Lens.elem (i:=k-7) (by omega) u32T) z8) ?_;refine X0 (zaR rfl rfl rfl) ?_;refine qbR ?_;refine qbR ?_;refine X0 (zbO rfl rfl rfl) ?_;refine X0 mV ?_;refine X0 (g_shr32 rfl rfl rfl (by first|decide|(simp [IntL.toI];done)|(simp [IntL.toI];omega)) rfl) ?_;refine X0 (zbO rfl rfl rfl) ?_;refine X0 (zaR rfl rfl rfl) ?_;refine qbR ?_;refine qbR ?_;refine X0 (zbO rfl rfl rfl) ?_;refine X0 mV ?_;refine X0 (g_shr32 rfl rfl rfl (by first|decide|(simp [IntL.toI];done)|(simp [IntL.toI];omega)) rfl) ?_;refine X0 (zbO rfl rfl rfl) ?_
   refine X0 (zaR rfl rfl rfl) ?_;refine X0 (zt (i:=k) rfl rfl rfl (by first|omega|rfl) ar_133 (by omega)) ?_;refine XK.e (x:=.idk) (fun fr' hfr kk H=>by exact zh rfl rfl rfl ((hfr 93 (by decide +kernel)).trans rfl) rfl (Lens.elem (i:=k) (by omega) u32T) z8 ((hfr 92 (by decide +kernel)).trans rfl) (zz H)) ?_;refine qaQ ?_;refine qal ?_;refine zD (n:=1) rfl (sched_hi ht21) ?_
   exact Nx (k+1) (by omega) (by omega)
 ·
  obtain rfl:k=64:=(by omega)
  refine qbM ?_;refine A0 (oCl (numbers_ok) rfl fn_88 trivial) ?_;refine zI ze_133 rfl rfl rfl rfl ?_;refine zh rfl rfl rfl rfl rfl (Lens.self _) ty_133 rfl ?_;refine CNQR ?_;refine A0 mP ?_;refine A0 (g_nc rfl rfl) ?_;refine A0 (oLs rfl rfl rfl ty_91) ?_;refine zI ze_91 rfl rfl rfl rfl ?_;refine zh rfl rfl rfl rfl rfl (Lens.self _) ty_91 rfl ?_;refine CNQQR ?_;refine qaI ?_
  refine Lp (ι:=Nat) 4 (fun (k:Nat)=>(((((Fr.none).set 0 (.ptr 0 0)).set 4 (.ptr 1 0)).set 8 (.ptr 2 0)).set 9 (.ptr 3 0)).set 99 (.val i64T (k:Int))) (fun (k:Nat)=>((((Hp.none).set 0 (.box 91 (arrT 8 (by decide) u32T) s)).set 1 (.box 133 (arrT 64 (by decide) u32T) (schedN b 64))).set 2 (.box 133 (arrT 64 (by decide) u32T) shaK)).set 3 (.box 91 (arrT 8 (by decide) u32T) (roundN (schedN b 64) s k))) (fun (k:Nat)=>k≤64) (fun (k:Nat)=>64-k) (0) (Nat.zero_le _) ?_
  intro k hinv
  refine qao ?_;refine Cf (p:=k<64) (fun ht100=>?_) (fun ht100=>?_)
  ·
   refine qaL ?_;refine qbF ?_;refine G0 (zt (i:=0) rfl rfl rfl (by first|omega|rfl) ze0 (by omega)) ?_;refine G0 (zl rfl rfl rfl (Lens.elem (i:=0) (by omega) u32T) z8) ?_;refine G0 (zt (i:=4) rfl rfl rfl (by first|omega|rfl) ze0 (by omega)) ?_;refine G0 (zl rfl rfl rfl (Lens.elem (i:=4) (by omega) u32T) z8) ?_;refine G0 aV ?_;refine qa3 ?_;refine qa0 ?_;refine G0 (zt (i:=7) rfl rfl rfl (by first|omega|rfl) ze0 (by omega)) ?_;refine G0 (zl rfl rfl rfl (Lens.elem (i:=7) (by omega) u32T) z8) ?_;refine qbh ?_;refine qbh ?_
   refine G0 (zbO rfl rfl rfl) ?_;refine qbh ?_;refine G0 (zbO rfl rfl rfl) ?_;refine G0 (zaR rfl rfl rfl) ?_;refine G0 mV ?_;refine G0 (zt (i:=5) rfl rfl rfl (by first|omega|rfl) ze0 (by omega)) ?_;refine G0 (zl rfl rfl rfl (Lens.elem (i:=5) (by omega) u32T) z8) ?_;refine G0 (zd3 rfl rfl rfl) ?_;refine G0 mV ?_;refine G0 (g_not32 rfl rfl) ?_;refine G0 (zt (i:=6) rfl rfl rfl (by first|omega|rfl) ze0 (by omega)) ?_;refine G0 (zl rfl rfl rfl (Lens.elem (i:=6) (by omega) u32T) z8) ?_;refine G0 (zd3 rfl rfl rfl) ?_;refine G0 (zbO rfl rfl rfl) ?_
   refine G0 (zaR rfl rfl rfl) ?_;refine G0 mV ?_;refine G0 (zt (i:=k) rfl rfl rfl (by first|omega|rfl) ar_133 (by omega)) ?_;refine G0 (zl rfl rfl rfl (Lens.elem (i:=k) (by omega) u32T) z8) ?_;refine G0 (zaR rfl rfl rfl) ?_;refine G0 mV ?_;refine G0 (zt (i:=k) rfl rfl rfl (by first|omega|rfl) ar_133 (by omega)) ?_;refine G0 (zl rfl rfl rfl (Lens.elem (i:=k) (by omega) u32T) z8) ?_;refine G0 (zaR rfl rfl rfl) ?_;refine qa3 ?_;refine qa0 ?_;refine qbh ?_;refine qbh ?_;refine G0 (zbO rfl rfl rfl) ?_;refine qbh ?_;refine G0 (zbO rfl rfl rfl) ?_
   refine G0 mV ?_;refine G0 (zt (i:=1) rfl rfl rfl (by first|omega|rfl) ze0 (by omega)) ?_;refine G0 (zl rfl rfl rfl (Lens.elem (i:=1) (by omega) u32T) z8) ?_;refine G0 (zd3 rfl rfl rfl) ?_;refine G0 mV ?_;refine G0 (zt (i:=2) rfl rfl rfl (by first|omega|rfl) ze0 (by omega)) ?_;refine G0 (zl rfl rfl rfl (Lens.elem (i:=2) (by omega) u32T) z8) ?_;refine G0 (zd3 rfl rfl rfl) ?_;refine G0 (zbO rfl rfl rfl) ?_;refine G0 (zt (i:=1) rfl rfl rfl (by first|omega|rfl) ze0 (by omega)) ?_
   refine G0 (zl rfl rfl rfl (Lens.elem (i:=1) (by omega) u32T) z8) ?_;refine G0 (zt (i:=2) rfl rfl rfl (by first|omega|rfl) ze0 (by omega)) ?_;refine G0 (zl rfl rfl rfl (Lens.elem (i:=2) (by omega) u32T) z8) ?_;refine G0 (zd3 rfl rfl rfl) ?_;refine G0 (zbO rfl rfl rfl) ?_;refine G0 (zaR rfl rfl rfl) ?_;refine qa3 ?_;refine CR ?_;refine qag ?_;refine A0 (zaR rfl rfl rfl) ?_;refine qar ?_;refine A0 (zt (i:=1) rfl rfl rfl (by first|omega|rfl) ze0 (by omega)) ?_;refine A0 (zl rfl rfl rfl (Lens.elem (i:=1) (by omega) u32T) z8) ?_
   refine A0 (zt (i:=2) rfl rfl rfl (by first|omega|rfl) ze0 (by omega)) ?_;refine A0 (zl rfl rfl rfl (Lens.elem (i:=2) (by omega) u32T) z8) ?_;refine A0 (zt (i:=3) rfl rfl rfl (by first|omega|rfl) ze0 (by omega)) ?_;refine A0 (zl rfl rfl rfl (Lens.elem (i:=3) (by omega) u32T) z8) ?_;refine qar ?_;refine A0 (zaR rfl rfl rfl) ?_;refine qar ?_;refine A0 (zt (i:=5) rfl rfl rfl (by first|omega|rfl) ze0 (by omega)) ?_;refine A0 (zl rfl rfl rfl (Lens.elem (i:=5) (by omega) u32T) z8) ?_
   refine A0 (zt (i:=6) rfl rfl rfl (by first|omega|rfl) ze0 (by omega)) ?_;refine A0 (zl rfl rfl rfl (Lens.elem (i:=6) (by omega) u32T) z8) ?_;refine A0 (zfg (T:=u32T) (xs:=[_,_,_,_,_,_,_,_]) rfl ze0 ze_91 ⟨rfl,rfl,rfl,rfl,rfl,rfl,rfl,rfl,rfl,rfl,rfl,rfl,rfl,rfl,rfl,rfl,trivial⟩ rfl) ?_;refine zh rfl rfl rfl rfl rfl (Lens.self _) ty_91 rfl ?_;refine qbw ?_;refine zD (n:=3) rfl round_succ ?_
   exact Nx (k+1) (by omega) (by omega)
  ·
   obtain rfl:k=64:=(by omega)
   refine qbM ?_;refine A0 (oLs rfl rfl rfl ty_91) ?_;refine qaI ?_;refine Lp (ι:=Nat) 1 (fun (k:Nat)=>(((Fr.none).set 0 (.ptr 0 0)).set 179 (.val (arrT 8 (by decide) u32T) (roundN (schedN b 64) s 64))).set 180 (.val i64T (k:Int))) (fun (k:Nat)=>(Hp.none).set 0 (.box 91 (arrT 8 (by decide) u32T) (sumN (roundN (schedN b 64) s 64) s k))) (fun (k:Nat)=>k≤8) (fun (k:Nat)=>8-k) (0) (Nat.zero_le _) ?_
   intro k hinv
   refine qao ?_;refine Cf (p:=k<8) (fun ht181=>?_) (fun ht181=>?_)
   ·
    obtain ⟨x,hx⟩:∃x,(roundN (schedN b 64) s 64)[k]?=some x:=⟨_,List.getElem?_eq_getElem (by rw [roundN_len hs];exact ht181)⟩
    refine qaL ?_;refine A0 (g_index rfl rfl rfl rfl ze0 z8 (by assumption)) ?_;refine qaY ?_;refine zx [some 1,some 1,some 1,some 1,some 1,some 1,some 1,some 1,some 1,none] mixed (by decide +kernel) ?_;refine X0 mP ?_;refine X0 mV ?_;refine X0 (g_nc rfl rfl) ?_;refine X0 (zt (i:=k) rfl rfl rfl (by first|omega|rfl) ze0 (by omega)) ?_;refine X0 (zl rfl rfl rfl (Lens.elem (i:=k) (by omega) u32T) z8) ?_;refine X0 mV ?_;refine X0 (zaR rfl rfl rfl) ?_;refine X0 (g_nc rfl rfl) ?_;refine X0 (zt (i:=k) rfl rfl rfl (by first|omega|rfl) ze0 (by omega)) ?_
    refine XK.e (x:=.idk) (fun fr' hfr kk H=>by exact zh rfl rfl rfl ((hfr 192 (by decide +kernel)).trans rfl) rfl (Lens.elem (i:=k) (by omega) u32T) z8 ((hfr 190 (by decide +kernel)).trans rfl) (zz H)) ?_;refine qaQ ?_;refine qal ?_;refine zD (n:=0) rfl (sum_succ hx) ?_
    exact Nx (k+1) (by omega) (by omega)
   ·
    obtain rfl:k=8:=(by omega)
    refine CE ?_
    exact aw_fallm0 rfl rfl rfl rfl rfl (zbs rfl rfl)
set_option maxRecDepth 20000
theorem padOf_len (b:List UInt8):(padOf b).length=64*((b.length+padZ b.length+9)/64):=by
  have h:(padOf b).length=b.length+padZ b.length+9:=by
    unfold padOf
    rw [List.length_append,padOf_pre]
    unfold numBytes
    simp;omega
  rw [h];unfold padZ;omega
def shaH:List UInt32:=[1779033703,3144134277,1013904242,2773480762,1359893119,2600822924,528734635,1541459225]
def shaN (p:List UInt8) (n:Nat):List UInt32:=(List.range n).foldl (fun s i=>addOf s ((p.take (64*i+64)).drop (64*i))) shaH
def shaWords (b:List UInt8):List UInt32:=shaN (padOf b) ((padOf b).length/64)
def shaByte (v:List UInt32) (i:Nat):UInt8:=u8OfI (IntL.toI u32T (shr32 (v.getD (i/4) default) (24-8*(i%4))))
def shaSum (b:List UInt8):Ab.Id:=(List.range 32).map (shaByte (shaWords b))
def shaOut (v:List UInt32) (k:Nat):Ab.Id:=(List.range k).foldl (fun l i=>l.set i (shaByte v i)) zId
theorem fold_set_get {α:Type} (f:Nat→α) (l:List α):∀k j,((List.range k).foldl (fun l i=>l.set i (f i)) l)[j]?=if j<k∧j<l.length then some (f j) else l[j]?
  | 0,j=>by simp
  | k+1,j=>by
    rw [List.range_succ,List.foldl_append]
    show (List.set _ k (f k))[j]?=_
    have hl:∀k,((List.range k).foldl (fun l i=>l.set i (f i)) l).length=l.length:=fun k=>by
      induction k with
      | zero=>rfl
      | succ k ih=>rw [List.range_succ,List.foldl_append];simp only [List.foldl_cons,List.foldl_nil,List.length_set];exact ih
    rw [List.getElem?_set,fold_set_get f l k j,hl]
    by_cases c:k=j
    · subst c
      by_cases d:k<l.length
      · simp [d]
      · simp [d]
    · rw [if_neg c]
      by_cases d:j<k
      · have:j<k+1:=by omega
        simp [d,this]
      · have:¬j<k+1:=by omega
        simp [d,this]
theorem shaOut_all (v:List UInt32):shaOut v 32=(List.range 32).map (shaByte v):=by
  apply List.ext_getElem?
  intro j
  unfold shaOut
  rw [fold_set_get,List.getElem?_map]
  have hz:zId.length=32:=rfl
  rw [hz]
  by_cases c:j<32
  · rw [if_pos ⟨c,c⟩,List.getElem?_range c];rfl
  · rw [if_neg (fun h=>c h.1),List.getElem?_eq_none (by first|(rw [hz];omega)|(rw [List.length_range];omega)),List.getElem?_eq_none (by first|(rw [hz];omega)|(rw [List.length_range];omega))];rfl
theorem zdW {v:List UInt32} {k:Nat} {x:UInt8} (h:x=shaByte v k):(shaOut v k).set k x=shaOut v (k+1):=by
  subst h
  unfold shaOut
  rw [List.range_succ,List.foldl_append];rfl
theorem shaN_succ {p:List UInt8} {k:Nat}:addOf (shaN p k) ((p.take (64*k+64)).drop (64*k))=shaN p (k+1):=by
  unfold shaN
  rw [List.range_succ,List.foldl_append];rfl
theorem sumN_len {v s:List UInt32}:∀k,(sumN v s k).length=s.length
  | 0=>rfl
  | k+1=>by
    unfold sumN
    rw [List.range_succ,List.foldl_append]
    simp only [List.foldl_cons,List.foldl_nil,List.length_set]
    exact sumN_len k
theorem shaN_len (p:List UInt8):∀k,(shaN p k).length=8
  | 0=>rfl
  | k+1=>by rw [←shaN_succ];unfold addOf;rw [sumN_len];exact shaN_len p k
theorem sum_ok (b:List UInt8) (hb:b.length≤70368744177664):Tells P 18 [.val (sl u8T) b] (.val idT (shaSum b)):=by
 obtain ⟨m,hm⟩:∃m,m=(b.length+padZ b.length+9)/64:=⟨_,rfl⟩
 have hz2:padZ b.length<64:=by unfold padZ;omega
 have hpl:(padOf b).length=64*m:=by rw [padOf_len,hm]
 have hmb:m≤2000000000000:=by omega
 refine zc Tryz.func18 rfl rfl rfl (fun ext w hext=>?_)
 refine ze (d:=0) rfl zi (fun hsl0=>?_)
 refine CQR ?_;refine qa8 ?_;refine CNQR ?_;refine A0 (zfg (T:=u32T) (xs:=[_,_,_,_,_,_,_,_]) rfl ze0 ze_91 ⟨rfl,rfl,rfl,rfl,rfl,rfl,rfl,rfl,rfl,rfl,rfl,rfl,rfl,rfl,rfl,rfl,trivial⟩ rfl) ?_;refine aw_box rfl rfl rfl rfl rfl ?_;refine aw_alloc_p zp_89 rfl rfl rfl rfl rfl rfl ?_;refine zdk rfl rfl rfl rfl rfl rfl rfl rfl rfl rfl ty_89 ?_;refine qbb ?_;refine A0 (oCl (zs (pad_ok b hb)) rfl fn_48 ⟨(zd rfl),trivial⟩) ?_;refine zcf rfl rfl rfl rfl Tryz.func47 fn_47 rfl rfl (fun ia2 iok2=>?_)
 refine qav ?_;refine A0 aL ?_;refine CNQQR ?_;refine A0 (oLs rfl rfl rfl ty_3) ?_;refine qaz ?_;refine zeG rfl (by decide) ?_;refine CSQR ?_;refine A0 (g_mkf (caps:=[_,_]) rfl rfl) ?_;refine A0 aC ?_;refine CN ?_;refine zc2 rfl ?_;refine CNB ?_;refine aw_range rfl rfl rfl Tryz.func86 fn_86 rfl rfl (by intro n hn;simp only [List.mem_cons,List.not_mem_nil,or_false] at hn;rcases hn with rfl|rfl<;>rfl) (fun fid3 ca3 lN3 DN3 cok3 rc3 hrc3=>?_)
 refine CQR ?_;refine qbC ?_;refine Lp (ι:=Nat) 7 (fun (k:Nat)=>((((Fr.none).set 0 (.lit (.func (.yield lN3) #[] #[]))).set 1 (.ptr 3 0)).set 2 (.ptr 4 0)).set 4 (.val i64T ((64*k:Nat):Int))) (fun (k:Nat)=>(((((((Hp.none).set 0 (.box 32 idT zId)).set 1 (.box 91 (arrT 8 (by decide) u32T) (shaN (padOf b) k))).set 2 (.parts 89 [.ptr 1 0])).set 3 (.box 46 (sl u8T) (padOf b))).set 4 (.box 3 i64T 64)).set 5 (.objAt DN3 (.deferred (some [])))).set 6 (.objAt lN3 (rc3 .ready none))) (fun (k:Nat)=>k≤m) (fun (k:Nat)=>m-k) (0) (Nat.zero_le _) ?_
 intro k hinv
 refine qa9 ?_;refine A0 (oLs rfl rfl rfl zbT) ?_;refine A0 (zah rfl rfl zcT) ?_;refine qaz ?_;refine Cf (p:=64*k<(padOf b).length) (fun ht9=>?_) (fun ht9=>?_)
 ·
  refine qa4 ?_;refine qa0 ?_;refine G0 (oLs rfl rfl rfl ty_3) ?_;refine G0 (oLs rfl rfl rfl zbT) ?_;refine G0 mV ?_;refine G0 (zeP rfl rfl rfl zaW (by first|assumption|omega|(simp;omega))) ?_;refine G0 (zah rfl rfl zcT) ?_;refine G0 (g_min rfl rfl rfl) ?_;refine qa3 ?_;refine zp (d:=5) (y:=(64:Int)) rfl (by simp;omega) ?_;refine CQR ?_;refine A0 mL ?_;refine A0 (oLs rfl rfl rfl zbT) ?_;refine qag ?_;refine qar ?_;refine A0 zaG ?_;refine qag ?_;refine A0 zaG ?_;refine A0 (g_sl_lhm rfl rfl rfl rfl rfl zaW (by simp;omega)) ?_
  refine zp (d:=28) (y:=((padOf b).take (64*k+64)).drop (64*k)) rfl (by congr 1) ?_;refine aw_yield (nL:=6) rfl rfl rfl rfl rfl hrc3 rfl rfl rfl (fun ya4 yok4=>?_)
  refine CR ?_;refine qab ?_;refine aw_begin (nL:=6) hrc3 rfl ?_;refine CB ?_;refine CR ?_;refine A0 (by first|exact za2 rfl rfl rfl rfl rfl ty_89|exact zcc rfl rfl rfl rfl ty_89) ?_;refine qar ?_
  refine aw_callu (add_ok (shaN (padOf b) k) (((padOf b).take (64*k+64)).drop (64*k)) (by rw [List.length_drop,List.length_take];omega) (shaN_len _ k)) rfl fn_49 rfl trivial trivial rfl ⟨(by first|exact zbz rfl|exact zby rfl|exact zaS rfl|exact zbC rfl|exact zbA rfl|exact zbB rfl|exact zbx rfl rfl (by decide)),(by first|exact zbz rfl|exact zby rfl|exact zaS rfl|exact zbC rfl|exact zbA rfl|exact zbB rfl|exact zbx rfl rfl (by decide)),trivial⟩ rfl rfl rfl ?_;refine CN ?_;refine CI ?_;refine zdz (nL:=6) hrc3 rfl ?_
  refine qaE ?_;refine Cg ?_;refine CSIR ?_;refine qar ?_;refine A0 (oLs rfl rfl rfl ty_3) ?_;refine A0 zaG ?_;refine qab ?_;refine zp (d:=4) (y:=((64*(k+1):Nat):Int)) rfl (by omega) ?_;refine zD (n:=1) (y:=shaN (padOf b) (k+1)) rfl shaN_succ ?_
  exact Nx (k+1) (by omega) (by omega)
 ·
  obtain rfl:m=k:=(by omega)
  refine CE ?_;refine zdA (nL:=6) rfl hrc3 rfl (by decide) ?_;refine CI ?_;refine CQR ?_;refine qa8 ?_;refine CNQQR ?_;refine qaI ?_;refine Lp (ι:=Nat) 8 (fun (j:Nat)=>((((Fr.none).set 2 (.ptr 0 0)).set 3 (.ptr 2 0)).set 5 (.ptr 7 0)).set 16 (.val i64T (j:Int))) (fun (j:Nat)=>(((((Hp.none).set 0 (.box 32 idT zId)).set 1 (.box 91 (arrT 8 (by decide) u32T) (shaN (padOf b) m))).set 2 (.parts 89 [.ptr 1 0])).set 5 (.objAt DN3 (.deferred (some [])))).set 7 (.box 32 idT (shaOut (shaN (padOf b) m) j))) (fun (j:Nat)=>j≤32) (fun (j:Nat)=>32-j) (0) (Nat.zero_le _) ?_
  intro j hinv
  refine qao ?_;refine Cf (p:=j<32) (fun ht17=>?_) (fun ht17=>?_)
  ·
   refine qaL ?_;refine qb2 ?_;refine qar ?_;refine A0 (by first|exact za2 rfl rfl rfl rfl rfl ty_89|exact zcc rfl rfl rfl rfl ty_89) ?_;refine qar ?_;refine A0 (g_quo rfl rfl rfl (by first|omega|assumption) (by first|decide|omega) rfl) ?_;refine A0 (g_nc rfl rfl) ?_;refine A0 (zt (i:=j/4) rfl rfl rfl (by first|omega|rfl) ze0 (by omega)) ?_;refine A0 (zl rfl rfl rfl (Lens.elem (i:=j/4) (by omega) u32T) z8) ?_;refine qar ?_;refine A0 (g_rem rfl rfl rfl (by first|omega|assumption) (by first|decide|omega) rfl) ?_;refine A0 zfc ?_;refine A0 zay ?_
   refine A0 (g_shr32 rfl rfl rfl (by first|decide|(simp [IntL.toI];done)|(simp [IntL.toI];omega)) rfl) ?_;refine A0 (zcU rfl (ui_5) (us_36) rfl) ?_;refine A0 (zt (i:=j) rfl rfl rfl (by first|omega|rfl) za5 (by omega)) ?_;refine zh rfl rfl rfl rfl rfl (Lens.elem (i:=j) (by omega) u8T) ty_5 rfl ?_;refine qbw ?_;refine zD (n:=7) (y:=shaOut (shaN (padOf b) m) (j+1)) rfl (zdW (by unfold shaByte;congr 3;simp only [IntL.toI,id_eq];omega)) ?_
   exact Nx (j+1) (by omega) (by omega)
  ·
   obtain rfl:j=32:=(by omega)
   refine qbM ?_;refine qaN ?_;refine qbz ?_;refine zaK (zc6 (nD:=5) rfl rfl rfl ?_)
   exact ar_retc1 rfl rfl rfl rfl zM (by rw [shaOut_all];unfold shaSum shaWords;rw [hpl,Nat.mul_div_cancel_left m (by decide)])
def idOf (t:Tx):Ab.Id:=if mayTx t=true then shaSum ([6]++putTx t) else zId
theorem relAll_mem {α:Type} {T:GoT α} {U N:Nat→Prop} {w:World}:∀{l:List α} {cs:List Value},relAll T U N w l cs→∀x∈l,∃c,T.rel U N w x c
  | [],_,_,x,hx=>by cases hx
  | y::l,_,⟨c1,c2,_,h1,h2⟩,x,hx=>by
    rcases List.mem_cons.1 hx with e|e
    · exact ⟨c1,e▸h1⟩
    · exact relAll_mem h2 x e
theorem fact_tx {t:Tx} {ρ:Nat→Value} {B:Nat→Prop} {U N:Nat→Prop} {w:World} {v:Value} (h:(AV.val txT t).rel ρ B U N w v):∀x∈t.ins,x.tx.length=32:=fun x hx=>by
  obtain ⟨cs,⟨c1,c2,_,⟨ad,cap,_,_,_,h3⟩,_⟩,_⟩:=h
  obtain ⟨_,ds,_,_,hr,_⟩:=h3 (List.ne_nil_of_mem hx)
  obtain ⟨c,hc⟩:=relAll_mem hr x hx
  exact fact_in hc
theorem flat_len {α β:Type} {f:α→List β} {n:Nat}:∀{l:List α},(∀x∈l,(f x).length=n)→(l.map f).flatten.length=l.length*n
  | [],_=>by simp
  | x::l,h=>by
    rw [List.map_cons,List.flatten_cons,List.length_append,h x (by simp),flat_len (fun y hy=>h y (by simp [hy])),List.length_cons,Nat.add_mul];omega
theorem putTx_len {t:Tx} (h:mayTx t=true) (h32:∀x∈t.ins,x.tx.length=32):(putTx t).length≤200:=by
  obtain ⟨h1,_,h2⟩:=zci h
  unfold putTx putOuts putIns
  have e1:=flat_len (f:=putIn) (n:=33) (l:=t.ins.take t.ins.length) (fun x hx=>by
    rw [List.take_length] at hx
    unfold putIn
    rw [List.length_append,h32 x hx];rfl)
  have e2:=flat_len (f:=putOut) (n:=7) (l:=t.outs.take t.outs.length) (fun x hx=>by
    unfold putOut
    rw [List.length_append,zN];rfl)
  rw [List.take_length] at e1 e2
  simp only [List.length_append,List.length_cons,List.length_nil,List.take_length,e1,e2]
  omega
theorem of_ok (ls:List (List UInt8)) (hl:ls.flatten.length≤70368744177664):Tells P 38 [.val (bsl (bsl u8T)) ls] (.val idT (shaSum ls.flatten)):=by
 refine zc Tryz.func38 rfl rfl rfl (fun ext w hext=>?_)
 refine ze (d:=0) rfl zi (fun hsl0=>?_)
 refine CQR ?_;refine qa8 ?_;refine qbx ?_;refine A0 (oCl (zs (zeW ls (by omega))) rfl fn_80 ⟨(zd rfl),trivial⟩) ?_;refine A0 (oCl (sum_ok ls.flatten hl) rfl fn_18 ⟨(zd rfl),trivial⟩) ?_;refine qbz ?_
 exact zu rfl rfl rfl rfl zM (rfl)
theorem id_ok (t:Tx):Tells P 127 [.val txT t] (.val idT (idOf t)):=by
 refine zc Tryz.func127 rfl rfl rfl (fun ext w hext=>?_)
 refine ze (d:=0) rfl fact_tx (fun h32=>?_)
 refine qad ?_;refine qa8 ?_;refine CNQR ?_;refine qbd ?_;refine A0 (oCl (zcg (put_ok t)) rfl fn_186 ⟨(zd rfl),trivial⟩) ?_;refine A0 mX ?_;refine A0 (by first|exact zW rfl rfl|exact zU rfl rfl) ?_;refine A0 (by first|exact zY rfl rfl|exact zX rfl rfl) ?_;refine A0 aV ?_;refine qah ?_;refine qaE ?_;refine zj (p:=¬mayTx t=true) rfl (by simp) (fun ht11=>?_) (fun ht11=>?_)
 ·
  refine CQR ?_;refine A0 (zaA rfl za5 ze_32 rfl) ?_;refine qbz ?_
  exact zu rfl rfl rfl rfl zM (by unfold idOf;rw [if_neg ht11])
 ·
  refine zp (d:=3) rfl (if_pos (Classical.not_not.1 ht11)) ?_;refine CSQR ?_;refine A0 (zo (T:=u8T) (xs:=[_]) rfl zaW zR ⟨rfl,rfl,trivial⟩ rfl rfl) ?_;refine qar ?_;refine A0 (zo (T:=(sl u8T)) (xs:=[_,_]) rfl zdF zde ⟨rfl,rfl,rfl,rfl,trivial⟩ rfl rfl) ?_;refine A0 (oCl (of_ok [[6],putTx t] (by have:=putTx_len (Classical.not_not.1 ht11) h32;simp;omega)) rfl fn_38 ⟨(zd rfl),trivial⟩) ?_;refine qbz ?_
  exact zu rfl rfl rfl rfl zM (by unfold idOf;rw [if_pos (Classical.not_not.1 ht11)];simp)
set_option maxRecDepth 20000
def powN:Nat→UInt32
  | 0=>1
  | n+1=>2*powN n
theorem powN_nat:∀n,n<32→(powN n).toNat=2^n
  | 0,_=>rfl
  | n+1,h=>by
    have ih:=powN_nat n (by omega)
    have h2:2^n≤2^30:=Nat.pow_le_pow_right (by decide) (by omega)
    rw [powN,UInt32.toNat_mul,ih,Nat.pow_succ]
    have e:(2:UInt32).toNat=2:=rfl
    rw [e]
    omega
theorem turn_n:∀n:Nat,n<32→0<n→(u64OfI (IntKind.i64.wrap (0-(n:Int)))&&&31).toNat=32-n∧(32-(u64OfI (IntKind.i64.wrap (0-(n:Int)))&&&31)).toNat=n:=by decide +kernel
theorem or_add {a b k:Nat} (h:b<2^k):a*2^k|||b=a*2^k+b:=by
  rw [Nat.mul_comm]
  exact (Nat.two_pow_add_eq_or_of_lt h a).symm
theorem turn_rr (x:UInt32) {n:Nat} (h0:0<n) (h:n<32):x/powN n+x*powN (32-n)=rr x n:=by
  have hx:x.toNat<2^32:=x.toNat_lt
  obtain ⟨e1,e2⟩:=turn_n n h h0
  apply UInt32.toNat_inj.1
  unfold rr rotl
  rw [e1,e2,UInt32.toNat_add,UInt32.toNat_div,UInt32.toNat_mul,powN_nat n h,powN_nat (32-n) (by omega),UInt32.toNat_or]
  unfold shl32 shr32
  rw [UInt32.toNat_ofNat',Nat.min_eq_left (by omega),UInt32.toNat_ofNat_of_lt' (Nat.lt_of_le_of_lt (Nat.div_le_self _ _) hx),Nat.min_eq_left (by omega)]
  have hp:2^32=2^n*2^(32-n):=by rw [←Nat.pow_add];congr 1;omega
  have hm:x.toNat*2^(32-n)%2^32=x.toNat%2^n*2^(32-n):=by rw [hp,Nat.mul_mod_mul_right]
  have hd:x.toNat/2^n<2^(32-n):=by rw [Nat.div_lt_iff_lt_mul (Nat.two_pow_pos n),Nat.mul_comm,←hp];exact hx
  rw [hm,or_add hd,Nat.add_comm]
  refine Nat.mod_eq_of_lt ?_
  have hl:=Nat.mod_lt x.toNat (Nat.two_pow_pos n)
  have:x.toNat%2^n*2^(32-n)+2^(32-n)≤2^n*2^(32-n):=by
    rw [←Nat.succ_mul]
    exact Nat.mul_le_mul_right _ hl
  omega
theorem maj_eq (a b c:UInt32):(a&&&b)|||(a&&&c)|||(b&&&c)=(a&&&b)^^^(a&&&c)^^^(b&&&c):=by
  apply UInt32.toBitVec_inj.1
  simp only [UInt32.toBitVec_or,UInt32.toBitVec_and,UInt32.toBitVec_xor]
  ext i hi
  simp only [BitVec.getElem_or,BitVec.getElem_and,BitVec.getElem_xor]
  cases a.toBitVec[i]<;>cases b.toBitVec[i]<;>cases c.toBitVec[i]<;>rfl
theorem not_eq (a:UInt32):4294967295-a = ~~~ a:=by
  apply UInt32.toNat_inj.1
  have ha:a.toNat<4294967296:=a.toNat_lt
  rw [UInt32.toNat_sub,UInt32.toNat_not]
  have e:(4294967295:UInt32).toNat=4294967295:=rfl
  rw [e]
  have:UInt32.size=4294967296:=rfl
  omega
theorem u32_of8 (x:UInt8):(u32OfI (IntL.toI u8T x)).toNat=x.toNat:=by
  have hx:x.toNat<256:=x.toNat_lt
  unfold u32OfI
  show (UInt32.ofNat ((x.toNat:Int)%4294967296).toNat).toNat=_
  rw [show ((x.toNat:Int)%4294967296).toNat=x.toNat by omega,UInt32.toNat_ofNat_of_lt' (by show _<4294967296;omega)]
theorem be_eq (x0 x1 x2 x3:UInt8):16777216*u32OfI (IntL.toI u8T x0)+65536*u32OfI (IntL.toI u8T x1)+256*u32OfI (IntL.toI u8T x2)+u32OfI (IntL.toI u8T x3)=beWord x0 x1 x2 x3:=by
  have h0:x0.toNat<256:=x0.toNat_lt
  have h1:x1.toNat<256:=x1.toNat_lt
  have h2:x2.toNat<256:=x2.toNat_lt
  have h3:x3.toNat<256:=x3.toNat_lt
  apply UInt32.toNat_inj.1
  unfold beWord shl32
  simp only [UInt32.toNat_or,UInt32.toNat_add,UInt32.toNat_mul,u32_of8]
  rw [UInt32.toNat_ofNat_of_lt' (show x0.toNat*2^min 24 32<2^32 by show x0.toNat*16777216<4294967296;omega),UInt32.toNat_ofNat_of_lt' (show x1.toNat*2^min 16 32<2^32 by show x1.toNat*65536<4294967296;omega),UInt32.toNat_ofNat_of_lt' (show x2.toNat*2^min 8 32<2^32 by show x2.toNat*256<4294967296;omega)]
  have e1:x0.toNat*2^min 24 32|||x1.toNat*2^min 16 32=(x0.toNat*256+x1.toNat)*2^16:=by
    rw [show x0.toNat*2^min 24 32=x0.toNat*2^24 from rfl,or_add (k:=24) (by show x1.toNat*65536<16777216;omega)]
    show x0.toNat*16777216+x1.toNat*65536=(x0.toNat*256+x1.toNat)*65536
    omega
  rw [e1,or_add (k:=16) (by show x2.toNat*256<65536;omega)]
  have e2:(x0.toNat*256+x1.toNat)*2^16+x2.toNat*2^min 8 32=((x0.toNat*256+x1.toNat)*256+x2.toNat)*2^8:=by
    show (x0.toNat*256+x1.toNat)*65536+x2.toNat*256=((x0.toNat*256+x1.toNat)*256+x2.toNat)*256
    omega
  rw [e2,or_add (k:=8) (by show x3.toNat<256;omega)]
  have c1:(16777216:UInt32).toNat=16777216:=rfl
  have c2:(65536:UInt32).toNat=65536:=rfl
  have c3:(256:UInt32).toNat=256:=rfl
  rw [c1,c2,c3]
  omega
theorem div8 (x:UInt32):x/8=shr32 x 3:=by
  apply UInt32.toNat_inj.1
  have hx:x.toNat<4294967296:=x.toNat_lt
  unfold shr32
  rw [UInt32.toNat_div,UInt32.toNat_ofNat_of_lt' (Nat.lt_of_le_of_lt (Nat.div_le_self _ _) hx)]
  rfl
theorem div1024 (x:UInt32):x/1024=shr32 x 10:=by
  apply UInt32.toNat_inj.1
  have hx:x.toNat<4294967296:=x.toNat_lt
  unfold shr32
  rw [UInt32.toNat_div,UInt32.toNat_ofNat_of_lt' (Nat.lt_of_le_of_lt (Nat.div_le_self _ _) hx)]
  rfl
theorem zbl {b:List UInt8}:∀k,(schedN b k).length=64
  | 0=>by simp [schedN]
  | k+1=>by
    have e:schedN b (k+1)=schedStep b (schedN b k) k:=zbZ
    rw [e];unfold schedStep
    have:=zbl (b:=b) k
    split<;>rw [List.length_set]<;>exact this
theorem take_set {α:Type} {l:List α} {k:Nat} {x:α} (hk:k<l.length):(l.set k x).take (k+1)=l.take k++[x]:=by
  rw [List.take_add_one,List.take_set_of_le (Nat.le_refl k),List.getElem?_set_self hk];rfl
theorem words_lo {b:List UInt8} {k:Nat} {x0 x1 x2 x3:UInt8} (hk:k<16) (h0:b[4*k]?=some x0) (h1:b[4*k+1]?=some x1) (h2:b[4*k+2]?=some x2) (h3:b[4*k+3]?=some x3):(schedN b k).take k++[16777216*u32OfI (IntL.toI u8T x0)+65536*u32OfI (IntL.toI u8T x1)+256*u32OfI (IntL.toI u8T x2)+u32OfI (IntL.toI u8T x3)]=(schedN b (k+1)).take (k+1):=by
  rw [be_eq,←sched_lo hk h0 h1 h2 h3,take_set (by rw [zbl];omega)]
theorem take_getD {l:List UInt32} {k j:Nat} {x:UInt32} (h:(l.take k)[j]?=some x):l.getD j default=x:=by
  have hj:j<k:=by
    have:=(List.getElem?_eq_some_iff.1 h).1
    rw [List.length_take] at this;omega
  rw [List.getElem?_take_of_lt hj] at h
  rw [List.getD_eq_getElem?_getD,h];rfl
theorem words_hi {b : List UInt8} {k : Nat} {u v x y : UInt32} (hk : ¬ k < 16) (hk2 : k < 64) (hu : ((schedN b k).take k)[k - 16]? = some u) (hv : ((schedN b k).take k)[k - 7]? = some v) (hx : ((schedN b k).take k)[k - 15]? = some x) (hy : ((schedN b k).take k)[k - 2]? = some y) :
    (schedN b k).take k++[u+(rr x 7^^^rr x 18^^^x/8)+v+(rr y 17^^^rr y 19^^^y/1024)]=(schedN b (k+1)).take (k+1):=by
  rw [←sched_hi hk,take_set (by rw [zbl];omega),take_getD hu,take_getD hv,take_getD hx,take_getD hy,div8,div1024]
  unfold schedWord
  rw [UInt32.add_assoc u _ v,UInt32.add_comm _ v,←UInt32.add_assoc]
theorem eight {l:List UInt32} (h:l.length=8):∃a b c d e f g i,l=[a,b,c,d,e,f,g,i]:=by
  match l,h with
  | [a,b,c,d,e,f,g,i],_=>exact ⟨a,b,c,d,e,f,g,i,rfl⟩
theorem round_ref {w h : List UInt32} {k : Nat} {a b c d e f g i kk ww : UInt32} (hv : roundN w h k = [a, b, c, d, e, f, g, i]) (hk : shaK[k]? = some kk) (hw : w[k]? = some ww) :
    [i+(rr e 6^^^rr e 11^^^rr e 25)+((e&&&f)^^^((4294967295-e)&&&g))+kk+ww+(rr a 2^^^rr a 13^^^rr a 22)+((a&&&b)|||(a&&&c)|||(b&&&c)),a,b,c,d+(i+(rr e 6^^^rr e 11^^^rr e 25)+((e&&&f)^^^((4294967295-e)&&&g))+kk+ww),e,f,g]=roundN w h (k+1):=by
  rw [←round_succ,hv,maj_eq,not_eq,UInt32.add_assoc _ _ ((a&&&b)^^^(a&&&c)^^^(b&&&c))]
  unfold roundStep roundX roundY
  simp only [List.getD_eq_getElem?_getD (l:=shaK),List.getD_eq_getElem?_getD (l:=w),hk,hw,Option.getD_some]
  rfl
theorem sumN_comm {v s:List UInt32} (hv:v.length=8) (hs:s.length=8):sumN v s 8=sumN s v 8:=by
  obtain ⟨a,b,c,d,e,f,g,i,rfl⟩:=eight hv
  obtain ⟨a',b',c',d',e',f',g',i',rfl⟩:=eight hs
  show [a'+a,b'+b,c'+c,d'+d,e'+e,f'+f,g'+g,i'+i]=[a+a',b+b',c+c',d+d',e+e',f+f',g+g',i+i']
  simp only [UInt32.add_comm]
theorem sum_succ2 {v s:List UInt32} {k:Nat} {x y:UInt32} (h:v[k]?=some x) (hy:(sumN v s k)[k]?=some y):(sumN v s k).set k (y+x)=sumN v s (k+1):=by
  rw [←sum_succ h,List.getD_eq_getElem?_getD,hy];rfl
theorem rpow_ok (n:Int) (hn:n<100):Tells P 257 [.val i64T n] (.val u32T (powN n.toNat)):=by
 refine zc Tryz.func257 rfl rfl rfl (fun ext w hext=>?_)
 refine ze (d:=0) rfl zQ (fun hin0=>?_)
 refine CQR ?_;refine qai ?_;refine qbr ?_;refine Lp (ι:=Nat) 0 (fun (k:Nat)=>(((Fr.none).set 0 (.val i64T n)).set 3 (.val u32T (powN k))).set 4 (.val i64T (k:Int))) (fun (k:Nat)=>Hp.none) (fun (k:Nat)=>k≤n.toNat) (fun (k:Nat)=>n.toNat-k) (0) (Nat.zero_le _) ?_
 intro k hinv
 refine qbg ?_;refine qaz ?_;refine Cf (p:=k<n.toNat) (fun ht7=>?_) (fun ht7=>?_)
 ·
  refine qa4 ?_;refine CR ?_;refine qar ?_;refine A0 (g_mul32 rfl rfl rfl) ?_;refine A0 aV ?_;refine qaR ?_
  exact Nx (k+1) (by omega) (by omega)
 ·
  obtain rfl:k=n.toNat:=(by omega)
  refine CE ?_;refine qb8 ?_
  exact zb rfl rfl (za rfl rfl)
theorem zdo (x:UInt32) (n:Nat) (h0:0<n) (h:n<32):Tells P 229 [.val u32T x,.val i64T (n:Int)] (.val u32T (rr x (n:Int))):=by
 refine zc Tryz.func229 rfl rfl rfl (fun ext w hext=>?_)
 refine ze (d:=1) rfl zQ (fun hin1=>?_)
 refine CQR ?_;refine qbF ?_;refine qaF ?_;refine G0 (oCl (rpow_ok (n:Int) (by omega)) rfl fn_257 ⟨(zd rfl),trivial⟩) ?_;refine G0 (g_quo32 rfl rfl rfl (by rw [Int.toNat_natCast,powN_nat _ h];exact Nat.ne_of_gt (Nat.two_pow_pos n))) ?_;refine qaF ?_;refine G0 zay ?_;refine G0 (oCl (rpow_ok (32-(n:Int)) (by omega)) rfl fn_257 ⟨(zd rfl),trivial⟩) ?_;refine G0 (g_mul32 rfl rfl rfl) ?_;refine G0 (zaR rfl rfl rfl) ?_;refine qa3 ?_
 exact zb rfl rfl (za rfl (by rw [show (32-(n:Int)).toNat=32-n by omega,Int.toNat_natCast];exact turn_rr x h0 h))
theorem rnumbers_ok:Tells P 228 [] (.val (sl u32T) shaK):=by
 refine zc Tryz.func228 rfl rfl rfl (fun ext w hext=>?_)
 refine qbP ?_
 refine A0 (zo (T:=u32T) (xs:=[_,_,_,_,_,_,_,_,_,_,_,_,_,_,_,_,_,_,_,_,_,_,_,_,_,_,_,_,_,_,_,_,_,_,_,_,_,_,_,_,_,_,_,_,_,_,_,_,_,_,_,_,_,_,_,_,_,_,_,_,_,_,_,_]) rfl zat row_228 ⟨rfl,rfl,rfl,rfl,rfl,rfl,rfl,rfl,rfl,rfl,rfl,rfl,rfl,rfl,rfl,rfl,rfl,rfl,rfl,rfl,rfl,rfl,rfl,rfl,rfl,rfl,rfl,rfl,rfl,rfl,rfl,rfl,rfl,rfl,rfl,rfl,rfl,rfl,rfl,rfl,rfl,rfl,rfl,rfl,rfl,rfl,rfl,rfl,rfl,rfl,rfl,rfl,rfl,rfl,rfl,rfl,rfl,rfl,rfl,rfl,rfl,rfl,rfl,rfl,rfl,rfl,rfl,rfl,rfl,rfl,rfl,rfl,rfl,rfl,rfl,rfl,rfl,rfl,rfl,rfl,rfl,rfl,rfl,rfl,rfl,rfl,rfl,rfl,rfl,rfl,rfl,rfl,rfl,rfl,rfl,rfl,rfl,rfl,rfl,rfl,rfl,rfl,rfl,rfl,rfl,rfl,rfl,rfl,rfl,rfl,rfl,rfl,rfl,rfl,rfl,rfl,rfl,rfl,rfl,rfl,rfl,rfl,rfl,rfl,rfl,rfl,rfl,rfl,trivial⟩ rfl rfl) ?_
 refine qab ?_
 exact zb rfl rfl (za rfl rfl)
theorem rfirst_ok:Tells P 194 [] (.val (sl u32T) shaH):=by
 refine zc Tryz.func194 rfl rfl rfl (fun ext w hext=>?_)
 refine qbP ?_;refine A0 (zo (T:=u32T) (xs:=[_,_,_,_,_,_,_,_]) rfl zat row_228 ⟨rfl,rfl,rfl,rfl,rfl,rfl,rfl,rfl,rfl,rfl,rfl,rfl,rfl,rfl,rfl,rfl,trivial⟩ rfl rfl) ?_;refine qab ?_
 exact zb rfl rfl (za rfl rfl)
theorem rwords_ok (b:List UInt8) (hb:b.length=64):Tells P 196 [.val (bsl u8T) b] (.fresh 36 u32T (schedN b 64)):=by
 refine zc Tryz.func196 rfl rfl rfl (fun ext w hext=>?_)
 refine ze (d:=0) rfl zi (fun hsl0=>?_)
 refine qbP ?_;refine A0 aL ?_;refine qax ?_;refine za0 (T:=u32T) (d:=3) 36 rfl ?_;refine Lp (ι:=Nat) 1 (fun (k:Nat)=>(((Fr.none).set 0 (.val (bsl u8T) b)).set 3 (.own 0)).set 4 (.val i64T (k:Int))) (fun (k:Nat)=>(Hp.none).set 0 (.row 36 u32T ((schedN b k).take k))) (fun (k:Nat)=>k≤16) (fun (k:Nat)=>16-k) (0) (Nat.zero_le _) ?_
 intro k hinv
 refine qa9 ?_;refine qaz ?_;refine Cf (p:=k<16) (fun ht9=>?_) (fun ht9=>?_)
 ·
  obtain ⟨x0,hx0⟩:∃x,b[4*k]?=some x:=⟨_,List.getElem?_eq_getElem (by omega)⟩
  obtain ⟨x1,hx1⟩:∃x,b[4*k+1]?=some x:=⟨_,List.getElem?_eq_getElem (by omega)⟩
  obtain ⟨x2,hx2⟩:∃x,b[4*k+2]?=some x:=⟨_,List.getElem?_eq_getElem (by omega)⟩
  obtain ⟨x3,hx3⟩:∃x,b[4*k+3]?=some x:=⟨_,List.getElem?_eq_getElem (by omega)⟩
  refine qa4 ?_;refine zx [some 1,some 1,some 1,some 1,some 1,some 1,some 1,some 1,some 1,some 1,some 1,some 1,some 1,some 1,some 1,some 1,some 1,some 1,some 1,some 1,some 1,some 1,some 1,some 1,some 1,some 1,some 1,some 1,some 1,some 1,some 1,some 1,some 1,some 1,some 1,none,some 1] mixed (by decide +kernel) ?_;refine X0 mO ?_;refine qaP ?_;refine X0 zfc ?_;refine X0 (zm (i:=4*k) rfl rfl rfl (by omega) zaW (by assumption)) ?_;refine X0 (zf rfl rfl ty_5) ?_;refine X0 (g_cv32 rfl (ui_36) (us_5) rfl) ?_;refine X0 (g_mul32 rfl rfl rfl) ?_;refine qaP ?_;refine X0 zfc ?_
  refine X0 zaG ?_;refine X0 (zm (i:=4*k+1) rfl rfl rfl (by omega) zaW (by assumption)) ?_;refine X0 (zf rfl rfl ty_5) ?_;refine X0 (g_cv32 rfl (ui_36) (us_5) rfl) ?_;refine X0 (g_mul32 rfl rfl rfl) ?_;refine X0 (zaR rfl rfl rfl) ?_;refine qaP ?_;refine X0 zfc ?_;refine X0 zaG ?_;refine X0 (zm (i:=4*k+2) rfl rfl rfl (by omega) zaW (by assumption)) ?_;refine X0 (zf rfl rfl ty_5) ?_;refine X0 (g_cv32 rfl (ui_36) (us_5) rfl) ?_;refine X0 (g_mul32 rfl rfl rfl) ?_;refine X0 (zaR rfl rfl rfl) ?_;refine qaP ?_;refine X0 zfc ?_;refine X0 zaG ?_
  refine X0 (zm (i:=4*k+3) rfl rfl rfl (by omega) zaW (by assumption)) ?_;refine X0 (zf rfl rfl ty_5) ?_;refine X0 (g_cv32 rfl (ui_36) (us_5) rfl) ?_;refine X0 (zaR rfl rfl rfl) ?_;refine X0 (zo (T:=u32T) (xs:=[_]) rfl zat row_228 ⟨rfl,rfl,trivial⟩ rfl rfl) ?_;refine XK.e (fun fr' hfr kk H=>by exact zn rfl rfl rfl rfl ((hfr 12 (by decide +kernel)).trans rfl) rfl ((hfr 46 (by decide +kernel)).trans rfl) row_228 (by (try simp only [List.length_append,List.length_cons,List.length_nil,List.length_take,zbl]);omega) (zz H)) ?_;refine X0 aO ?_;refine qaQ ?_
  refine qaj ?_;refine zaB 1 0 2 rfl rfl rfl rfl rfl rfl ?_;refine zK (n:=0) rfl (words_lo ht9 hx0 hx1 hx2 hx3) ?_
  exact Nx (k+1) (by omega) (by omega)
 ·
  obtain rfl:k=16:=(by omega)
  refine CE ?_;refine CQQR ?_;refine qbC ?_;refine Lp (ι:=Nat) 1 (fun (k:Nat)=>((Fr.none).set 3 (.own 0)).set 5 (.val i64T (k:Int))) (fun (k:Nat)=>(Hp.none).set 0 (.row 36 u32T ((schedN b k).take k))) (fun (k:Nat)=>16≤k∧k≤64) (fun (k:Nat)=>64-k) (16) (⟨Nat.le_refl _,by decide⟩) ?_
  intro k hinv
  refine qa9 ?_;refine qaz ?_;refine Cf (p:=k<64) (fun ht49=>?_) (fun ht49=>?_)
  ·
   obtain ⟨u,hu⟩:∃x,((schedN b k).take k)[k-16]?=some x:=⟨_,List.getElem?_eq_getElem (by rw [List.length_take,zbl];omega)⟩
   obtain ⟨v,hv⟩:∃x,((schedN b k).take k)[k-7]?=some x:=⟨_,List.getElem?_eq_getElem (by rw [List.length_take,zbl];omega)⟩
   obtain ⟨x,hx⟩:∃x,((schedN b k).take k)[k-15]?=some x:=⟨_,List.getElem?_eq_getElem (by rw [List.length_take,zbl];omega)⟩
   obtain ⟨y,hy⟩:∃x,((schedN b k).take k)[k-2]?=some x:=⟨_,List.getElem?_eq_getElem (by rw [List.length_take,zbl];omega)⟩
   have hl:((schedN b k).take k).length=k:=by rw [List.length_take,zbl];omega
   refine qa4 ?_;refine qa0 ?_;refine G0 mO ?_;refine G0 mV ?_;refine G0 zay ?_;refine G0 (zas (i:=k-15) rfl rfl rfl rfl (by first|omega|rfl) zat (by first|assumption|omega|(simp;omega))) ?_;refine G0 (zT rfl rfl rfl rfl (by assumption) (Lens.self _) z8) ?_;refine G0 (oCl (zdo x 7 (by decide) (by decide)) rfl fn_229 ⟨(zd rfl),(zd rfl),trivial⟩) ?_;refine G0 mO ?_;refine G0 mV ?_;refine G0 zay ?_;refine G0 (zas (i:=k-15) rfl rfl rfl rfl (by first|omega|rfl) zat (by first|assumption|omega|(simp;omega))) ?_
   refine G0 (zT rfl rfl rfl rfl (by assumption) (Lens.self _) z8) ?_;refine G0 (oCl (zdo x 18 (by decide) (by decide)) rfl fn_229 ⟨(zd rfl),(zd rfl),trivial⟩) ?_;refine G0 (zbO rfl rfl rfl) ?_;refine G0 mO ?_;refine G0 mV ?_;refine G0 zay ?_;refine G0 (zas (i:=k-15) rfl rfl rfl rfl (by first|omega|rfl) zat (by first|assumption|omega|(simp;omega))) ?_;refine G0 (zT rfl rfl rfl rfl (by assumption) (Lens.self _) z8) ?_;refine G0 (g_quo32 rfl rfl rfl (by decide)) ?_;refine G0 (zbO rfl rfl rfl) ?_;refine qa3 ?_;refine qa0 ?_;refine G0 mO ?_;refine G0 mV ?_
   refine G0 zay ?_;refine G0 (zas (i:=k-2) rfl rfl rfl rfl (by first|omega|rfl) zat (by first|assumption|omega|(simp;omega))) ?_;refine G0 (zT rfl rfl rfl rfl (by assumption) (Lens.self _) z8) ?_;refine G0 (oCl (zdo y 17 (by decide) (by decide)) rfl fn_229 ⟨(zd rfl),(zd rfl),trivial⟩) ?_;refine G0 mO ?_;refine G0 mV ?_;refine G0 zay ?_;refine G0 (zas (i:=k-2) rfl rfl rfl rfl (by first|omega|rfl) zat (by first|assumption|omega|(simp;omega))) ?_;refine G0 (zT rfl rfl rfl rfl (by assumption) (Lens.self _) z8) ?_
   refine G0 (oCl (zdo y 19 (by decide) (by decide)) rfl fn_229 ⟨(zd rfl),(zd rfl),trivial⟩) ?_;refine G0 (zbO rfl rfl rfl) ?_;refine G0 mO ?_;refine G0 mV ?_;refine G0 zay ?_;refine G0 (zas (i:=k-2) rfl rfl rfl rfl (by first|omega|rfl) zat (by first|assumption|omega|(simp;omega))) ?_;refine G0 (zT rfl rfl rfl rfl (by assumption) (Lens.self _) z8) ?_;refine G0 (g_quo32 rfl rfl rfl (by decide)) ?_;refine G0 (zbO rfl rfl rfl) ?_;refine qa3 ?_
   refine zx [some 1,some 1,some 1,some 1,some 1,some 1,some 1,some 1,some 1,some 1,some 1,some 1,some 1,some 1,some 1,some 1,some 1,none,some 1] mixed (by decide +kernel) ?_;refine X0 mO ?_;refine X0 mO ?_;refine X0 mV ?_;refine X0 zay ?_;refine X0 (zas (i:=k-16) rfl rfl rfl rfl (by first|omega|rfl) zat (by first|assumption|omega|(simp;omega))) ?_;refine X0 (zT rfl rfl rfl rfl (by assumption) (Lens.self _) z8) ?_;refine X0 mV ?_;refine X0 (zaR rfl rfl rfl) ?_;refine X0 mO ?_;refine X0 mV ?_;refine X0 zay ?_
   refine X0 (zas (i:=k-7) rfl rfl rfl rfl (by first|omega|rfl) zat (by first|assumption|omega|(simp;omega))) ?_;refine X0 (zT rfl rfl rfl rfl (by assumption) (Lens.self _) z8) ?_;refine X0 (zaR rfl rfl rfl) ?_;refine X0 mV ?_;refine X0 (zaR rfl rfl rfl) ?_;refine X0 (zo (T:=u32T) (xs:=[_]) rfl zat row_228 ⟨rfl,rfl,trivial⟩ rfl rfl) ?_
   refine XK.e (fun fr' hfr kk H=>by exact zn rfl rfl rfl rfl ((hfr 92 (by decide +kernel)).trans rfl) rfl ((hfr 108 (by decide +kernel)).trans rfl) row_228 (by (try simp only [List.length_append,List.length_cons,List.length_nil,List.length_take,zbl]);omega) (zz H)) ?_;refine X0 aO ?_;refine qaQ ?_;refine qaj ?_;refine zaB 1 0 2 rfl rfl rfl rfl rfl rfl ?_;refine zK (n:=0) rfl (words_hi (by omega) ht49 hu hv hx hy) ?_
   exact Nx (k+1) (⟨by omega,by omega⟩) (by omega)
  ·
   obtain rfl:k=64:=(by omega)
   refine qat ?_
   exact zb rfl rfl (zg rfl rfl (List.take_of_length_le (by rw [zbl];exact Nat.le_refl _)))
theorem rrounds_ok (hs ws:List UInt32) (hh:hs.length=8) (hw:ws.length=64):Tells P 195 [.val (bsl u32T) hs,.val (bsl u32T) ws] (.fresh 36 u32T (sumN (roundN ws hs 64) hs 8)):=by
 refine zc Tryz.func195 rfl rfl rfl (fun ext w hext=>?_)
 refine ze (d:=0) rfl zi (fun hsl0=>?_)
 refine ze (d:=1) rfl zi (fun hsl1=>?_)
 refine qbP ?_;refine A0 (oCl (rnumbers_ok) rfl fn_228 trivial) ?_;refine qa7 ?_;refine zcN rfl rfl rfl rfl rfl rfl row_228 (by omega) ?_;refine A0 aO ?_;refine qax ?_;refine Lp (ι:=Nat) 1 (fun (k:Nat)=>(((((Fr.none).set 0 (.val (bsl u32T) hs)).set 1 (.val (bsl u32T) ws)).set 5 (.val (sl u32T) shaK)).set 6 (.own 0)).set 7 (.val i64T (k:Int))) (fun (k:Nat)=>(Hp.none).set 0 (.row 36 u32T (roundN ws hs k))) (fun (k:Nat)=>k≤64) (fun (k:Nat)=>64-k) (0) (Nat.zero_le _) ?_
 intro k hinv
 refine qa9 ?_;refine qaz ?_;refine Cf (p:=k<64) (fun ht18=>?_) (fun ht18=>?_)
 ·
  obtain ⟨kk,hkk⟩:∃x,shaK[k]?=some x:=⟨_,List.getElem?_eq_getElem (by show k<64;omega)⟩
  obtain ⟨ww,hww⟩:∃x,ws[k]?=some x:=⟨_,List.getElem?_eq_getElem (by omega)⟩
  obtain ⟨a,b,c,d,e,f,g,i,hv⟩:=eight (roundN_len (w:=ws) hh k)
  refine zK (n:=0) rfl hv ?_
  have h0:([a,b,c,d,e,f,g,i]:List UInt32)[0]?=some a:=rfl
  have h1:([a,b,c,d,e,f,g,i]:List UInt32)[1]?=some b:=rfl
  have h2:([a,b,c,d,e,f,g,i]:List UInt32)[2]?=some c:=rfl
  have h3:([a,b,c,d,e,f,g,i]:List UInt32)[3]?=some d:=rfl
  have h4:([a,b,c,d,e,f,g,i]:List UInt32)[4]?=some e:=rfl
  have h5:([a,b,c,d,e,f,g,i]:List UInt32)[5]?=some f:=rfl
  have h6:([a,b,c,d,e,f,g,i]:List UInt32)[6]?=some g:=rfl
  have h7:([a,b,c,d,e,f,g,i]:List UInt32)[7]?=some i:=rfl
  have b0:0<([a,b,c,d,e,f,g,i]:List UInt32).length:=by simp
  have b1:1<([a,b,c,d,e,f,g,i]:List UInt32).length:=by simp
  have b2:2<([a,b,c,d,e,f,g,i]:List UInt32).length:=by simp
  have b3:3<([a,b,c,d,e,f,g,i]:List UInt32).length:=by simp
  have b4:4<([a,b,c,d,e,f,g,i]:List UInt32).length:=by simp
  have b5:5<([a,b,c,d,e,f,g,i]:List UInt32).length:=by simp
  have b6:6<([a,b,c,d,e,f,g,i]:List UInt32).length:=by simp
  have b7:7<([a,b,c,d,e,f,g,i]:List UInt32).length:=by simp
  refine qa4 ?_;refine qa0 ?_;refine G0 mO ?_;refine G0 (zas (i:=4) rfl rfl rfl rfl (by first|omega|rfl) zat (by first|assumption|omega|(simp;omega))) ?_;refine G0 (zT rfl rfl rfl rfl (by assumption) (Lens.self _) z8) ?_;refine G0 (oCl (zdo e 6 (by decide) (by decide)) rfl fn_229 ⟨(zd rfl),(zd rfl),trivial⟩) ?_;refine G0 mO ?_;refine G0 (zas (i:=4) rfl rfl rfl rfl (by first|omega|rfl) zat (by first|assumption|omega|(simp;omega))) ?_;refine G0 (zT rfl rfl rfl rfl (by assumption) (Lens.self _) z8) ?_
  refine G0 (oCl (zdo e 11 (by decide) (by decide)) rfl fn_229 ⟨(zd rfl),(zd rfl),trivial⟩) ?_;refine G0 (zbO rfl rfl rfl) ?_;refine G0 mO ?_;refine G0 (zas (i:=4) rfl rfl rfl rfl (by first|omega|rfl) zat (by first|assumption|omega|(simp;omega))) ?_;refine G0 (zT rfl rfl rfl rfl (by assumption) (Lens.self _) z8) ?_;refine G0 (oCl (zdo e 25 (by decide) (by decide)) rfl fn_229 ⟨(zd rfl),(zd rfl),trivial⟩) ?_;refine G0 (zbO rfl rfl rfl) ?_;refine qa3 ?_;refine qa0 ?_;refine G0 mO ?_
  refine G0 (zas (i:=4) rfl rfl rfl rfl (by first|omega|rfl) zat (by first|assumption|omega|(simp;omega))) ?_;refine G0 (zT rfl rfl rfl rfl (by assumption) (Lens.self _) z8) ?_;refine G0 mO ?_;refine G0 (zas (i:=5) rfl rfl rfl rfl (by first|omega|rfl) zat (by first|assumption|omega|(simp;omega))) ?_;refine G0 (zT rfl rfl rfl rfl (by assumption) (Lens.self _) z8) ?_;refine G0 (zd3 rfl rfl rfl) ?_;refine G0 mO ?_;refine G0 (zas (i:=4) rfl rfl rfl rfl (by first|omega|rfl) zat (by first|assumption|omega|(simp;omega))) ?_
  refine G0 (zT rfl rfl rfl rfl (by assumption) (Lens.self _) z8) ?_;refine G0 (g_sub32 rfl rfl rfl) ?_;refine G0 mO ?_;refine G0 (zas (i:=6) rfl rfl rfl rfl (by first|omega|rfl) zat (by first|assumption|omega|(simp;omega))) ?_;refine G0 (zT rfl rfl rfl rfl (by assumption) (Lens.self _) z8) ?_;refine G0 (zd3 rfl rfl rfl) ?_;refine G0 (zbO rfl rfl rfl) ?_;refine qa3 ?_;refine qa0 ?_;refine G0 mO ?_;refine G0 (zas (i:=7) rfl rfl rfl rfl (by first|omega|rfl) zat (by first|assumption|omega|(simp;omega))) ?_
  refine G0 (zT rfl rfl rfl rfl (by assumption) (Lens.self _) z8) ?_;refine G0 mV ?_;refine G0 (zaR rfl rfl rfl) ?_;refine G0 mV ?_;refine G0 (zaR rfl rfl rfl) ?_;refine qaF ?_;refine G0 (zm (i:=k) rfl rfl rfl (by omega) zat (by assumption)) ?_;refine G0 (zf rfl rfl z8) ?_;refine G0 (zaR rfl rfl rfl) ?_;refine qaF ?_;refine G0 (zm (i:=k) rfl rfl rfl (by omega) zat (by assumption)) ?_;refine G0 (zf rfl rfl z8) ?_;refine G0 (zaR rfl rfl rfl) ?_;refine qa3 ?_;refine qa0 ?_;refine G0 mO ?_
  refine G0 (zas (i:=0) rfl rfl rfl rfl (by first|omega|rfl) zat (by first|assumption|omega|(simp;omega))) ?_;refine G0 (zT rfl rfl rfl rfl (by assumption) (Lens.self _) z8) ?_;refine G0 (oCl (zdo a 2 (by decide) (by decide)) rfl fn_229 ⟨(zd rfl),(zd rfl),trivial⟩) ?_;refine G0 mO ?_;refine G0 (zas (i:=0) rfl rfl rfl rfl (by first|omega|rfl) zat (by first|assumption|omega|(simp;omega))) ?_;refine G0 (zT rfl rfl rfl rfl (by assumption) (Lens.self _) z8) ?_
  refine G0 (oCl (zdo a 13 (by decide) (by decide)) rfl fn_229 ⟨(zd rfl),(zd rfl),trivial⟩) ?_;refine G0 (zbO rfl rfl rfl) ?_;refine G0 mO ?_;refine G0 (zas (i:=0) rfl rfl rfl rfl (by first|omega|rfl) zat (by first|assumption|omega|(simp;omega))) ?_;refine G0 (zT rfl rfl rfl rfl (by assumption) (Lens.self _) z8) ?_;refine G0 (oCl (zdo a 22 (by decide) (by decide)) rfl fn_229 ⟨(zd rfl),(zd rfl),trivial⟩) ?_;refine G0 (zbO rfl rfl rfl) ?_;refine qa3 ?_;refine qa0 ?_;refine G0 mO ?_
  refine G0 (zas (i:=0) rfl rfl rfl rfl (by first|omega|rfl) zat (by first|assumption|omega|(simp;omega))) ?_;refine G0 (zT rfl rfl rfl rfl (by assumption) (Lens.self _) z8) ?_;refine G0 mO ?_;refine G0 (zas (i:=1) rfl rfl rfl rfl (by first|omega|rfl) zat (by first|assumption|omega|(simp;omega))) ?_;refine G0 (zT rfl rfl rfl rfl (by assumption) (Lens.self _) z8) ?_;refine G0 (zd3 rfl rfl rfl) ?_;refine G0 mO ?_;refine G0 (zas (i:=0) rfl rfl rfl rfl (by first|omega|rfl) zat (by first|assumption|omega|(simp;omega))) ?_
  refine G0 (zT rfl rfl rfl rfl (by assumption) (Lens.self _) z8) ?_;refine G0 mO ?_;refine G0 (zas (i:=2) rfl rfl rfl rfl (by first|omega|rfl) zat (by first|assumption|omega|(simp;omega))) ?_;refine G0 (zT rfl rfl rfl rfl (by assumption) (Lens.self _) z8) ?_;refine G0 (zd3 rfl rfl rfl) ?_;refine G0 (g_or32 rfl rfl rfl) ?_;refine G0 mO ?_;refine G0 (zas (i:=1) rfl rfl rfl rfl (by first|omega|rfl) zat (by first|assumption|omega|(simp;omega))) ?_;refine G0 (zT rfl rfl rfl rfl (by assumption) (Lens.self _) z8) ?_;refine G0 mO ?_
  refine G0 (zas (i:=2) rfl rfl rfl rfl (by first|omega|rfl) zat (by first|assumption|omega|(simp;omega))) ?_;refine G0 (zT rfl rfl rfl rfl (by assumption) (Lens.self _) z8) ?_;refine G0 (zd3 rfl rfl rfl) ?_;refine G0 (g_or32 rfl rfl rfl) ?_;refine qa3 ?_;refine zx [some 1,some 1,some 1,some 1,some 1,some 1,some 1,some 1,some 1,some 1,some 1,some 1,some 1,some 1,some 1,some 1,some 1,some 1,some 1,some 1,some 1,some 1,some 1,some 1,some 1,some 1,some 1,some 1,none,some 1] mixed (by decide +kernel) ?_;refine qaP ?_;refine X0 (zaR rfl rfl rfl) ?_;refine X0 mV ?_
  refine X0 (zaR rfl rfl rfl) ?_;refine X0 mO ?_;refine X0 (zas (i:=0) rfl rfl rfl rfl (by first|omega|rfl) zat (by first|assumption|omega|(simp;omega))) ?_;refine X0 (zT rfl rfl rfl rfl (by assumption) (Lens.self _) z8) ?_;refine X0 mO ?_;refine X0 (zas (i:=1) rfl rfl rfl rfl (by first|omega|rfl) zat (by first|assumption|omega|(simp;omega))) ?_;refine X0 (zT rfl rfl rfl rfl (by assumption) (Lens.self _) z8) ?_;refine X0 mO ?_;refine X0 (zas (i:=2) rfl rfl rfl rfl (by first|omega|rfl) zat (by first|assumption|omega|(simp;omega))) ?_
  refine X0 (zT rfl rfl rfl rfl (by assumption) (Lens.self _) z8) ?_;refine X0 mO ?_;refine X0 (zas (i:=3) rfl rfl rfl rfl (by first|omega|rfl) zat (by first|assumption|omega|(simp;omega))) ?_;refine X0 (zT rfl rfl rfl rfl (by assumption) (Lens.self _) z8) ?_;refine X0 mV ?_;refine X0 (zaR rfl rfl rfl) ?_;refine X0 mO ?_;refine X0 (zas (i:=4) rfl rfl rfl rfl (by first|omega|rfl) zat (by first|assumption|omega|(simp;omega))) ?_;refine X0 (zT rfl rfl rfl rfl (by assumption) (Lens.self _) z8) ?_;refine X0 mO ?_
  refine X0 (zas (i:=5) rfl rfl rfl rfl (by first|omega|rfl) zat (by first|assumption|omega|(simp;omega))) ?_;refine X0 (zT rfl rfl rfl rfl (by assumption) (Lens.self _) z8) ?_;refine X0 mO ?_;refine X0 (zas (i:=6) rfl rfl rfl rfl (by first|omega|rfl) zat (by first|assumption|omega|(simp;omega))) ?_;refine X0 (zT rfl rfl rfl rfl (by assumption) (Lens.self _) z8) ?_
  refine XK.e (fun fr' hfr kk H=>by exact zaN (T:=u32T) (xs:=[_,_,_,_,_,_,_,_]) rfl rfl rfl rfl zat row_228 ⟨rfl,((hfr 109 (by decide +kernel)).trans rfl),rfl,((hfr 112 (by decide +kernel)).trans rfl),rfl,((hfr 115 (by decide +kernel)).trans rfl),rfl,((hfr 118 (by decide +kernel)).trans rfl),rfl,((hfr 123 (by decide +kernel)).trans rfl),rfl,((hfr 126 (by decide +kernel)).trans rfl),rfl,((hfr 129 (by decide +kernel)).trans rfl),rfl,((hfr 132 (by decide +kernel)).trans rfl),trivial⟩ rfl rfl (zz H)) ?_;refine X0 aO ?_;refine qaQ ?_;refine qaj ?_;refine aw_drop 0 ?_
  refine zaB 1 0 2 rfl rfl rfl rfl rfl rfl ?_;refine zK (n:=0) rfl (round_ref hv hkk hww) ?_
  exact Nx (k+1) (by omega) (by omega)
 ·
  obtain rfl:k=64:=(by omega)
  refine CE ?_;refine CQQR ?_;refine qbC ?_;refine zK (n:=0) (y:=sumN hs (roundN ws hs 64) 0) rfl (by simp [sumN]) ?_;refine Lp (ι:=Nat) 1 (fun (k:Nat)=>(((Fr.none).set 0 (.val (bsl u32T) hs)).set 6 (.own 0)).set 13 (.val i64T (k:Int))) (fun (k:Nat)=>(Hp.none).set 0 (.row 36 u32T (sumN hs (roundN ws hs 64) k))) (fun (k:Nat)=>k≤8) (fun (k:Nat)=>8-k) (0) (Nat.zero_le _) ?_
  intro k hinv
  refine qa9 ?_;refine qaz ?_;refine Cf (p:=k<8) (fun ht135=>?_) (fun ht135=>?_)
  ·
   have hsl:(sumN hs (roundN ws hs 64) k).length=8:=by rw [sumN_len,roundN_len hh]
   obtain ⟨y,hy⟩:∃x,(sumN hs (roundN ws hs 64) k)[k]?=some x:=⟨_,List.getElem?_eq_getElem (by omega)⟩
   obtain ⟨x,hx⟩:∃x,hs[k]?=some x:=⟨_,List.getElem?_eq_getElem (by omega)⟩
   refine qa4 ?_;refine zx [some 1,some 1,some 1,some 1,some 1,some 1,some 1,some 1,some 1,some 1,some 1,some 1,none] mixed (by decide +kernel) ?_;refine X0 mO ?_;refine X0 mV ?_;refine X0 mO ?_;refine X0 mV ?_;refine X0 (zas (i:=k) rfl rfl rfl rfl (by first|omega|rfl) zat (by first|assumption|omega|(simp;omega))) ?_;refine X0 (zT rfl rfl rfl rfl (by assumption) (Lens.self _) z8) ?_;refine qaP ?_;refine X0 (zm (i:=k) rfl rfl rfl (by omega) zat (by assumption)) ?_;refine X0 (zf rfl rfl z8) ?_;refine X0 (zaR rfl rfl rfl) ?_
   refine X0 (zas (i:=k) rfl rfl rfl rfl (by first|omega|rfl) zat (by first|assumption|omega|(simp;omega))) ?_;refine XK.e (x:=.idk) (fun fr' hfr kk H=>by exact zdl rfl rfl rfl ((hfr 149 (by decide +kernel)).trans rfl) rfl rfl (by assumption) (Lens.self _) z8 ((hfr 148 (by decide +kernel)).trans rfl) (zz H)) ?_;refine qaQ ?_;refine qaj ?_;refine zK (n:=0) rfl (sum_succ2 hx hy) ?_
   exact Nx (k+1) (by omega) (by omega)
  ·
   obtain rfl:k=8:=(by omega)
   refine qat ?_
   exact zb rfl rfl (zg rfl rfl (sumN_comm hh (roundN_len hh _)))
set_option maxRecDepth 20000
theorem cb_zero:∀{a b:List UInt8},Lib.compareBytes a b=0↔a=b
  | [],[]=>by simp [Lib.compareBytes]
  | [],_::_=>by simp [Lib.compareBytes]
  | _::_,[]=>by simp [Lib.compareBytes]
  | x::a,y::b=>by
    unfold Lib.compareBytes
    by_cases h1:x<y
    · rw [if_pos h1]
      constructor
      · intro h;omega
      · intro h;injection h with h _;subst h;exact absurd h1 (UInt8.lt_irrefl _)
    · rw [if_neg h1]
      by_cases h2:y<x
      · rw [if_pos h2]
        constructor
        · intro h;omega
        · intro h;injection h with h _;subst h;exact absurd h2 (UInt8.lt_irrefl _)
      · rw [if_neg h2]
        have e:x=y:=UInt8.le_antisymm (UInt8.not_lt.1 h2) (UInt8.not_lt.1 h1)
        subst e
        rw [cb_zero (a:=a) (b:=b)]
        simp
theorem cb_neg:∀{a b:List UInt8},Lib.compareBytes b a = -Lib.compareBytes a b
  | [],[]=>by simp [Lib.compareBytes]
  | [],_::_=>by simp [Lib.compareBytes]
  | _::_,[]=>by simp [Lib.compareBytes]
  | x::a,y::b=>by
    unfold Lib.compareBytes
    by_cases h1:x<y
    · have h2:¬y<x:=fun h=>UInt8.lt_irrefl _ (UInt8.lt_trans h1 h)
      simp [h1,h2]
    · by_cases h2:y<x
      · simp [h1,h2]
      · simp only [if_neg h1,if_neg h2];exact cb_neg
theorem cb_trans:∀{a b c:List UInt8},Lib.compareBytes a b<0→Lib.compareBytes b c<0→Lib.compareBytes a c<0
  | [],[],_,h,_=>by simp [Lib.compareBytes] at h
  | _::_,[],_,h,_=>by simp [Lib.compareBytes] at h
  | _,_::_,[],_,h=>by simp [Lib.compareBytes] at h
  | [],_::_,_::_,_,_=>by simp [Lib.compareBytes]
  | x::a,y::b,z::c,h,k=>by
    unfold Lib.compareBytes at h k ⊢
    by_cases h1:x<y
    · by_cases k1:y<z
      · rw [if_pos (UInt8.lt_trans h1 k1)];omega
      · rw [if_neg k1] at k
        by_cases k2:z<y
        · rw [if_pos k2] at k;omega
        · have e:y=z:=UInt8.le_antisymm (UInt8.not_lt.1 k2) (UInt8.not_lt.1 k1)
          subst e;rw [if_pos h1];omega
    · rw [if_neg h1] at h
      by_cases h2:y<x
      · rw [if_pos h2] at h;omega
      · rw [if_neg h2] at h
        have e:x=y:=UInt8.le_antisymm (UInt8.not_lt.1 h2) (UInt8.not_lt.1 h1)
        subst e
        by_cases k1:x<z
        · rw [if_pos k1];omega
        · rw [if_neg k1] at k ⊢
          by_cases k2:z<x
          · rw [if_pos k2] at k;omega
          · rw [if_neg k2] at k ⊢;exact cb_trans h k
theorem ordIn_eq (a b:In):ordIn a b=if Lib.compareBytes a.tx b.tx=0 then cmpInt a.i b.i else Lib.compareBytes a.tx b.tx:=by
  unfold ordIn
  simp only [orL]
  by_cases h:Lib.compareBytes a.tx b.tx=0
  · rw [if_pos h,if_pos h]
    split<;>simp_all
  · rw [if_neg h,if_neg h]
theorem cmpInt_zero {x y:Int}:cmpInt x y=0↔x=y:=by unfold cmpInt;split<;>(try split)<;>omega
theorem zbm {a b:In}:ordIn a b=0↔a=b:=by
  rw [ordIn_eq]
  by_cases h:Lib.compareBytes a.tx b.tx=0
  · rw [if_pos h,cmpInt_zero]
    have:=cb_zero.1 h
    cases a;cases b;simp_all
  · rw [if_neg h]
    constructor
    · intro e;exact absurd e h
    · intro e;subst e;exact absurd (cb_zero.2 rfl) h
theorem zbr (a b:In):ordIn b a = -ordIn a b:=by
  rw [ordIn_eq,ordIn_eq,cb_neg (a:=a.tx) (b:=b.tx)]
  by_cases h:Lib.compareBytes a.tx b.tx=0
  · rw [if_pos h,if_pos (by omega)]
    unfold cmpInt;split<;>split<;>(try split)<;>omega
  · rw [if_neg h,if_neg (by omega)]
theorem zdg {a b c:In} (h:ordIn a b<0) (k:ordIn b c<0):ordIn a c<0:=by
  rw [ordIn_eq] at h k ⊢
  by_cases h1:Lib.compareBytes a.tx b.tx=0
  · rw [if_pos h1] at h
    have e:=cb_zero.1 h1
    rw [e]
    by_cases k1:Lib.compareBytes b.tx c.tx=0
    · rw [if_pos k1] at k ⊢
      unfold cmpInt at *;split at h<;>split at k<;>(try split at h)<;>(try split at k)<;>split<;>(try split)<;>omega
    · rw [if_neg k1] at k ⊢;exact k
  · rw [if_neg h1] at h
    by_cases k1:Lib.compareBytes b.tx c.tx=0
    · have e:=cb_zero.1 k1
      rw [←e,if_neg h1];exact h
    · rw [if_neg k1] at k
      have:=cb_trans h k
      rw [if_neg (by omega)];exact this
set_option maxRecDepth 20000
def sortL_ren:Go.Shelf.Ren:=⟨fun|6=>246|15=>82|14=>269|28=>139|29=>140|20=>285|21=>286|22=>287|23=>288|24=>289|25=>290|26=>291|27=>292|46=>298|47=>294|48=>295|49=>299|50=>300|57=>302|n=>n,fun|22=>62|24=>200|25=>268|3=>3|39=>130|0=>0|53=>36|55=>33|4=>4|46=>292|45=>291|50=>259|5=>5|9=>9|66=>305|70=>309|76=>313|77=>314|n=>n,fun|n=>n⟩
theorem sortL:Go.Proofs.SlLaysF0.n6 P sortL_ren:={
  mixed:=by kernel_rfl,
  f6:=⟨Tryz.f246.name,by decide,Tryz.func246.trans (congrArg some (by kernel_rfl))⟩,
  f14:=⟨Tryz.f269.name,by decide,Tryz.func269.trans (congrArg some (by kernel_rfl))⟩,
  f15:=Tryz.func82.trans (congrArg some (by kernel_rfl)),
  f20:=⟨Tryz.f285.name,by decide,Tryz.func285.trans (congrArg some (by kernel_rfl))⟩,
  f21:=⟨Tryz.f286.name,by decide,Tryz.func286.trans (congrArg some (by kernel_rfl))⟩,
  f22:=⟨Tryz.f287.name,by decide,Tryz.func287.trans (congrArg some (by kernel_rfl))⟩,
  f23:=⟨Tryz.f288.name,by decide,Tryz.func288.trans (congrArg some (by kernel_rfl))⟩,
  f24:=⟨Tryz.f289.name,by decide,Tryz.func289.trans (congrArg some (by kernel_rfl))⟩,
  f25:=⟨Tryz.f290.name,by decide,Tryz.func290.trans (congrArg some (by kernel_rfl))⟩,
  f26:=⟨Tryz.f291.name,by decide,Tryz.func291.trans (congrArg some (by kernel_rfl))⟩,
  f27:=⟨Tryz.f292.name,by decide,Tryz.func292.trans (congrArg some (by kernel_rfl))⟩,
  f28:=Tryz.func139.trans (congrArg some (by kernel_rfl)),
  f29:=Tryz.func140.trans (congrArg some (by kernel_rfl)),
  f46:=⟨Tryz.f298.name,by decide,Tryz.func298.trans (congrArg some (by kernel_rfl))⟩,
  f47:=Tryz.func294.trans (congrArg some (by kernel_rfl)),
  f48:=Tryz.func295.trans (congrArg some (by kernel_rfl)),
  f49:=⟨Tryz.f299.name,by decide,Tryz.func299.trans (congrArg some (by kernel_rfl))⟩,
  f50:=⟨Tryz.f300.name,by decide,Tryz.func300.trans (congrArg some (by kernel_rfl))⟩,
  f57:=⟨Tryz.f302.name,by decide,Tryz.func302.trans (congrArg some (by kernel_rfl))⟩,
  t0:=Tryz.underlying0,
  a0:=Tryz.isAgg0,
  z0:=Tryz.sizeOf0,
  v0:=Tryz.zeroValue0,
  t3:=Tryz.underlying3,
  a3:=Tryz.isAgg3,
  z3:=Tryz.sizeOf3,
  v3:=Tryz.zeroValue3,
  t4:=Tryz.underlying4,
  a4:=Tryz.isAgg4,
  z4:=Tryz.sizeOf4,
  v4:=Tryz.zeroValue4,
  t5:=Tryz.underlying5,
  a5:=Tryz.isAgg5,
  z5:=Tryz.sizeOf5,
  v5:=Tryz.zeroValue5,
  t9:=Tryz.underlying9,
  a9:=Tryz.isAgg9,
  z9:=Tryz.sizeOf9,
  v9:=Tryz.zeroValue9,
  t22:=Tryz.underlying62,
  a22:=Tryz.isAgg62,
  z22:=Tryz.sizeOf62,
  v22:=Tryz.zeroValue62,
  t25:=Tryz.underlying268,
  a25:=Tryz.isAgg268,
  z25:=Tryz.sizeOf268,
  v25:=Tryz.zeroValue268,
  t39:=Tryz.underlying130,
  a39:=Tryz.isAgg130,
  z39:=Tryz.sizeOf130,
  v39:=Tryz.zeroValue130,
  t45:=Tryz.underlying291,
  a45:=Tryz.isAgg291,
  z45:=Tryz.sizeOf291,
  v45:=Tryz.zeroValue291,
  t46:=Tryz.underlying292,
  a46:=Tryz.isAgg292,
  z46:=Tryz.sizeOf292,
  v46:=Tryz.zeroValue292,
  t50:=Tryz.underlying259,
  a50:=Tryz.isAgg259,
  z50:=Tryz.sizeOf259,
  v50:=Tryz.zeroValue259,
  t53:=Tryz.underlying36,
  a53:=Tryz.isAgg36,
  z53:=Tryz.sizeOf36,
  v53:=Tryz.zeroValue36,
  t55:=Tryz.underlying33,
  a55:=Tryz.isAgg33,
  z55:=Tryz.sizeOf33,
  v55:=Tryz.zeroValue33,
  t66:=Tryz.underlying305,
  a66:=Tryz.isAgg305,
  z66:=Tryz.sizeOf305,
  v66:=Tryz.zeroValue305,
  t70:=Tryz.underlying309,
  a70:=Tryz.isAgg309,
  z70:=Tryz.sizeOf309,
  v70:=Tryz.zeroValue309,
  t76:=Tryz.underlying313,
  a76:=Tryz.isAgg313,
  z76:=Tryz.sizeOf313,
  v76:=Tryz.zeroValue313,
  t77:=Tryz.underlying314,
  a77:=Tryz.isAgg314,
  z77:=Tryz.sizeOf314,
  v77:=Tryz.zeroValue314 }
def Apart (l:List Coin):Prop:=l.Pairwise fun a b=>ordIn a.inn b.inn≠0
def sortC (l:List Coin):List Coin:=l.mergeSort fun a b=>decide (ordIn a.inn b.inn≤0)
def encId (l:Ab.Id):List Value:=l.map fun b=>.int .u8 b.toNat
def encCoin (c:Coin):List Value:=encId c.inn.tx++[.int .i64 c.inn.i,.int .i64 c.out.v,.int .i64 c.out.to]
def okCoin (c:Coin):Prop:=c.inn.tx.length=32∧IntKind.InR .i64 c.inn.i∧IntKind.InR .i64 c.out.v∧IntKind.InR .i64 c.out.to
theorem flat_u8:Flat1 u8T (fun b=>[.int .u8 b.toNat]) (fun _=>True):=fun _ _ _ _ _=>Iff.rfl
theorem flat_id:Flat1 idT encId (fun l=>l.length=32):=fun U N w l cs=>by
  show (l.length=32∧relAll u8T U N w l cs)↔_
  rw [zfh flat_u8]
  have e:(l.map fun b:UInt8=>[Value.int .u8 b.toNat]).flatten=encId l:=by
    unfold encId
    induction l with
    | nil=>rfl
    | cons x l ih=>rw [List.map_cons,List.flatten_cons,ih];rfl
  rw [e]
  exact ⟨fun h=>⟨h.2.1,h.1⟩,fun h=>⟨h.2,h.1,fun _ _=>trivial⟩⟩
theorem flat_coin:Flat1 coinT encCoin okCoin:=fun U N w c cs=>by
  constructor
  · rintro ⟨c1,c2,rfl,⟨d1,d2,rfl,h1,h2⟩,⟨d3,d4,rfl,h3,h4⟩⟩
    obtain ⟨rfl,k1⟩:=(flat_id _ _ _ _ _).1 h1
    obtain ⟨rfl,k2⟩:=h2
    obtain ⟨rfl,k3⟩:=h3
    obtain ⟨rfl,k4⟩:=h4
    exact ⟨by simp [encCoin],k1,k2,k3,k4⟩
  · rintro ⟨rfl,k1,k2,k3,k4⟩
    exact ⟨encId c.inn.tx++[.int .i64 c.inn.i],[.int .i64 c.out.v,.int .i64 c.out.to],by simp [encCoin],⟨encId c.inn.tx,[.int .i64 c.inn.i],rfl,(flat_id _ _ _ _ _).2 ⟨rfl,k1⟩,rfl,k2⟩,⟨[.int .i64 c.out.v],[.int .i64 c.out.to],rfl,⟨rfl,k3⟩,rfl,k4⟩⟩
theorem sort_unique {l r:List Coin} (hl:Apart l) (hp:r.Perm l) (hs:r.Pairwise fun a b=>¬ordIn b.inn a.inn<0):r=sortC l:=by
  have hle:∀a b c:Coin,(decide (ordIn a.inn b.inn≤0))=true→(decide (ordIn b.inn c.inn≤0))=true→(decide (ordIn a.inn c.inn≤0))=true:=fun a b c h1 h2=>by
    have h1:=of_decide_eq_true h1
    have h2:=of_decide_eq_true h2
    apply decide_eq_true
    by_cases e1:ordIn a.inn b.inn=0
    · rw [zbm.1 e1];exact h2
    · by_cases e2:ordIn b.inn c.inn=0
      · rw [←zbm.1 e2];exact h1
      · have:=zdg (show ordIn a.inn b.inn<0 by omega) (show ordIn b.inn c.inn<0 by omega);omega
  have htot:∀a b:Coin,(decide (ordIn a.inn b.inn≤0)||decide (ordIn b.inn a.inn≤0))=true:=fun a b=>by
    have:=zbr a.inn b.inn
    rw [Bool.or_eq_true,decide_eq_true_eq,decide_eq_true_eq];omega
  have h1:(sortC l).Pairwise fun a b=>(decide (ordIn a.inn b.inn≤0))=true:=List.pairwise_mergeSort (fun a b c=>hle a b c) (fun a b=>htot a b) l
  have h2:r.Pairwise fun a b=>(decide (ordIn a.inn b.inn≤0))=true:=hs.imp fun {a b} h=>by
    have:=zbr a.inn b.inn
    exact decide_eq_true (by omega)
  have hperm:r.Perm (sortC l):=hp.trans (List.mergeSort_perm l _).symm
  have hap:Apart (sortC l):=(List.mergeSort_perm l _).symm.pairwise hl (fun {a b} h=>by have:=zbr a.inn b.inn;omega)
  have hinj:∀a∈sortC l,∀b∈sortC l,ordIn a.inn b.inn=0→a=b:=by
    intro a ha b hb h0
    apply Classical.byContradiction
    intro hne
    obtain ⟨i,hi,rfl⟩:=List.getElem_of_mem ha
    obtain ⟨j,hj,rfl⟩:=List.getElem_of_mem hb
    have hw:=List.pairwise_iff_getElem.1 hap
    rcases Nat.lt_trichotomy i j with h|h|h
    · exact hw i j hi hj h h0
    · subst h;exact hne rfl
    · have:=zbr (sortC l)[i].inn (sortC l)[j].inn
      exact hw j i hj hi h (by omega)
  refine hperm.eq_of_pairwise (le:=fun a b=>(decide (ordIn a.inn b.inn≤0))=true) (fun a b ha hb x y=>?_) h2 h1
  have x:=of_decide_eq_true x
  have y:=of_decide_eq_true y
  have:=zbr a.inn b.inn
  exact hinj a (hperm.mem_iff.1 ha) b hb (by omega)
theorem sort_ok (l:List Coin) (hl:Apart l) (hn:l.length<1000000):TellsM P 246 (.row 200 coinT l) [.own 0,.clo 247 []] (.lit (.tuple #[])) (.row 200 coinT (sortC l)) :=
  sort_tells sortL flat_coin (fun c h=>by unfold encCoin encId;simp only [List.length_append,List.length_map,h.1,List.length_cons,List.length_nil];rfl) (fun c _ v hv=>by
    unfold encCoin encId at hv
    simp only [List.mem_append,List.mem_map,List.mem_cons,List.not_mem_nil,or_false] at hv
    rcases hv with ⟨b,_,rfl⟩|rfl|rfl|rfl<;>rfl) rfl (x0:=⟨⟨zId,0⟩,⟨0,0⟩⟩) ⟨rfl,zcq.2 (by decide),zcq.2 (by decide),zcq.2 (by decide)⟩ zdq (cf:=fun a b=>ordIn a.inn b.inn)
    (fun c _ h=>by have:=zbm.2 (rfl:c.inn=c.inn);omega) (fun a b c _ _ _ h1 h2=>zdg h1 h2)
    (fun a b c _ _ _ h1 h2 h3=>by
      have n1:=zbr a.inn b.inn
      have n2:=zbr b.inn c.inn
      by_cases e1:ordIn a.inn b.inn=0
      · rw [zbm.1 e1] at h3;exact h2 h3
      · by_cases e2:ordIn b.inn c.inn=0
        · rw [←zbm.1 e2] at h3;exact h1 h3
        · have:=zdg (show ordIn c.inn b.inn<0 by omega) (show ordIn b.inn a.inn<0 by omega)
          have n3:=zbr a.inn c.inn
          omega) fn_247 (fun x y=>made2_ok x y) (by omega) (fun r hp hs=>sort_unique hl hp hs)
set_option maxRecDepth 20000
def newN (id:Ab.Id) (outs:List Out) (k:Nat):List Coin:=(outs.take k).zipIdx.map fun x=>⟨⟨id,(x.2:Int)⟩,x.1⟩
theorem newN_len {id:Ab.Id} {outs:List Out} {k:Nat} (h:k≤outs.length):(newN id outs k).length=k:=by simp [newN];omega
theorem newN_succ {id:Ab.Id} {outs:List Out} {k:Nat} {o:Out} (h:outs[k]?=some o) (p:List Coin):p++newN id outs k++[⟨⟨id,(k:Int)⟩,o⟩]=p++newN id outs (k+1):=by
  have hk:=(List.getElem?_eq_some_iff.1 h).1
  unfold newN
  rw [List.take_add_one,h,List.zipIdx_append,List.map_append,List.append_assoc]
  simp
  omega
def madeOf (p:List Coin) (t:Tx):List Coin×Int:=if (p.any fun c=>decide (c.inn.tx=idOf t))=true then ([],10) else (sortC (p++newN (idOf t) t.outs t.outs.length),0)
theorem made_ok (p:List Coin) (t:Tx) (hp:p.length≤48) (hto:t.outs.length≤3) (hd:(p.any fun c=>decide (c.inn.tx=idOf t))=false→Apart (p++newN (idOf t) t.outs t.outs.length)):TellsM P 215 (.row 200 coinT p) [.own 0,.val txT t] (.tup2 (.fresh 200 coinT (madeOf p t).1) (.val i64T (madeOf p t).2)) (.none_):=by
 refine fnm_of_aw trivial Tryz.func215 rfl rfl ⟨Nat.one_pos,⟨trivial,trivial⟩⟩ (fun ext pg w hext hgr=>?_)
 refine aw_factrow (n:=0) rfl (fun hrl=>?_)
 refine qbi ?_;refine qai ?_;refine qbd ?_;refine A0 (oCl (id_ok t) rfl fn_127 ⟨(zd rfl),trivial⟩) ?_;refine qa8 ?_;refine qap ?_;refine CNQQR ?_;refine A0 mO ?_;refine A0 (g_mkf (caps:=[_]) rfl rfl) ?_
 refine A0 (oCl (containsFuncCoin _ _) rfl fn_244 ⟨(zy rfl rfl),(by first|exact zc4 (Cs:=[_]) rfl fn_245 (by intro n hn;simp only [List.mem_cons,List.not_mem_nil,or_false] at hn;rcases hn with rfl<;>exact ⟨_,_,_,_,rfl⟩) ⟨(by exact za4 rfl),trivial⟩ rfl (fun x=>made1_ok _ x)|exact zc3 (Cs:=[_]) rfl fn_245 (by intro n hn;simp only [List.mem_cons,List.not_mem_nil,or_false] at hn;rcases hn with rfl<;>exact ⟨_,_,_,_,rfl⟩) ⟨(by exact za4 rfl),trivial⟩ rfl (fun x y=>made1_ok _ x)|exact zc5 rfl),trivial⟩) ?_;refine CN ?_
 refine zj (p:=(p.any fun c=>decide (c.inn.tx=idOf t))=true) rfl (Bool.decide_eq_true.symm) (fun ht13=>?_) (fun ht13=>?_)
 ·
  refine qay ?_;refine qab ?_
  exact aw_retm2 rfl rfl rfl rfl rfl zeO (by unfold madeOf;rw [if_pos ht13];exact retm_fresh_nil rfl) (zex zeO rfl (by unfold madeOf;rw [if_pos ht13]))
 ·
  have hnot:(p.any fun c=>decide (c.inn.tx=idOf t))=false:=by simpa using ht13
  refine CSQQR ?_;refine qaD ?_;refine qaI ?_;refine zaB 0 3 4 rfl rfl rfl rfl rfl rfl ?_;refine zK (n:=3) (y:=p++newN (idOf t) t.outs 0) rfl (by simp [newN]) ?_;refine Lp (ι:=Nat) 4 (fun (k:Nat)=>((((((Fr.none).set 0 (.own 3)).set 3 (.ptr 1 0)).set 6 (.ptr 2 0)).set 15 (.val (sl outT) t.outs)).set 16 (.val i64T (t.outs.length:Int))).set 17 (.val i64T (k:Int))) (fun (k:Nat)=>(((Hp.none).set 1 (.box 140 txT t)).set 2 (.box 32 idT (idOf t))).set 3 (.row 200 coinT (p++newN (idOf t) t.outs k))) (fun (k:Nat)=>k≤t.outs.length) (fun (k:Nat)=>t.outs.length-k) (0) (Nat.zero_le _) ?_
  intro k hinv
  refine qao ?_;refine Cf (p:=k<t.outs.length) (fun ht18=>?_) (fun ht18=>?_)
  ·
   obtain ⟨o,ho⟩:∃o,t.outs[k]?=some o:=⟨_,List.getElem?_eq_getElem ht18⟩
   have hnl:=newN_len (id:=idOf t) hinv
   refine qaL ?_;refine A0 (zaQ rfl rfl rfl zdV (by assumption)) ?_;refine A0 (zf rfl rfl zdU) ?_;refine zI ze_196 rfl rfl rfl rfl ?_;refine A0 aV ?_;refine zh rfl rfl rfl rfl rfl (Lens.self _) zdU rfl ?_;refine CNR ?_;refine A0 mO ?_;refine qaN ?_;refine qar ?_;refine A0 (zV rfl ze_193 bd_193 (.cons zb6 zdm zM rfl (.cons za3 zdD ty_3 rfl .nil)) rfl) ?_;refine A0 (oLs rfl rfl rfl zdU) ?_;refine A0 (zV rfl ze_200 bd_200 (.cons zaX zaq zbi rfl (.cons zcB zbq zdU rfl .nil)) rfl) ?_
   refine A0 (zo (T:=coinT) (xs:=[_]) rfl zcP zcS ⟨rfl,rfl,trivial⟩ rfl rfl) ?_;refine zn rfl rfl rfl rfl rfl rfl rfl zcS (by simp only [List.length_append,List.length_cons,List.length_nil,hnl];omega) ?_;refine A0 aO ?_;refine qbw ?_;refine zaB 5 3 6 rfl rfl rfl rfl rfl rfl ?_;refine zK (n:=3) rfl (newN_succ ho p) ?_
   exact Nx (k+1) (by omega) (by omega)
  ·
   obtain rfl:k=t.outs.length:=(by omega)
   refine qbM ?_;refine A0 mO ?_;refine aw_callu (sort_ok _ (hd hnot) (by rw [List.length_append,newN_len (Nat.le_refl _)];omega)) rfl fn_246 rfl trivial trivial rfl ⟨(by first|exact zbz rfl|exact zby rfl|exact zaS rfl|exact zbC rfl|exact zbA rfl|exact zbB rfl|exact zbx rfl rfl (by decide)),(by first|exact zbz rfl|exact zby rfl|exact zaS rfl|exact zbC rfl|exact zbA rfl|exact zbB rfl|exact zbx rfl rfl (by decide)),trivial⟩ rfl rfl rfl ?_;refine CNQR ?_;refine A0 mO ?_;refine A0 aO ?_;refine qab ?_
   exact aw_retm2 rfl rfl rfl rfl rfl zeO (retm_fresh zeO (fun h=>False.elim h) rfl rfl (by unfold madeOf;rw [if_neg ht13])) (zex zeO rfl (by unfold madeOf;rw [if_neg ht13]))
set_option maxRecDepth 20000
def Sorted (p:List Coin):Prop:=p.Pairwise fun a b=>ordIn a.inn b.inn<0
theorem coinAt_iff {p:List Coin} {k:Nat} {c:Coin} (h:p[k]?=some c):coinAt p k=true↔coinOk c=true∧∀j b,k=j+1→p[j]?=some b→ordIn b.inn c.inn<0:=by
  unfold coinAt
  rw [h]
  simp only [Bool.and_eq_true]
  cases k with
  | zero=>simp
  | succ k =>
    constructor
    · rintro ⟨h1,h2⟩
      refine ⟨h1,fun j b e hb=>?_⟩
      obtain rfl:k=j:=by omega
      simp only [hb] at h2
      exact of_decide_eq_true h2
    · rintro ⟨h1,h2⟩
      refine ⟨h1,?_⟩
      simp only []
      cases hb:p[k]? with
      | none=>rfl
      | some b=>exact decide_eq_true (h2 k b rfl hb)
theorem zO {p:List Coin}:mayCoins p=true↔(∀c∈p,coinOk c=true)∧Sorted p∧p.length≤48:=by
  unfold mayCoins
  simp only [Bool.and_eq_true,decide_eq_true_eq,List.all_eq_true,List.mem_range]
  constructor
  · rintro ⟨h1,h2⟩
    have hat:∀k c,p[k]?=some c→coinOk c=true∧∀j b,k=j+1→p[j]?=some b→ordIn b.inn c.inn<0:=fun k c hc=>(coinAt_iff hc).1 (h1 k (List.getElem?_eq_some_iff.1 hc).1)
    refine ⟨fun c hc=>?_,?_,h2⟩
    · obtain ⟨k,hk⟩:=List.mem_iff_getElem?.1 hc
      exact (hat k c hk).1
    · have key : ∀ (k i : Nat) (a b : Coin), i < k → p[i]? = some a → p[k]? = some b → ordIn a.inn b.inn < 0 := fun k => by
        induction k with
        | zero=>intro i a b h;omega
        | succ k ih =>
          intro i a b h ha hb
          obtain ⟨m,hm⟩:∃m,p[k]?=some m:=⟨_,List.getElem?_eq_getElem (by have:=(List.getElem?_eq_some_iff.1 hb).1;omega)⟩
          have hlast:=(hat (k+1) b hb).2 k m rfl hm
          by_cases e:i=k
          · subst e;rw [ha] at hm;injection hm with hm;subst hm;exact hlast
          · exact zdg (ih i a m (by omega) ha hm) hlast
      unfold Sorted
      rw [List.pairwise_iff_getElem]
      intro i j hi hj hij
      exact key j i _ _ hij (List.getElem?_eq_getElem hi) (List.getElem?_eq_getElem hj)
  · rintro ⟨h1,h2,h3⟩
    refine ⟨fun k hk=>?_,h3⟩
    refine (coinAt_iff (List.getElem?_eq_getElem hk)).2 ⟨h1 _ (List.getElem_mem hk),fun j b e hb=>?_⟩
    subst e
    have hj:=(List.getElem?_eq_some_iff.1 hb).1
    have:=List.pairwise_iff_getElem.1 h2 j (j+1) hj hk (by omega)
    rw [List.getElem?_eq_getElem hj] at hb
    injection hb with hb
    rw [←hb];exact this
theorem Sorted.apart {p:List Coin} (h:Sorted p):Apart p:=List.Pairwise.imp (fun h=>by omega) h
theorem apart_new {p:List Coin} {id:Ab.Id} {outs:List Out} {k:Nat} (h:Apart p) (hn:(p.any fun c=>decide (c.inn.tx=id))=false):Apart (p++newN id outs k):=by
  unfold Apart
  rw [List.pairwise_append]
  refine ⟨h,?_,fun a ha b hb e=>?_⟩
  · unfold newN
    rw [List.pairwise_map,List.pairwise_iff_getElem]
    intro i j hi hj hij e
    have:=zbm.1 e
    injection this with _ h2
    simp at h2
    omega
  · have:=zbm.1 e
    unfold newN at hb
    obtain ⟨x,_,rfl⟩:=List.mem_map.1 hb
    have h2:=List.any_eq_false.1 hn a ha
    rw [this] at h2
    simp at h2
set_option maxRecDepth 20000
theorem del_sorted {l:List Coin} (i:Nat) (h:Sorted l):Sorted (l.take i++l.drop (i+1)):=by
  rw [←List.eraseIdx_eq_take_drop_succ]
  exact List.Pairwise.sublist (List.eraseIdx_sublist _ _) h
def takeIns:List Coin→Int→List In→Option (List Coin×Int)
  | p,n,[]=>some (p,n)
  | p,n,x::l=>match p[placeOf p x]? with
    | none=>none
    | some c=>if ordIn c.inn x=0 then takeIns (p.take (placeOf p x)++p.drop (placeOf p x+1)) (IntKind.i64.wrap (n+c.out.v)) l else none
def spendOf (p:List Coin) (t:Tx):List Coin×Int×Int :=
  if ¬(mayCoins p=true∧mayTx t=true∧t.ins≠[]) then (p,0,1) else
  match takeIns p 0 t.ins with
  | none=>(p,0,8)
  | some (rest,n) =>
    if IntKind.i64.wrap (n-worthF (·.v) t.outs)<0 then (p,0,8)
    else if (madeOf rest t).2=0 then (if 48<(madeOf rest t).1.length then (p,0,11) else ((madeOf rest t).1,IntKind.i64.wrap (n-worthF (·.v) t.outs),0))
    else (p,0,(madeOf rest t).2)
theorem zbV {p:List Coin} (h:mayCoins p=true):p.length≤48:=by
  unfold mayCoins at h
  simp only [Bool.and_eq_true,decide_eq_true_eq] at h
  exact h.2
theorem takeIns_step {p:List Coin} {n:Int} {ins:List In} {k:Nat} {x:In} {c:Coin} (hx:ins[k]?=some x) (hc:p[placeOf p x]?=some c) (h0:ordIn c.inn x=0):takeIns p n (ins.drop k)=takeIns (p.take (placeOf p x)++p.drop (placeOf p x+1)) (IntKind.i64.wrap (n+c.out.v)) (ins.drop (k+1)):=by
  obtain ⟨hk,rfl⟩:=List.getElem?_eq_some_iff.1 hx
  rw [List.drop_eq_getElem_cons hk]
  rw [takeIns.eq_2]
  simp only [hc,if_pos h0]
theorem takeIns_stop {p:List Coin} {n:Int} {ins:List In} {k:Nat} {x:In} (hx:ins[k]?=some x) (h:¬isThere p x=true):takeIns p n (ins.drop k)=none:=by
  obtain ⟨hk,rfl⟩:=List.getElem?_eq_some_iff.1 hx
  rw [List.drop_eq_getElem_cons hk]
  rw [takeIns.eq_2]
  unfold isThere foundAt at h
  split
  · rfl
  · rename_i c hc
    rw [hc] at h
    simp only [decide_eq_true_eq] at h
    rw [if_neg h]
theorem isThere_at {p:List Coin} {x:In} (h:isThere p x=true):∃c,p[placeOf p x]?=some c∧ordIn c.inn x=0:=by
  unfold isThere foundAt at h
  split at h
  · cases h
  · rename_i c hc
    exact ⟨c,hc,by simpa using h⟩
theorem spendFail (p:List Coin) (e:Int) (hp:p.length≤2000000000000):Tells P 238 [.val i64T e,.rptr (bsl coinT) p] (.tup3 (.fresh 200 coinT p) (.val i64T 0) (.val i64T e)):=by
 refine zc Tryz.func238 rfl rfl rfl (fun ext w hext=>?_)
 refine ze (d:=0) rfl zQ (fun hin0=>?_)
 refine qay ?_;refine A0 aV ?_;refine qai ?_;refine A0 (zf rfl rfl ty_62) ?_;refine zaE (cloneCoin p (by constructor<;>omega)) rfl fn_169 ⟨(zd rfl),trivial⟩ rfl rfl rfl ?_;refine qar ?_;refine A0 aO ?_;refine qaY ?_
 exact zap rfl rfl (zg rfl rfl rfl) (zca rfl) (zca rfl)
theorem spend_ok (p:List Coin) (t:Tx) (hp:p.length≤2000000000000):Tells P 213 [.val (bsl coinT) p,.val txT t] (.tup3 (.fresh 200 coinT (spendOf p t).1) (.val i64T (spendOf p t).2.1) (.val i64T (spendOf p t).2.2)):=by
 refine zc Tryz.func213 rfl rfl rfl (fun ext w hext=>?_)
 refine ze (d:=0) rfl zi (fun hsl0=>?_)
 refine qav ?_;refine A0 aL ?_;refine A0 aV ?_;refine qai ?_;refine A0 (g_mkf (caps:=[_]) rfl rfl) ?_;refine A0 aC ?_;refine CNQQR ?_;refine A0 (oLs rfl rfl rfl ty_62) ?_;refine A0 (oCl (may_ok _) rfl fn_212 ⟨(zd rfl),trivial⟩) ?_;refine A0 oN ?_;refine qar ?_;refine zaa (d:=21) (p:=¬mayCoins p=true) rfl (by simp) (fun g21=>?_) (fun g21=>?_)
 ·
  refine qac ?_;refine qak ?_;refine CN ?_;refine Ct ?_;refine qce ?_;refine zea (As:=[_]) (Cs:=[_]) (spendFail p _ hp) rfl rfl fn_238 ⟨(zd rfl),trivial⟩ (by intro n hn;simp only [List.mem_cons,List.not_mem_nil,or_false] at hn;rcases hn with rfl<;>exact ⟨_,_,_,_,rfl⟩) ⟨(by exact za4 rfl),trivial⟩ zar zar rfl rfl rfl ?_;refine A0 (by first|exact zW rfl rfl|exact zU rfl rfl) ?_;refine A0 (by first|exact zY rfl rfl|exact zX rfl rfl) ?_;refine qb9 ?_
  have hS:spendOf p t=(p,0,1):=by unfold spendOf;rw [if_pos (fun h=>g21 h.1)]
  exact zap rfl rfl (zg rfl rfl (by rw [hS])) (za rfl (by rw [hS])) (za rfl (by rw [hS]))
 ·
  refine A1 (oLs rfl rfl rfl ty_140) ?_;refine A1 (oCl (mayTx_ok _) rfl fn_214 ⟨(zd rfl),trivial⟩) ?_;refine A1 oN ?_;refine qaw ?_;refine zaa (d:=26) (p:=¬mayTx t=true) rfl (by simp) (fun g26=>?_) (fun g26=>?_)
  ·
   refine qaJ ?_;refine qaq ?_;refine Ct ?_;refine qce ?_;refine zea (As:=[_]) (Cs:=[_]) (spendFail p _ hp) rfl rfl fn_238 ⟨(zd rfl),trivial⟩ (by intro n hn;simp only [List.mem_cons,List.not_mem_nil,or_false] at hn;rcases hn with rfl<;>exact ⟨_,_,_,_,rfl⟩) ⟨(by exact za4 rfl),trivial⟩ zar zar rfl rfl rfl ?_;refine A0 (by first|exact zW rfl rfl|exact zU rfl rfl) ?_;refine A0 (by first|exact zY rfl rfl|exact zX rfl rfl) ?_;refine qb9 ?_
   have hS:spendOf p t=(p,0,1):=by unfold spendOf;rw [if_pos (fun h=>g26 h.2.1)]
   exact zap rfl rfl (zg rfl rfl (by rw [hS])) (za rfl (by rw [hS])) (za rfl (by rw [hS]))
  ·
   refine A1 (oFp zbg) ?_;refine A1 (oLb zbD zda) ?_;refine A1 (zah rfl rfl zcb) ?_;refine A1 zbU ?_;refine A0 oK ?_;refine Sp (d:=31) (p:=t.ins.length=0) (fun g31=>?_) (fun g31=>?_)
   ·
    refine CN ?_;refine Ct ?_;refine qce ?_;refine zea (As:=[_]) (Cs:=[_]) (spendFail p _ hp) rfl rfl fn_238 ⟨(zd rfl),trivial⟩ (by intro n hn;simp only [List.mem_cons,List.not_mem_nil,or_false] at hn;rcases hn with rfl<;>exact ⟨_,_,_,_,rfl⟩) ⟨(by exact za4 rfl),trivial⟩ zar zar rfl rfl rfl ?_;refine A0 (by first|exact zW rfl rfl|exact zU rfl rfl) ?_;refine A0 (by first|exact zY rfl rfl|exact zX rfl rfl) ?_;refine qb9 ?_
    have hS:spendOf p t=(p,0,1):=by unfold spendOf;rw [if_pos (fun h=>h.2.2 (List.length_eq_zero_iff.1 g31))]
    exact zap rfl rfl (zg rfl rfl (by rw [hS])) (za rfl (by rw [hS])) (za rfl (by rw [hS]))
   ·
    have hmp:=Classical.not_not.1 g21
    have hmt:=Classical.not_not.1 g26
    have hpl:=zbV hmp
    have hne:t.ins≠[]:=fun e=>g31 (by rw [e];rfl)
    refine CN ?_;refine Cg ?_;refine CSQR ?_;refine A0 (oLs rfl rfl rfl ty_62) ?_;refine zaE (cloneCoin p (by constructor<;>omega)) rfl fn_169 ⟨(zd rfl),trivial⟩ rfl rfl rfl ?_;refine A0 aO ?_;refine CNQR ?_;refine qbB ?_;refine qa1 ?_;refine qaI ?_
    refine Lp (ι:=Nat×List Coin×Int) 3 (fun (i:Nat×List Coin×Int)=>match i with|(k,rest,n)=>((((((((Fr.none).set 2 (.ptr 0 0)).set 3 (.ptr 1 0)).set 7 (.clo 238 [0])).set 8 (.own 2)).set 9 (.val i64T n)).set 40 (.val (sl inT) t.ins)).set 41 (.val i64T (t.ins.length:Int))).set 42 (.val i64T (k:Int))) (fun (i:Nat×List Coin×Int)=>match i with|(k,rest,n)=>(((Hp.none).set 0 (.box 62 (bsl coinT) p)).set 1 (.box 140 txT t)).set 2 (.row 200 coinT rest)) (fun (i:Nat×List Coin×Int)=>match i with|(k,rest,n)=>k≤t.ins.length∧Sorted rest∧rest.length≤48∧takeIns p 0 t.ins=takeIns rest n (t.ins.drop k)) (fun (i:Nat×List Coin×Int)=>match i with|(k,rest,n)=>t.ins.length-k) ((0,p,0)) (⟨Nat.zero_le _,(zO.1 hmp).2.1,hpl,rfl⟩) ?_
    intro ⟨k,rest,n⟩ hinv
    dsimp only at hinv
    refine ze (d:=40) rfl zi (fun hsi=>?_)
    refine qao ?_;refine Cf (p:=k<t.ins.length) (fun ht43=>?_) (fun ht43=>?_)
    ·
     obtain ⟨x,hx⟩:∃x,t.ins[k]?=some x:=⟨_,List.getElem?_eq_getElem ht43⟩
     refine CSQBQR ?_;refine qbU ?_;refine zh rfl rfl rfl rfl rfl (Lens.self _) zbi rfl ?_;refine CNQR ?_;refine A0 mO ?_;refine A0 (oLs rfl rfl rfl zbi) ?_;refine A0 (oCl (place_ok rest x (by omega)) rfl fn_239 ⟨(zy rfl rfl),(zd rfl),trivial⟩) ?_;refine A0 mX ?_;refine A0 (by first|exact zW rfl rfl|exact zU rfl rfl) ?_;refine A0 (by first|exact zY rfl rfl|exact zX rfl rfl) ?_;refine A0 aV ?_;refine qah ?_;refine qaE ?_;refine zj (p:=¬isThere rest x=true) rfl (by simp) (fun ht53=>?_) (fun ht53=>?_)
     ·
      refine qce ?_;refine zea (As:=[_]) (Cs:=[_]) (spendFail p _ hp) rfl rfl fn_238 ⟨(zd rfl),trivial⟩ (by intro n hn;simp only [List.mem_cons,List.not_mem_nil,or_false] at hn;rcases hn with rfl<;>exact ⟨_,_,_,_,rfl⟩) ⟨(by exact za4 rfl),trivial⟩ zar zar rfl rfl rfl ?_;refine A0 (by first|exact zW rfl rfl|exact zU rfl rfl) ?_;refine A0 (by first|exact zY rfl rfl|exact zX rfl rfl) ?_;refine qb9 ?_
      have hS:spendOf p t=(p,0,8):=by unfold spendOf;rw [if_neg (Classical.not_not.2 ⟨hmp,hmt,hne⟩)];rw [hinv.2.2.2,takeIns_stop hx ht53]
      exact zap rfl rfl (zg rfl rfl (by rw [hS])) (za rfl (by rw [hS])) (za rfl (by rw [hS]))
     ·
      obtain ⟨c,hc,h0⟩:=isThere_at (Classical.not_not.1 ht53)
      have hlt:placeOf rest x<rest.length:=(List.getElem?_eq_some_iff.1 hc).1
      refine qbG ?_;refine A0 mO ?_;refine qar ?_;refine A0 (zas (i:=placeOf rest x) rfl rfl rfl rfl (by first|omega|rfl) zcP (by first|assumption|omega|(simp;omega))) ?_;refine A0 (g_fa_e rfl rfl zcB rfl) ?_;refine A0 (g_fa_e rfl rfl zbL rfl) ?_;refine A0 (zT rfl rfl rfl rfl (by assumption) (zbq.comp zcI) ty_3) ?_;refine A0 zaG ?_;refine qb2 ?_;refine A0 mO ?_;refine qag ?_;refine A0 zaG ?_
      refine aw_callc (delete_ok rest (placeOf rest x) hlt) rfl fn_240 rfl trivial ⟨(by first|exact zbz rfl|exact zby rfl|exact zaS rfl|exact zbC rfl|exact zbA rfl|exact zbB rfl|exact zbx rfl rfl (by decide)),(by first|exact zbz rfl|exact zby rfl|exact zaS rfl|exact zbC rfl|exact zbA rfl|exact zbB rfl|exact zbx rfl rfl (by decide)),(by first|exact zbz rfl|exact zby rfl|exact zaS rfl|exact zbC rfl|exact zbA rfl|exact zbB rfl|exact zbx rfl rfl (by decide)),trivial⟩ rfl rfl rfl ?_;refine A0 aO ?_
      refine qbw ?_;refine zaB 4 2 5 rfl rfl rfl rfl rfl rfl ?_
      exact Nx ((k+1,rest.take (placeOf rest x)++rest.drop (placeOf rest x+1),IntKind.i64.wrap (n+c.out.v))) (⟨by omega,del_sorted _ hinv.2.1,by simp;omega,hinv.2.2.2.trans (takeIns_step hx hc h0)⟩) (by show _<t.ins.length-k;simp only [];omega)
    ·
     obtain rfl:k=t.ins.length:=(by omega)
     have htk:takeIns p 0 t.ins=some (rest,n):=by rw [hinv.2.2.2,List.drop_of_length_le (Nat.le_refl _)];rfl
     refine CE ?_;refine qa2 ?_;refine qbd ?_;refine A0 (oCl (outs_ok _) rfl fn_216 ⟨(zd rfl),trivial⟩) ?_;refine A0 zay ?_;refine qah ?_;refine qaz ?_;refine Cf (p:=IntKind.i64.wrap (n-worthF (·.v) t.outs)<0) (fun ht78=>?_) (fun ht78=>?_)
     ·
      refine qce ?_;refine zea (As:=[_]) (Cs:=[_]) (spendFail p _ hp) rfl rfl fn_238 ⟨(zd rfl),trivial⟩ (by intro n hn;simp only [List.mem_cons,List.not_mem_nil,or_false] at hn;rcases hn with rfl<;>exact ⟨_,_,_,_,rfl⟩) ⟨(by exact za4 rfl),trivial⟩ zar zar rfl rfl rfl ?_;refine A0 (by first|exact zW rfl rfl|exact zU rfl rfl) ?_;refine A0 (by first|exact zY rfl rfl|exact zX rfl rfl) ?_;refine qb9 ?_
      have hS:spendOf p t=(p,0,8):=by unfold spendOf;rw [if_neg (Classical.not_not.2 ⟨hmp,hmt,hne⟩)];rw [htk];exact if_pos ht78
      exact zap rfl rfl (zg rfl rfl (by rw [hS])) (za rfl (by rw [hS])) (za rfl (by rw [hS]))
     ·
      refine CSQR ?_;refine A0 mO ?_;refine qbd ?_;refine aw_callc2 (made_ok rest t (by omega) (zci hmt).2.2 (apart_new (Sorted.apart hinv.2.1))) rfl fn_215 rfl trivial zar ⟨(by first|exact zbz rfl|exact zby rfl|exact zaS rfl|exact zbC rfl|exact zbA rfl|exact zbB rfl|exact zbx rfl rfl (by decide)),(by first|exact zbz rfl|exact zby rfl|exact zaS rfl|exact zbC rfl|exact zbA rfl|exact zbB rfl|exact zbx rfl rfl (by decide)),trivial⟩ rfl rfl rfl ?_
      refine A0 (by first|exact zeR (.inl rfl) rfl|exact zeQ (.inl rfl) rfl) ?_;refine A0 (by first|exact zW rfl rfl|exact zU rfl rfl) ?_;refine A0 (by first|exact zY rfl rfl|exact zX rfl rfl) ?_;refine A0 aO ?_;refine A0 aX ?_;refine CNQQR ?_;refine A0 mX ?_;refine A0 zbU ?_;refine qar ?_;refine Sp (d:=92) (p:=(madeOf rest t).2=0) (fun g92=>?_) (fun g92=>?_)
      ·
       refine A1 mO ?_;refine A1 (zaY rfl rfl rfl isl_62) ?_;refine A1 zbb ?_;refine A0 oK ?_;refine Sp (d:=96) (p:=48<(madeOf rest t).1.length) (fun g96=>?_) (fun g96=>?_)
       ·
        refine CN ?_;refine Ct ?_;refine CR ?_;refine qah ?_;refine qaB ?_;refine Ct ?_;refine qce ?_;refine qar ?_;refine zea (As:=[_]) (Cs:=[_]) (spendFail p _ hp) rfl rfl fn_238 ⟨(zd rfl),trivial⟩ (by intro n hn;simp only [List.mem_cons,List.not_mem_nil,or_false] at hn;rcases hn with rfl<;>exact ⟨_,_,_,_,rfl⟩) ⟨(by exact za4 rfl),trivial⟩ zar zar rfl rfl rfl ?_;refine A0 (by first|exact zW rfl rfl|exact zU rfl rfl) ?_;refine A0 (by first|exact zY rfl rfl|exact zX rfl rfl) ?_;refine qb9 ?_
        have hS:spendOf p t=(p,0,11):=by unfold spendOf;rw [if_neg (Classical.not_not.2 ⟨hmp,hmt,hne⟩)];rw [htk];simp only [if_neg ht78,if_pos g92,if_pos g96]
        exact zap rfl rfl (zg rfl rfl (by rw [hS])) (za rfl (by rw [hS])) (za rfl (by rw [hS]))
       ·
        refine CN ?_;refine Cg ?_;refine CSQQR ?_;refine A0 mX ?_;refine qaB ?_;refine zeG rfl (by simp [IntL.toI,g92]) ?_;refine CSQR ?_;refine A0 mO ?_;refine qar ?_;refine A0 aO ?_;refine qaY ?_
        have hS:spendOf p t=((madeOf rest t).1,IntKind.i64.wrap (n-worthF (·.v) t.outs),0):=by unfold spendOf;rw [if_neg (Classical.not_not.2 ⟨hmp,hmt,hne⟩)];rw [htk];simp only [if_neg ht78,if_pos g92,if_neg g96]
        exact zap rfl rfl (zg rfl rfl (by rw [hS])) (za rfl (by rw [hS])) (za rfl (by rw [hS]))
      ·
       refine qbA ?_;refine Cg ?_;refine CSQQR ?_;refine A0 mX ?_;refine qaB ?_;refine aw_if_t rfl (by simp [IntL.toI,g92]) ?_;refine qce ?_;refine A0 mX ?_;refine zea (As:=[_]) (Cs:=[_]) (spendFail p _ hp) rfl rfl fn_238 ⟨(by first|exact zq rfl|exact zC rfl|exact zy rfl rfl|exact zA rfl|exact zr rfl|exact zL rfl rfl|exact zB rfl),trivial⟩ (by intro n hn;simp only [List.mem_cons,List.not_mem_nil,or_false] at hn;rcases hn with rfl<;>exact ⟨_,_,_,_,rfl⟩) ⟨(by exact za4 rfl),trivial⟩ zar zar rfl rfl rfl ?_
       refine A0 (by first|exact zW rfl rfl|exact zU rfl rfl) ?_;refine A0 (by first|exact zY rfl rfl|exact zX rfl rfl) ?_;refine qb9 ?_
       have hS:spendOf p t=(p,0,(madeOf rest t).2):=by unfold spendOf;rw [if_neg (Classical.not_not.2 ⟨hmp,hmt,hne⟩)];rw [htk];simp only [if_neg ht78,if_neg g92]
       exact zap rfl rfl (zg rfl rfl (by rw [hS])) (za rfl (by rw [hS])) (za rfl (by rw [hS]))
set_option maxRecDepth 20000
theorem leC_trans (a b c:Coin) (h:decide (ordIn a.inn b.inn≤0)=true) (k:decide (ordIn b.inn c.inn≤0)=true):decide (ordIn a.inn c.inn≤0)=true:=by
  simp only [decide_eq_true_eq] at *
  by_cases h0:ordIn a.inn b.inn=0
  · rw [zbm.1 h0];exact k
  · by_cases k0:ordIn b.inn c.inn=0
    · rw [←zbm.1 k0];exact h
    · have:=zdg (a:=a.inn) (b:=b.inn) (c:=c.inn) (by omega) (by omega)
      omega
theorem leC_total (a b:Coin):(decide (ordIn a.inn b.inn≤0)||decide (ordIn b.inn a.inn≤0))=true:=by
  have:=zbr a.inn b.inn
  simp only [Bool.or_eq_true,decide_eq_true_eq]
  omega
theorem sortC_perm (l:List Coin):(sortC l).Perm l:=List.mergeSort_perm l _
theorem sortC_sorted {l:List Coin} (h:Apart l):Sorted (sortC l):=by
  have h1:(sortC l).Pairwise fun a b=>decide (ordIn a.inn b.inn≤0)=true:=List.pairwise_mergeSort leC_trans leC_total l
  have h2:Apart (sortC l):=((sortC_perm l).pairwise_iff (R:=fun a b:Coin=>ordIn a.inn b.inn≠0) (fun {a b} h=>by have:=zbr a.inn b.inn;omega)).2 h
  unfold Sorted Apart at *
  refine List.Pairwise.imp₂ (fun a b h1 h2=>?_) h1 h2
  have:=of_decide_eq_true h1
  omega
theorem txOuts_ok {t:Tx} (h:mayTx t=true):∀o∈t.outs,outOdd o=false:=fun o ho=>by
  unfold mayTx at h
  simp only [Bool.and_eq_true,Bool.not_eq_true'] at h
  have:=List.any_eq_false.1 h.2.2.2.2 o ho
  simpa using this
theorem newN_ok {t:Tx} {id:Ab.Id} {k:Nat} (h:mayTx t=true):∀c∈newN id t.outs k,coinOk c=true:=fun c hc=>by
  unfold newN at hc
  obtain ⟨⟨o,i⟩,hx,rfl⟩:=List.mem_map.1 hc
  have hi:=List.mk_mem_zipIdx_iff_getElem?.1 hx
  have hlt:=(List.getElem?_eq_some_iff.1 hi).1
  have ho:o∈t.outs:=List.mem_of_mem_take (List.mem_of_getElem? hi)
  have h1:=txOuts_ok h o ho
  have h3:=(zci h).2.2
  rw [List.length_take] at hlt
  unfold outOdd at h1
  have h1:=of_decide_eq_false h1
  unfold coinOk
  apply decide_eq_true
  simp only []
  omega
theorem madeOf_good {p:List Coin} {t:Tx} (hp:∀c∈p,coinOk c=true) (hs:Sorted p) (ht:mayTx t=true):(∀c∈(madeOf p t).1,coinOk c=true)∧Sorted (madeOf p t).1:=by
  unfold madeOf
  split
  · exact ⟨fun c hc=>absurd hc (List.not_mem_nil),List.Pairwise.nil⟩
  · rename_i h
    have h:(p.any fun c=>decide (c.inn.tx=idOf t))=false:=by simpa using h
    refine ⟨fun c hc=>?_,sortC_sorted (apart_new (Sorted.apart hs) h)⟩
    have:=(sortC_perm _).mem_iff.1 hc
    rcases List.mem_append.1 this with h|h
    · exact hp c h
    · exact newN_ok ht c h
theorem zdr:∀{ins:List In} {p rest:List Coin} {n m:Int},takeIns p n ins=some (rest,m)→rest.Sublist p
  | [],p,rest,n,m,h=>by
    rw [takeIns.eq_1] at h
    injection h with h;injection h with h _;subst h;exact List.Sublist.refl _
  | x::ins,p,rest,n,m,h=>by
    rw [takeIns.eq_2] at h
    split at h
    · cases h
    · split at h
      · have:=zdr h
        refine this.trans ?_
        rw [←List.eraseIdx_eq_take_drop_succ]
        exact List.eraseIdx_sublist _ _
      · cases h
theorem zdc {p:List Coin} {t:Tx} (h:mayCoins p=true):mayCoins (spendOf p t).1=true:=by
  obtain ⟨h1,h2,h3⟩:=zO.1 h
  unfold spendOf
  split
  · exact h
  · rename_i hn
    have hn:=Classical.not_not.1 hn
    split
    · exact h
    · rename_i rest n hrest
      have hsub:=zdr hrest
      split
      · exact h
      · split
        · split
          · exact h
          · rename_i hl
            have hg:=madeOf_good (p:=rest) (fun c hc=>h1 c (hsub.subset hc)) (h2.sublist hsub) hn.2.1
            exact zO.2 ⟨hg.1,hg.2,Nat.le_of_not_lt hl⟩
        · exact h
set_option maxRecDepth 20000
def runTxs:List Coin→Int→List Tx→Sum Int (List Coin×Int)
  | out,room,[]=>.inr (out,room)
  | out,room,t::l=>if (spendOf out t).2.2=0 then runTxs (spendOf out t).1 (IntKind.i64.wrap (room+(spendOf out t).2.1)) l else .inl (spendOf out t).2.2
def isFirst (l:List Tx):Bool:=match l with | []=>false|t::_=>decide (t.ins.length=0)
theorem isFirst_at {l:List Tx} {t:Tx} (h:l[0]?=some t):isFirst l=decide (t.ins.length=0):=by
  cases l with
  | nil=>simp at h
  | cons a m=>simp at h;subst h;rfl
theorem zfe {l:List Tx} (h:¬0<l.length):isFirst l=false:=by
  cases l with
  | nil=>rfl
  | cons a m=>simp at h
def remTxs (l:List Tx) (k:Nat):List Tx:=if isFirst l=true∧k=0 then l.drop 1 else l.drop k
def applyOf (p:List Coin) (l:List Tx):List Coin×Int :=
  if ¬mayCoins p=true then (p,1) else if 4<l.length then (p,3) else
  match runTxs p 50 (remTxs l 0) with
  | .inl e=>(p,e)
  | .inr (out,room)=>match (if isFirst l=true then l[0]? else none) with
    | none=>(out,0)
    | some t=>if ¬mayTx t=true then (p,1) else if ¬(madeOf out t).2=0 then (p,(madeOf out t).2) else if room<worthF (·.v) t.outs then (p,8) else if 48<(madeOf out t).1.length then (p,11) else ((madeOf out t).1,0)
theorem zdY {out:List Coin} {room:Int} {l:List Tx} {k:Nat} {t:Tx} (hk:¬(isFirst l=true∧k=0)) (hx:l[k]?=some t) (h:(spendOf out t).2.2=0):runTxs out room (remTxs l k)=runTxs (spendOf out t).1 (IntKind.i64.wrap (room+(spendOf out t).2.1)) (remTxs l (k+1)):=by
  obtain ⟨hlt,rfl⟩:=List.getElem?_eq_some_iff.1 hx
  unfold remTxs
  rw [if_neg hk,if_neg (by omega),List.drop_eq_getElem_cons hlt,runTxs.eq_2,if_pos h]
theorem ze6 {out:List Coin} {room:Int} {l:List Tx} {k:Nat} {t:Tx} (hk:¬(isFirst l=true∧k=0)) (hx:l[k]?=some t) (h:¬(spendOf out t).2.2=0):runTxs out room (remTxs l k) = .inl (spendOf out t).2.2:=by
  obtain ⟨hlt,rfl⟩:=List.getElem?_eq_some_iff.1 hx
  unfold remTxs
  rw [if_neg hk,List.drop_eq_getElem_cons hlt,runTxs.eq_2,if_neg h]
theorem zcK {l:List Tx} (h:isFirst l=true):remTxs l 0=remTxs l 1:=by
  unfold remTxs
  rw [if_pos ⟨h,rfl⟩,if_neg (by omega)]
theorem remTxs_end {l:List Tx} (k:Nat) (h:l.length≤k):remTxs l k=[]:=by
  unfold remTxs
  split
  · exact List.drop_of_length_le (by omega)
  · exact List.drop_of_length_le h
theorem applyFail (p:List Coin) (e:Int) (hp:p.length≤2000000000000):Tells P 211 [.val i64T e,.rptr (bsl coinT) p] (.tup2 (.fresh 200 coinT p) (.val i64T e)):=by
 refine zc Tryz.func211 rfl rfl rfl (fun ext w hext=>?_)
 refine ze (d:=0) rfl zQ (fun hin0=>?_)
 refine qay ?_;refine qai ?_;refine A0 (zf rfl rfl ty_62) ?_;refine zaE (cloneCoin p (by constructor<;>omega)) rfl fn_169 ⟨(zd rfl),trivial⟩ rfl rfl rfl ?_;refine qar ?_;refine A0 aO ?_;refine qab ?_
 exact z7 rfl rfl (zg rfl rfl rfl) (zca rfl)
theorem apply_ok (p:List Coin) (l:List Tx) (hp:p.length≤2000000000000):Tells P 168 [.val (bsl coinT) p,.val (bsl txT) l] (.tup2 (.fresh 200 coinT (applyOf p l).1) (.val i64T (applyOf p l).2)):=by
 refine zc Tryz.func168 rfl rfl rfl (fun ext w hext=>?_)
 refine ze (d:=0) rfl zi (fun hsl0=>?_)
 refine ze (d:=1) rfl zi (fun hsl1=>?_)
 refine qbi ?_;refine qai ?_;refine A0 (g_mkf (caps:=[_]) rfl rfl) ?_;refine A0 aC ?_;refine CNQ ?_;refine CB ?_;refine CQR ?_;refine A0 (oLs rfl rfl rfl ty_62) ?_;refine A0 (oCl (may_ok _) rfl fn_212 ⟨(zd rfl),trivial⟩) ?_;refine A0 oN ?_;refine qab ?_;refine zj (p:=¬mayCoins p=true) rfl (by simp) (fun ht17=>?_) (fun ht17=>?_)
 ·
  refine qce ?_;refine zdB (As:=[_]) (Cs:=[_]) (applyFail p _ hp) rfl rfl fn_211 ⟨(zd rfl),trivial⟩ (by intro n hn;simp only [List.mem_cons,List.not_mem_nil,or_false] at hn;rcases hn with rfl<;>exact ⟨_,_,_,_,rfl⟩) ⟨(by exact za4 rfl),trivial⟩ zar rfl rfl rfl ?_;refine A0 (by first|exact zW rfl rfl|exact zU rfl rfl) ?_;refine A0 (by first|exact zY rfl rfl|exact zX rfl rfl) ?_;refine A0 aO ?_;refine qaV ?_
  have hS:applyOf p l=(p,1):=by unfold applyOf;rw [if_pos ht17]
  exact z7 rfl rfl (zg rfl rfl (by rw [hS])) (za rfl (by rw [hS]))
 ·
  have hmp:=Classical.not_not.1 ht17
  have hpl:=zbV hmp
  refine qa2 ?_;refine qbq ?_;refine A0 zbb ?_;refine qab ?_;refine Cf (p:=4<l.length) (fun ht25=>?_) (fun ht25=>?_)
  ·
   refine qce ?_;refine zdB (As:=[_]) (Cs:=[_]) (applyFail p _ hp) rfl rfl fn_211 ⟨(zd rfl),trivial⟩ (by intro n hn;simp only [List.mem_cons,List.not_mem_nil,or_false] at hn;rcases hn with rfl<;>exact ⟨_,_,_,_,rfl⟩) ⟨(by exact za4 rfl),trivial⟩ zar rfl rfl rfl ?_;refine A0 (by first|exact zW rfl rfl|exact zU rfl rfl) ?_;refine A0 (by first|exact zY rfl rfl|exact zX rfl rfl) ?_;refine A0 aO ?_;refine qaV ?_
   have hS:applyOf p l=(p,3):=by unfold applyOf;rw [if_neg (Classical.not_not.2 hmp),if_pos ht25]
   exact z7 rfl rfl (zg rfl rfl (by rw [hS])) (za rfl (by rw [hS]))
  ·
   refine CS ?_;refine CI ?_;refine CQR ?_;refine A0 (oLs rfl rfl rfl ty_62) ?_;refine zaE (cloneCoin p (by constructor<;>omega)) rfl fn_169 ⟨(zd rfl),trivial⟩ rfl rfl rfl ?_;refine A0 aO ?_;refine qa7 ?_;refine qbq ?_;refine A0 zbb ?_;refine qar ?_;refine Sp (d:=38) (p:=0<l.length) (fun g38=>?_) (fun g38=>?_)
   ·
    obtain ⟨t0,ht0⟩:∃t0,l[0]?=some t0:=⟨_,List.getElem?_eq_getElem g38⟩
    refine A1 mV ?_;refine A1 (zm (i:=0) rfl rfl rfl (by omega) zec (by assumption)) ?_;refine A1 (oFr zbg zbD) ?_;refine A1 (zf rfl rfl zda) ?_;refine A1 (by first|exact zah rfl rfl zcb|exact zaY rfl rfl rfl zcb|exact zbu rfl rfl zcb) ?_;refine A1 zbU ?_;refine A0 oK ?_;refine zp (d:=45) (y:=isFirst l) rfl (by first|(rw [isFirst_at ht0,decide_eq_decide];simp only [IntL.toI,id_eq];omega)|exact (zfe g38).symm) ?_;refine qah ?_;refine qbq ?_;refine qaI ?_
    refine Lp (ι:=Nat×List Coin×Int) 2 (fun (i:Nat×List Coin×Int)=>match i with|(k,out,room)=>(((((((((Fr.none).set 1 (.val (bsl txT) l)).set 2 (.ptr 0 0)).set 6 (.clo 211 [0])).set 7 (.own 1)).set 8 (.val i64T room)).set 9 (.val boolT (isFirst l))).set 46 (.val (bsl txT) l)).set 47 (.val i64T (l.length:Int))).set 48 (.val i64T (k:Int))) (fun (i:Nat×List Coin×Int)=>match i with|(k,out,room)=>((Hp.none).set 0 (.box 62 (bsl coinT) p)).set 1 (.row 200 coinT out)) (fun (i:Nat×List Coin×Int)=>match i with|(k,out,room)=>k≤l.length∧mayCoins out=true∧runTxs p 50 (remTxs l 0)=runTxs out room (remTxs l k)) (fun (i:Nat×List Coin×Int)=>match i with|(k,out,room)=>l.length-k) ((0,p,50)) (⟨Nat.zero_le _,hmp,rfl⟩) ?_
    intro ⟨k,out,room⟩ hinv
    dsimp only at hinv
    have hol:=zbV hinv.2.1
    refine qao ?_;refine Cf (p:=k<l.length) (fun ht49=>?_) (fun ht49=>?_)
    ·
     obtain ⟨t,hx⟩:∃t,l[k]?=some t:=⟨_,List.getElem?_eq_getElem ht49⟩
     refine qaL ?_;refine qaU ?_;refine A0 aV ?_;refine qbN ?_;refine qbb ?_;refine A0 zbU ?_;refine qar ?_;refine Sp (d:=55) (p:=k=0) (fun g55=>?_) (fun g55=>?_)
     ·
      refine A1 mV ?_;refine A0 oK ?_;refine zaa (d:=57) (p:=isFirst l=true) rfl (by simp) (fun g57=>?_) (fun g57=>?_)
      ·
       refine CN ?_;refine Ct ?_;refine CE ?_;refine CR ?_;refine qal ?_
       exact Nx ((k+1,out,room)) (by first|exact ⟨by omega,hinv.2.1,by rw [hinv.2.2,g55,zcK g57]⟩|exact ⟨by omega,zdc hinv.2.1,hinv.2.2.trans (zdY (fun h=>by first|exact g57 h.1|exact g55 h.2) hx (Classical.not_not.1 ht66))⟩) (by show _<l.length-k;simp only [];omega)
      ·
       refine CN ?_;refine Cg ?_;refine CSQR ?_;refine A0 mO ?_;refine qbd ?_;refine aw_callf3 (spend_ok out t (by omega)) rfl fn_213 ⟨(zy rfl rfl),(zd rfl),trivial⟩ zar zar rfl rfl rfl ?_;refine A0 (by first|exact zeR (.inl rfl) rfl|exact zeQ (.inl rfl) rfl) ?_;refine A0 (by first|exact zW rfl rfl|exact zU rfl rfl) ?_;refine A0 (by first|exact zY rfl rfl|exact zX rfl rfl) ?_;refine A0 e32 ?_;refine A0 aO ?_;refine qbc ?_;refine zj (p:=¬(spendOf out t).2.2=0) rfl (by simp [IntL.toI]) (fun ht66=>?_) (fun ht66=>?_)
       ·
        refine qce ?_;refine A0 mX ?_;refine zdB (As:=[_]) (Cs:=[_]) (applyFail p _ hp) rfl rfl fn_211 ⟨(by first|exact zq rfl|exact zC rfl|exact zy rfl rfl|exact zA rfl|exact zr rfl|exact zL rfl rfl|exact zB rfl),trivial⟩ (by intro n hn;simp only [List.mem_cons,List.not_mem_nil,or_false] at hn;rcases hn with rfl<;>exact ⟨_,_,_,_,rfl⟩) ⟨(by exact za4 rfl),trivial⟩ zar rfl rfl rfl ?_;refine A0 (by first|exact zW rfl rfl|exact zU rfl rfl) ?_;refine A0 (by first|exact zY rfl rfl|exact zX rfl rfl) ?_;refine A0 aO ?_;refine qaV ?_
        have hS:applyOf p l=(p,(spendOf out t).2.2):=by unfold applyOf;rw [if_neg (Classical.not_not.2 hmp),if_neg (show ¬4<l.length by omega)];rw [hinv.2.2,ze6 (fun h=>by first|exact g57 h.1|exact g55 h.2) hx ht66]
        exact z7 rfl rfl (zg rfl rfl (by rw [hS])) (za rfl (by rw [hS]))
       ·
        refine CSQR ?_;refine A0 mO ?_;refine A0 aO ?_;refine CNR ?_;refine qar ?_;refine A0 mX ?_;refine A0 zaG ?_;refine A0 aV ?_;refine qbw ?_;refine aw_drop 1 ?_;refine zaB 3 1 4 rfl rfl rfl rfl rfl rfl ?_
        exact Nx ((k+1,(spendOf out t).1,IntKind.i64.wrap (room+(spendOf out t).2.1))) (by first|exact ⟨by omega,hinv.2.1,by rw [hinv.2.2,g55,zcK g57]⟩|exact ⟨by omega,zdc hinv.2.1,hinv.2.2.trans (zdY (fun h=>by first|exact g57 h.1|exact g55 h.2) hx (Classical.not_not.1 ht66))⟩) (by show _<l.length-k;simp only [];omega)
     ·
      refine A2 ?_;refine qaq ?_;refine Cg ?_;refine CSQR ?_;refine A0 mO ?_;refine qbd ?_;refine aw_callf3 (spend_ok out t (by omega)) rfl fn_213 ⟨(zy rfl rfl),(zd rfl),trivial⟩ zar zar rfl rfl rfl ?_;refine A0 (by first|exact zeR (.inl rfl) rfl|exact zeQ (.inl rfl) rfl) ?_;refine A0 (by first|exact zW rfl rfl|exact zU rfl rfl) ?_;refine A0 (by first|exact zY rfl rfl|exact zX rfl rfl) ?_;refine A0 e32 ?_;refine A0 aO ?_;refine qbc ?_;refine zj (p:=¬(spendOf out t).2.2=0) rfl (by simp [IntL.toI]) (fun ht66=>?_) (fun ht66=>?_)
      ·
       refine qce ?_;refine A0 mX ?_;refine zdB (As:=[_]) (Cs:=[_]) (applyFail p _ hp) rfl rfl fn_211 ⟨(by first|exact zq rfl|exact zC rfl|exact zy rfl rfl|exact zA rfl|exact zr rfl|exact zL rfl rfl|exact zB rfl),trivial⟩ (by intro n hn;simp only [List.mem_cons,List.not_mem_nil,or_false] at hn;rcases hn with rfl<;>exact ⟨_,_,_,_,rfl⟩) ⟨(by exact za4 rfl),trivial⟩ zar rfl rfl rfl ?_;refine A0 (by first|exact zW rfl rfl|exact zU rfl rfl) ?_;refine A0 (by first|exact zY rfl rfl|exact zX rfl rfl) ?_;refine A0 aO ?_;refine qaV ?_
       have hS:applyOf p l=(p,(spendOf out t).2.2):=by unfold applyOf;rw [if_neg (Classical.not_not.2 hmp),if_neg (show ¬4<l.length by omega)];rw [hinv.2.2,ze6 (fun h=>by first|exact g57 h.1|exact g55 h.2) hx ht66]
       exact z7 rfl rfl (zg rfl rfl (by rw [hS])) (za rfl (by rw [hS]))
      ·
       refine CSQR ?_;refine A0 mO ?_;refine A0 aO ?_;refine CNR ?_;refine qar ?_;refine A0 mX ?_;refine A0 zaG ?_;refine A0 aV ?_;refine qbw ?_;refine aw_drop 1 ?_;refine zaB 3 1 4 rfl rfl rfl rfl rfl rfl ?_
       exact Nx ((k+1,(spendOf out t).1,IntKind.i64.wrap (room+(spendOf out t).2.1))) (by first|exact ⟨by omega,hinv.2.1,by rw [hinv.2.2,g55,zcK g57]⟩|exact ⟨by omega,zdc hinv.2.1,hinv.2.2.trans (zdY (fun h=>by first|exact g57 h.1|exact g55 h.2) hx (Classical.not_not.1 ht66))⟩) (by show _<l.length-k;simp only [];omega)
    ·
     have hrun:runTxs p 50 (remTxs l 0) = .inr (out,room):=by rw [hinv.2.2,remTxs_end k (by omega)];rfl
     refine CE ?_;refine qa9 ?_;refine qaE ?_;refine zj (p:=¬isFirst l=true) rfl (by simp) (fun ht78=>?_) (fun ht78=>?_)
     ·
      have hnf:=ht78
      refine CQR ?_;refine A0 mO ?_;refine A0 aO ?_;refine qab ?_
      have hS:applyOf p l=(out,0):=by unfold applyOf;rw [if_neg (Classical.not_not.2 hmp),if_neg (show ¬4<l.length by omega)];rw [hrun];simp only [if_neg ht78]
      exact z7 rfl rfl (zg rfl rfl (by rw [hS])) (za rfl (by rw [hS]))
     ·
      have hf:=Classical.not_not.1 ht78
      refine qbO ?_;refine A0 (zm (i:=0) rfl rfl rfl (by omega) zec (by assumption)) ?_;refine qbT ?_;refine A0 (oCl (mayTx_ok _) rfl fn_214 ⟨(by first|exact zq rfl|exact zC rfl|exact zy rfl rfl|exact zA rfl|exact zr rfl|exact zL rfl rfl|exact zB rfl),trivial⟩) ?_;refine qaE ?_;refine zj (p:=¬mayTx t0=true) rfl (by simp) (fun ht84=>?_) (fun ht84=>?_)
      ·
       refine qce ?_;refine zdB (As:=[_]) (Cs:=[_]) (applyFail p _ hp) rfl rfl fn_211 ⟨(zd rfl),trivial⟩ (by intro n hn;simp only [List.mem_cons,List.not_mem_nil,or_false] at hn;rcases hn with rfl<;>exact ⟨_,_,_,_,rfl⟩) ⟨(by exact za4 rfl),trivial⟩ zar rfl rfl rfl ?_;refine A0 (by first|exact zW rfl rfl|exact zU rfl rfl) ?_;refine A0 (by first|exact zY rfl rfl|exact zX rfl rfl) ?_;refine A0 aO ?_;refine qaV ?_
       have hS:applyOf p l=(p,1):=by unfold applyOf;rw [if_neg (Classical.not_not.2 hmp),if_neg (show ¬4<l.length by omega)];rw [hrun];simp only [if_pos hf,ht0];rw [if_pos ht84]
       exact z7 rfl rfl (zg rfl rfl (by rw [hS])) (za rfl (by rw [hS]))
      ·
       have hmt:=Classical.not_not.1 ht84
       refine CSQR ?_;refine A0 mO ?_;refine qar ?_;refine A0 (zm (i:=0) rfl rfl rfl (by omega) zec (by assumption)) ?_;refine qbT ?_
       refine aw_callc2 (made_ok out t0 (by omega) (zci hmt).2.2 (apart_new (Sorted.apart (zO.1 hinv.2.1).2.1))) rfl fn_215 rfl trivial zar ⟨(by first|exact zbz rfl|exact zby rfl|exact zaS rfl|exact zbC rfl|exact zbA rfl|exact zbB rfl|exact zbx rfl rfl (by decide)),(by first|exact zbz rfl|exact zby rfl|exact zaS rfl|exact zbC rfl|exact zbA rfl|exact zbB rfl|exact zbx rfl rfl (by decide)),trivial⟩ rfl rfl rfl ?_;refine A0 (by first|exact zeR (.inl rfl) rfl|exact zeQ (.inl rfl) rfl) ?_
       refine A0 (by first|exact zW rfl rfl|exact zU rfl rfl) ?_;refine A0 (by first|exact zY rfl rfl|exact zX rfl rfl) ?_;refine A0 aO ?_;refine A0 aX ?_;refine CNQ ?_;refine CB ?_;refine CQR ?_;refine A0 mX ?_;refine A0 zd2 ?_;refine qab ?_;refine zj (p:=¬(madeOf out t0).2=0) rfl (by simp [IntL.toI]) (fun ht97=>?_) (fun ht97=>?_)
       ·
        refine qce ?_;refine A0 mX ?_;refine zdB (As:=[_]) (Cs:=[_]) (applyFail p _ hp) rfl rfl fn_211 ⟨(by first|exact zq rfl|exact zC rfl|exact zy rfl rfl|exact zA rfl|exact zr rfl|exact zL rfl rfl|exact zB rfl),trivial⟩ (by intro n hn;simp only [List.mem_cons,List.not_mem_nil,or_false] at hn;rcases hn with rfl<;>exact ⟨_,_,_,_,rfl⟩) ⟨(by exact za4 rfl),trivial⟩ zar rfl rfl rfl ?_;refine A0 (by first|exact zW rfl rfl|exact zU rfl rfl) ?_;refine A0 (by first|exact zY rfl rfl|exact zX rfl rfl) ?_;refine A0 aO ?_;refine qaV ?_
        have hS:applyOf p l=(p,(madeOf out t0).2):=by unfold applyOf;rw [if_neg (Classical.not_not.2 hmp),if_neg (show ¬4<l.length by omega)];rw [hrun];simp only [if_pos hf,ht0];rw [if_neg (Classical.not_not.2 hmt),if_pos ht97]
        exact z7 rfl rfl (zg rfl rfl (by rw [hS])) (za rfl (by rw [hS]))
       ·
        refine qa2 ?_;refine A0 (zm (i:=0) rfl rfl rfl (by omega) zec (by assumption)) ?_;refine qbT ?_;refine A0 (oCl (outs_ok _) rfl fn_216 ⟨(by first|exact zq rfl|exact zC rfl|exact zy rfl rfl|exact zA rfl|exact zr rfl|exact zL rfl rfl|exact zB rfl),trivial⟩) ?_;refine qar ?_;refine A0 zbb ?_;refine qab ?_;refine Cf (p:=room<worthF (·.v) t0.outs) (fun ht105=>?_) (fun ht105=>?_)
        ·
         refine qce ?_;refine zdB (As:=[_]) (Cs:=[_]) (applyFail p _ hp) rfl rfl fn_211 ⟨(zd rfl),trivial⟩ (by intro n hn;simp only [List.mem_cons,List.not_mem_nil,or_false] at hn;rcases hn with rfl<;>exact ⟨_,_,_,_,rfl⟩) ⟨(by exact za4 rfl),trivial⟩ zar rfl rfl rfl ?_;refine A0 (by first|exact zW rfl rfl|exact zU rfl rfl) ?_;refine A0 (by first|exact zY rfl rfl|exact zX rfl rfl) ?_;refine A0 aO ?_;refine qaV ?_
         have hS:applyOf p l=(p,8):=by unfold applyOf;rw [if_neg (Classical.not_not.2 hmp),if_neg (show ¬4<l.length by omega)];rw [hrun];simp only [if_pos hf,ht0];rw [if_neg (Classical.not_not.2 hmt),if_neg ht97,if_pos ht105]
         exact z7 rfl rfl (zg rfl rfl (by rw [hS])) (za rfl (by rw [hS]))
        ·
         refine CQR ?_;refine A0 mO ?_;refine A0 (zaY rfl rfl rfl isl_62) ?_;refine A0 zbb ?_;refine qab ?_;refine Cf (p:=48<(madeOf out t0).1.length) (fun ht116=>?_) (fun ht116=>?_)
         ·
          refine qce ?_;refine zdB (As:=[_]) (Cs:=[_]) (applyFail p _ hp) rfl rfl fn_211 ⟨(zd rfl),trivial⟩ (by intro n hn;simp only [List.mem_cons,List.not_mem_nil,or_false] at hn;rcases hn with rfl<;>exact ⟨_,_,_,_,rfl⟩) ⟨(by exact za4 rfl),trivial⟩ zar rfl rfl rfl ?_;refine A0 (by first|exact zW rfl rfl|exact zU rfl rfl) ?_;refine A0 (by first|exact zY rfl rfl|exact zX rfl rfl) ?_;refine A0 aO ?_;refine qaV ?_
          have hS:applyOf p l=(p,11):=by unfold applyOf;rw [if_neg (Classical.not_not.2 hmp),if_neg (show ¬4<l.length by omega)];rw [hrun];simp only [if_pos hf,ht0];rw [if_neg (Classical.not_not.2 hmt),if_neg ht97,if_neg ht105,if_pos ht116]
          exact z7 rfl rfl (zg rfl rfl (by rw [hS])) (za rfl (by rw [hS]))
         ·
          refine CS ?_;refine CI ?_;refine CQR ?_;refine A0 mO ?_;refine A0 aO ?_;refine qab ?_
          have hS:applyOf p l=((madeOf out t0).1,0):=by unfold applyOf;rw [if_neg (Classical.not_not.2 hmp),if_neg (show ¬4<l.length by omega)];rw [hrun];simp only [if_pos hf,ht0];rw [if_neg (Classical.not_not.2 hmt),if_neg ht97,if_neg ht105,if_neg ht116]
          exact z7 rfl rfl (zg rfl rfl (by rw [hS])) (za rfl (by rw [hS]))
   ·
    refine qac ?_;refine qac ?_;refine A0 oK ?_;refine zp (d:=45) (y:=isFirst l) rfl (by first|(rw [isFirst_at ht0,decide_eq_decide];simp only [IntL.toI,id_eq];omega)|exact (zfe g38).symm) ?_;refine qah ?_;refine qbq ?_;refine qaI ?_
    refine Lp (ι:=Nat×List Coin×Int) 2 (fun (i:Nat×List Coin×Int)=>match i with|(k,out,room)=>(((((((((Fr.none).set 1 (.val (bsl txT) l)).set 2 (.ptr 0 0)).set 6 (.clo 211 [0])).set 7 (.own 1)).set 8 (.val i64T room)).set 9 (.val boolT (isFirst l))).set 46 (.val (bsl txT) l)).set 47 (.val i64T (l.length:Int))).set 48 (.val i64T (k:Int))) (fun (i:Nat×List Coin×Int)=>match i with|(k,out,room)=>((Hp.none).set 0 (.box 62 (bsl coinT) p)).set 1 (.row 200 coinT out)) (fun (i:Nat×List Coin×Int)=>match i with|(k,out,room)=>k≤l.length∧mayCoins out=true∧runTxs p 50 (remTxs l 0)=runTxs out room (remTxs l k)) (fun (i:Nat×List Coin×Int)=>match i with|(k,out,room)=>l.length-k) ((0,p,50)) (⟨Nat.zero_le _,hmp,rfl⟩) ?_
    intro ⟨k,out,room⟩ hinv
    dsimp only at hinv
    have hol:=zbV hinv.2.1
    refine qao ?_;refine Cf (p:=k<l.length) (fun ht49=>?_) (fun ht49=>?_)
    ·
     exfalso
     omega
    ·
     have hrun:runTxs p 50 (remTxs l 0) = .inr (out,room):=by rw [hinv.2.2,remTxs_end k (by omega)];rfl
     refine CE ?_;refine qa9 ?_;refine qaE ?_;refine zj (p:=¬isFirst l=true) rfl (by simp) (fun ht78=>?_) (fun ht78=>?_)
     ·
      have hnf:=ht78
      refine CQR ?_;refine A0 mO ?_;refine A0 aO ?_;refine qab ?_
      have hS:applyOf p l=(out,0):=by unfold applyOf;rw [if_neg (Classical.not_not.2 hmp),if_neg (show ¬4<l.length by omega)];rw [hrun];simp only [if_neg ht78]
      exact z7 rfl rfl (zg rfl rfl (by rw [hS])) (za rfl (by rw [hS]))
     ·
      exact absurd (Classical.not_not.1 ht78) (by rw [zfe g38];simp)
set_option maxRecDepth 20000
theorem idx_none {α:Type} {p:α→Bool}:∀{l:List α},idx p l<0→∀x∈l,p x=false
  | [],_,x,hx=>by cases hx
  | y::l,h,x,hx=>by
    unfold idx at h
    cases hy:p y with
    | true=>rw [hy] at h;simp at h
    | false =>
      rw [hy] at h
      rcases List.mem_cons.1 hx with e|hx
      · rw [e];exact hy
      · refine idx_none (l:=l) ?_ x hx
        have:=idx_ge p l
        simp at h
        split at h<;>omega
theorem idx_some {α:Type} {p:α→Bool}:∀{l:List α},0≤idx p l→∃x,l[(idx p l).toNat]?=some x∧p x=true∧∀(j:Nat) y,l[j]?=some y→p y=true→idx p l≤j
  | [],h=>by simp [idx] at h
  | y::l,h=>by
    cases hy:p y with
    | true =>
      have e:idx p (y::l)=0:=by unfold idx;rw [hy];simp
      rw [e]
      exact ⟨y,rfl,hy,fun j z _ _=>by omega⟩
    | false =>
      by_cases h0:0≤idx p l
      · have e : idx p (y :: l) = idx p l + 1 := by
          conv=>lhs;unfold idx
          rw [hy];simp;omega
        obtain ⟨x,h1,h2,h3⟩:=idx_some h0
        refine ⟨x,?_,h2,fun j z hj hz=>?_⟩
        · rw [e,show (idx p l+1).toNat=(idx p l).toNat+1 by omega];exact h1
        · cases j with
          | zero=>simp at hj;subst hj;rw [hy] at hz;cases hz
          | succ j=>have:=h3 j z (by simpa using hj) hz;rw [e];omega
      · exfalso
        have:=idx_ge p l
        have e:idx p (y::l) = -1:=by
          conv=>lhs;unfold idx
          rw [hy];simp;omega
        omega
theorem idx_lt {α:Type} {p:α→Bool} {l:List α}:idx p l<l.length∨l=[]:=by
  by_cases h:0≤idx p l
  · obtain ⟨x,hx,_⟩:=idx_some h
    have:=(List.getElem?_eq_some_iff.1 hx).1
    left;omega
  · cases l with
    | nil=>right;rfl
    | cons a l=>left;simp;omega
def findC (p:List Coin) (x:In):Int:=idx (fun c=>decide (c.inn=x)) p
theorem findC_ge (p:List Coin) (x:In):-1≤findC p x:=idx_ge _ _
theorem findC_some {p:List Coin} {x:In} (h:0≤findC p x):∃c,p[(findC p x).toNat]?=some c∧c.inn=x∧∀(j:Nat) y,p[j]?=some y→y.inn=x→findC p x≤j:=by
  obtain ⟨c,h1,h2,h3⟩:=idx_some h
  exact ⟨c,h1,of_decide_eq_true h2,fun j y hj hy=>h3 j y hj (decide_eq_true hy)⟩
theorem findC_none {p:List Coin} {x:In} (h:findC p x<0):∀c∈p,c.inn≠x:=fun c hc e=>by
  have:=idx_none h c hc
  simp [e] at this
def tot {α:Type} (f:α→Int):List α→Int
  | []=>0
  | x::l=>f x+tot f l
theorem tot_append {α:Type} {f:α→Int}:∀{l m:List α},tot f (l++m)=tot f l+tot f m
  | [],m=>by simp [tot]
  | x::l,m=>by rw [List.cons_append,tot,tot,tot_append];omega
theorem tot_perm {α:Type} {f:α→Int} {l m:List α} (h:l.Perm m):tot f l=tot f m:=by
  induction h with
  | nil=>rfl
  | cons x _ ih=>rw [tot,tot,ih]
  | swap x y l=>simp only [tot];omega
  | trans _ _ h1 h2=>exact h1.trans h2
theorem tot_del {α:Type} {f:α→Int} {x:α}:∀{l:List α} {i:Nat},l[i]?=some x→tot f (l.take i++l.drop (i+1))+f x=tot f l
  | [],i,h=>by simp at h
  | y::l,0,h=>by simp at h;subst h;simp [tot];omega
  | y::l,i+1,h=>by
    have:=tot_del (f:=f) (l:=l) (i:=i) (by simpa using h)
    simp only [List.take_succ_cons,List.drop_succ_cons,List.cons_append,tot]
    omega
theorem tot_pos {α:Type} {f:α→Int}:∀{l:List α},(∀x∈l,0≤f x)→0≤tot f l
  | [],_=>Int.le_refl _
  | x::l,h=>by
    have:=tot_pos (f:=f) (l:=l) fun y hy=>h y (List.mem_cons_of_mem _ hy)
    have:=h x List.mem_cons_self
    rw [tot];omega
theorem tot_le {α:Type} {f:α→Int} {M:Int}:∀{l:List α},(∀x∈l,f x≤M)→tot f l≤M*l.length
  | [],_=>by simp [tot]
  | x::l,h=>by
    have:=tot_le (f:=f) (M:=M) (l:=l) fun y hy=>h y (List.mem_cons_of_mem _ hy)
    have:=h x List.mem_cons_self
    rw [tot,List.length_cons,Int.natCast_add,Int.mul_add];omega
theorem fold_tot {α:Type} {f:α→Int} {M:Int} (hM:0≤M):∀{l:List α} {n:Int},(∀x∈l,0≤f x∧f x≤M)→0≤n→n+M*l.length≤9223372036854775807→l.foldl (fun n x=>IntKind.i64.wrap (n+f x)) n=n+tot f l
  | [],n,_,_,_=>by simp [tot]
  | x::l,n,h,h0,h1=>by
    have hx:=h x List.mem_cons_self
    rw [List.length_cons,Int.natCast_add,Int.mul_add] at h1
    have h2:0≤M*l.length:=Int.mul_nonneg hM (Int.natCast_nonneg _)
    have e:IntKind.i64.wrap (n+f x)=n+f x:=zai (by omega)
    rw [List.foldl_cons,e,fold_tot hM (fun y hy=>h y (List.mem_cons_of_mem _ hy)) (by omega) (by omega),tot]
    omega
theorem worth_tot {α:Type} {f:α→Int} {l:List α} (h:∀x∈l,0≤f x∧f x≤2199023255552) (hl:l.length≤60):worthF f l=tot f l:=by
  have:=fold_tot (f:=f) (M:=2199023255552) (by decide) (n:=0) h (Int.le_refl _) (by omega)
  unfold worthF
  rw [this];omega
theorem zeX {p:List Coin} (h:∀c∈p,coinOk c=true):∀c∈p,0≤c.out.v∧c.out.v≤1099511627776:=fun c hc=>by
  have:=of_decide_eq_true (h c hc)
  omega
theorem zc0 {p:List Coin} (h:∀c∈p,coinOk c=true) (hl:p.length≤48):0≤tot (·.out.v) p∧tot (·.out.v) p≤52776558133248:=by
  have h:=zeX h
  refine ⟨tot_pos fun x hx=>(h x hx).1,?_⟩
  have:=tot_le (f:=fun c:Coin=>c.out.v) (M:=1099511627776) (l:=p) fun x hx=>(h x hx).2
  omega
theorem outs_pos {t:Tx} (h:mayTx t=true):∀o∈t.outs,0≤o.v∧o.v≤1099511627776:=fun o ho=>by
  have h1:=txOuts_ok h o ho
  unfold outOdd at h1
  have:=of_decide_eq_false h1
  omega
theorem outs_tot {t:Tx} (h:mayTx t=true):worthF (·.v) t.outs=tot (·.v) t.outs∧0≤tot (·.v) t.outs∧tot (·.v) t.outs≤3298534883328:=by
  have h1:=outs_pos h
  have h3:=(zci h).2.2
  refine ⟨worth_tot (fun x hx=>by have:=h1 x hx;omega) (by omega),tot_pos fun x hx=>(h1 x hx).1,?_⟩
  have:=tot_le (f:=fun o:Out=>o.v) (M:=1099511627776) (l:=t.outs) fun x hx=>(h1 x hx).2
  omega
theorem zip_tot {id:Ab.Id}:∀{outs:List Out} {k:Nat},tot (·.out.v) ((outs.zipIdx k).map fun x=>(⟨⟨id,(x.2:Int)⟩,x.1⟩:Coin))=tot (·.v) outs
  | [],_=>rfl
  | o::outs,k=>by rw [List.zipIdx_cons,List.map_cons,tot,tot,zip_tot]
theorem newN_tot {id:Ab.Id} {outs:List Out}:tot (·.out.v) (newN id outs outs.length)=tot (·.v) outs:=by
  unfold newN
  rw [List.take_length]
  exact zip_tot
theorem madeOf_tot {p:List Coin} {t:Tx} (h:(madeOf p t).2=0):tot (·.out.v) (madeOf p t).1=tot (·.out.v) p+tot (·.v) t.outs∧(madeOf p t).1.length=p.length+t.outs.length:=by
  unfold madeOf at h ⊢
  split
  · rename_i e;rw [if_pos e] at h;exact absurd h (by decide)
  · refine ⟨?_,?_⟩
    · rw [tot_perm (sortC_perm _),tot_append,newN_tot]
    · rw [(sortC_perm _).length_eq,List.length_append,newN_len (Nat.le_refl _)]
theorem ze3:∀{ins:List In} {p rest:List Coin} {n m:Int},takeIns p n ins=some (rest,m)→(∀c∈p,coinOk c=true)→p.length≤48→0≤n→n+tot (·.out.v) p≤52776558133248→m+tot (·.out.v) rest=n+tot (·.out.v) p∧n≤m∧rest.length+ins.length=p.length
  | [],p,rest,n,m,h,_,_,_,_=>by
    rw [takeIns.eq_1] at h
    injection h with h;injection h with h1 h2;subst h1;subst h2;exact ⟨rfl,Int.le_refl _,rfl⟩
  | x::ins,p,rest,n,m,h,ho,hl,h0,h1=>by
    rw [takeIns.eq_2] at h
    split at h
    · cases h
    · rename_i c hc
      split at h
      · have hd:=tot_del (f:=fun c:Coin=>c.out.v) hc
        have hcm:=zeX ho c (List.mem_of_getElem? hc)
        have hlt:=(List.getElem?_eq_some_iff.1 hc).1
        have hsub:(p.take (placeOf p x)++p.drop (placeOf p x+1)).Sublist p:=by
          rw [←List.eraseIdx_eq_take_drop_succ]
          exact List.eraseIdx_sublist _ _
        have hp:=tot_pos (f:=fun c:Coin=>c.out.v) (l:=p.take (placeOf p x)++p.drop (placeOf p x+1)) fun y hy=>(zeX ho y (hsub.subset hy)).1
        have hll:(p.take (placeOf p x)++p.drop (placeOf p x+1)).length+1=p.length:=by simp;omega
        have e:IntKind.i64.wrap (n+c.out.v)=n+c.out.v:=zai (by omega)
        rw [e] at h
        have:=ze3 h (fun y hy=>ho y (hsub.subset hy)) (by omega) (by omega) (by omega)
        rw [List.length_cons]
        omega
      · cases h
theorem spendOf_tot {p:List Coin} {t:Tx} (h:mayCoins p=true):0≤(spendOf p t).2.1∧tot (·.out.v) (spendOf p t).1+(spendOf p t).2.1=tot (·.out.v) p∧((spendOf p t).2.2≠0→(spendOf p t).1=p∧(spendOf p t).2.1=0):=by
  obtain ⟨h1,h2,h3⟩:=zO.1 h
  have hT:=zc0 h1 h3
  unfold spendOf
  split
  · exact ⟨Int.le_refl _,by simp,fun _=>⟨rfl,rfl⟩⟩
  · rename_i hn
    have hn:=Classical.not_not.1 hn
    split
    · exact ⟨Int.le_refl _,by simp,fun _=>⟨rfl,rfl⟩⟩
    · rename_i rest n hrest
      have ht:=ze3 hrest h1 h3 (Int.le_refl _) (by omega)
      have ho:=outs_tot hn.2.1
      have hsub:=zdr hrest
      have hr:=tot_pos (f:=fun c:Coin=>c.out.v) (l:=rest) fun c hc=>(zeX h1 c (hsub.subset hc)).1
      split
      · exact ⟨Int.le_refl _,by simp,fun _=>⟨rfl,rfl⟩⟩
      · rename_i hw
        rw [ho.1] at hw ⊢
        have e:IntKind.i64.wrap (n-tot (·.v) t.outs)=n-tot (·.v) t.outs:=zai (by omega)
        rw [e] at hw ⊢
        split
        · rename_i hm
          have hmt:=(madeOf_tot hm).1
          split
          · exact ⟨Int.le_refl _,by simp,fun _=>⟨rfl,rfl⟩⟩
          · exact ⟨by simp only [];omega,by simp only [];omega,fun h=>absurd rfl h⟩
        · exact ⟨Int.le_refl _,by simp,fun _=>⟨rfl,rfl⟩⟩
theorem runTxs_tot:∀{l:List Tx} {p out:List Coin} {r r':Int},runTxs p r l = .inr (out,r')→mayCoins p=true→0≤r→tot (·.out.v) p+r≤52776558133398→mayCoins out=true∧r≤r'∧tot (·.out.v) out+r'=tot (·.out.v) p+r
  | [],p,out,r,r',h,hp,_,_=>by
    rw [runTxs.eq_1] at h
    injection h with h;injection h with h1 h2;subst h1;subst h2;exact ⟨hp,Int.le_refl _,rfl⟩
  | t::l,p,out,r,r',h,hp,h0,h1=>by
    rw [runTxs.eq_2] at h
    split at h
    · have hs:=spendOf_tot (t:=t) hp
      have hm:=zdc (t:=t) hp
      have hT:=zc0 (zO.1 hm).1 (zO.1 hm).2.2
      have e:IntKind.i64.wrap (r+(spendOf p t).2.1)=r+(spendOf p t).2.1:=zai (by omega)
      rw [e] at h
      have:=runTxs_tot h hm (by omega) (by omega)
      exact ⟨this.1,by omega,by omega⟩
    · cases h
theorem applyOf_tot {p:List Coin} {l:List Tx} (h:mayCoins p=true):mayCoins (applyOf p l).1=true∧tot (·.out.v) (applyOf p l).1≤tot (·.out.v) p+50∧((applyOf p l).2≠0→(applyOf p l).1=p):=by
  have hT:=zc0 (zO.1 h).1 (zO.1 h).2.2
  have same:∀e:Int,mayCoins p=true∧tot (·.out.v) p≤tot (·.out.v) p+50∧(e≠0→p=p):=fun _=>⟨h,by omega,fun _=>rfl⟩
  unfold applyOf
  rw [if_neg (Classical.not_not.2 h)]
  split
  · exact same _
  · split
    · exact same _
    · rename_i out room hr
      have hrt:=runTxs_tot hr h (by decide) (by omega)
      split
      · exact ⟨hrt.1,by simp only [];omega,fun h=>absurd rfl h⟩
      · rename_i t _
        split
        · exact same _
        · rename_i hmt
          have hmt:=Classical.not_not.1 hmt
          have ho:=outs_tot hmt
          split
          · exact same _
          · rename_i hm
            have hm:=Classical.not_not.1 hm
            split
            · exact same _
            · rename_i hw
              rw [ho.1] at hw
              split
              · exact same _
              · rename_i hl
                have hg:=madeOf_good (p:=out) (zO.1 hrt.1).1 (zO.1 hrt.1).2.1 hmt
                have hmt:=(madeOf_tot hm).1
                exact ⟨zO.2 ⟨hg.1,hg.2,Nat.le_of_not_lt hl⟩,by simp only [];omega,fun h=>absurd rfl h⟩
set_option maxRecDepth 20000
theorem cb_split {x y:UInt8} {a b:List UInt8} (h:x≠y):Lib.compareBytes (x::a) (y::b)<0↔x<y:=by
  unfold Lib.compareBytes
  by_cases h1:x<y
  · simp [h1]
  · have h2 : y < x := by
      rcases UInt8.lt_or_lt_of_ne h with h|h
      · exact absurd h h1
      · exact h
    simp [h1,h2]
theorem cb_same:∀{p a b:List UInt8},Lib.compareBytes (p++a) (p++b)=Lib.compareBytes a b
  | [],_,_=>rfl
  | x::p,a,b=>by
    rw [List.cons_append,List.cons_append,Lib.compareBytes,if_neg (UInt8.lt_irrefl _),if_neg (UInt8.lt_irrefl _)]
    exact cb_same
theorem less_at {a b:List UInt8} {k:Nat} (ha:k<a.length) (hb:k<b.length) (h:a.take k=b.take k) (hn:a.getD k default≠b.getD k default):decide (a.getD k default<b.getD k default)=decide (Lib.compareBytes a b<0):=by
  rw [decide_eq_decide]
  have e1:a=a.take k++a[k]::a.drop (k+1):=by rw [←List.drop_eq_getElem_cons ha,List.take_append_drop]
  have e2:b=a.take k++b[k]::b.drop (k+1):=by rw [h,←List.drop_eq_getElem_cons hb,List.take_append_drop]
  have g1:a.getD k default=a[k]:=by simp [List.getD,ha]
  have g2:b.getD k default=b[k]:=by simp [List.getD,hb]
  rw [g1,g2] at hn ⊢
  have:Lib.compareBytes a b=Lib.compareBytes (a[k]::a.drop (k+1)) (b[k]::b.drop (k+1)):=by
    conv=>lhs;rw [e1,e2]
    exact cb_same
  rw [this]
  exact (cb_split hn).symm
theorem take_same {α:Type} [Inhabited α] {a b:List α} {k:Nat} (ha:k<a.length) (hb:k<b.length) (h:a.take k=b.take k) (hn:a.getD k default=b.getD k default):a.take (k+1)=b.take (k+1):=by
  rw [List.take_add_one,List.take_add_one,h,List.getElem?_eq_getElem ha,List.getElem?_eq_getElem hb]
  congr 2
  simpa [List.getD,ha,hb] using hn
theorem fact_id {a:Ab.Id} {ρ:Nat→Value} {B:Nat→Prop} {U N:Nat→Prop} {w:World} {v:Value} (h:(AV.val idT a).rel ρ B U N w v):a.length=32:=by
  obtain ⟨cs,h,_⟩:=h
  exact h.1
theorem before_eq {a b:In}:decide (ordIn a b<0)=(decide (Lib.compareBytes a.tx b.tx<0)||(decide (a.tx=b.tx)&&decide (a.i<b.i))):=by
  rw [ordIn_eq]
  by_cases h:Lib.compareBytes a.tx b.tx=0
  · have h':=cb_zero.1 h
    rw [if_pos h,h]
    simp only [h',cmpInt]
    by_cases c:a.i<b.i<;>by_cases d:b.i<a.i<;>simp [c,d]
  · rw [if_neg h]
    have h':¬a.tx=b.tx:=fun e=>h (cb_zero.2 e)
    simp [h']
theorem any_step {α:Type} {f:α→Bool} {p:List α} {k:Nat} {c:α} (h:(p.take k).any f=false) (hp:p[k]?=some c) (hf:f c=false):(p.take (k+1)).any f=false:=by
  rw [List.take_add_one,hp,List.any_append,h];simp [hf]
theorem any_hit {α:Type} {f:α→Bool} {p:List α} {c:α} {k:Nat} (hp:p[k]?=some c) (hf:f c=true):p.any f=true:=List.any_eq_true.2 ⟨c,List.mem_of_getElem? hp,hf⟩
theorem zaT {α:Type} {f:α→Bool} {p:List α} {c:α} {j k:Nat} (hp:p[j]?=some c) (hj:j<k) (hf:f c=true):(p.take k).any f=true:=any_hit (k:=j) (by rw [List.getElem?_take_of_lt hj];exact hp) hf
theorem zd1 {t:Tx} {o:Out} {k:Nat} (h:t.outs[k]?=some o) (hb:o.v<1∨1099511627776<o.v∨o.to<0∨255<o.to):mayTx t=false:=by
  have:t.outs.any outOdd=true:=any_hit h (decide_eq_true hb)
  unfold mayTx
  rw [this];simp
theorem rless_ok (a b:Ab.Id):Tells P 258 [.val idT a,.val idT b] (.val boolT (decide (Lib.compareBytes a b<0))):=by
 refine zc Tryz.func258 rfl rfl rfl (fun ext w hext=>?_)
 refine ze (d:=0) rfl fact_id (fun ha=>?_)
 refine ze (d:=1) rfl fact_id (fun hb=>?_)
 refine qav ?_;refine qbr ?_;refine Lp (ι:=Nat) 2 (fun (k:Nat)=>(((Fr.none).set 2 (.ptr 0 0)).set 3 (.ptr 1 0)).set 5 (.val i64T (k:Int))) (fun (k:Nat)=>((Hp.none).set 0 (.box 32 idT a)).set 1 (.box 32 idT b)) (fun (k:Nat)=>k≤32∧a.take k=b.take k) (fun (k:Nat)=>32-k) (0) (⟨Nat.zero_le _,rfl⟩) ?_
 intro k hinv
 refine qa9 ?_;refine qaz ?_;refine Cf (p:=k<32) (fun ht7=>?_) (fun ht7=>?_)
 ·
  refine qa4 ?_;refine qcd ?_;refine G0 (zt (i:=k) rfl rfl rfl (by first|omega|rfl) za5 (by omega)) ?_;refine G0 (zl rfl rfl rfl (Lens.elem (i:=k) (by omega) u8T) ty_5) ?_;refine G0 mV ?_;refine G0 (zt (i:=k) rfl rfl rfl (by first|omega|rfl) za5 (by omega)) ?_;refine G0 (zl rfl rfl rfl (Lens.elem (i:=k) (by omega) u8T) ty_5) ?_;refine G0 zd2 ?_;refine GK.nil ?_;refine zj (p:=a.getD k default≠b.getD k default) rfl (by simp [IntL.toI];exact Int.ofNat_inj.trans UInt8.toNat_inj) (fun ht16=>?_) (fun ht16=>?_)
  ·
   refine qcd ?_;refine G0 (zt (i:=k) rfl rfl rfl (by first|omega|rfl) za5 (by omega)) ?_;refine G0 (zl rfl rfl rfl (Lens.elem (i:=k) (by omega) u8T) ty_5) ?_;refine G0 mV ?_;refine G0 (zt (i:=k) rfl rfl rfl (by first|omega|rfl) za5 (by omega)) ?_;refine G0 (zl rfl rfl rfl (Lens.elem (i:=k) (by omega) u8T) ty_5) ?_;refine G0 zbh ?_;refine qa3 ?_
   exact zb rfl rfl (za rfl ((by simp [IntL.toI,UInt8.lt_iff_toNat_lt]:_=_).trans (less_at (by omega) (by omega) hinv.2 ht16)))
  ·
   refine qb3 ?_
   exact Nx (k+1) (⟨by omega,take_same (by omega) (by omega) hinv.2 (Classical.not_not.1 ht16)⟩) (by omega)
 ·
  refine qbE ?_
  exact zb rfl rfl (za rfl (decide_eq_false (by have h:=hinv.2;rw [List.take_of_length_le (by omega),List.take_of_length_le (by omega)] at h;rw [h,cb_zero.2 rfl];exact Int.lt_irrefl 0)).symm)
theorem rbefore_ok (a b:Coin):Tells P 230 [.val coinT a,.val coinT b] (.val boolT (decide (ordIn a.inn b.inn<0))):=by
 refine zc Tryz.func230 rfl rfl rfl (fun ext w hext=>?_)
 refine qav ?_;refine qai ?_;refine A0 (oFp zaX) ?_;refine A0 (oFp zb6) ?_;refine A0 (oLb (zaq.comp zdm) zM) ?_;refine A0 (oFp zaX) ?_;refine A0 (oFp zb6) ?_;refine A0 (oLb (zaq.comp zdm) zM) ?_;refine A0 (oCl (rless_ok _ _) rfl fn_258 ⟨(zd rfl),(zd rfl),trivial⟩) ?_;refine Sp (d:=12) (p:=Lib.compareBytes a.inn.tx b.inn.tx<0) (fun g12=>?_) (fun g12=>?_)
 ·
  refine qb7 ?_;refine qac ?_;refine qaJ ?_;refine A2 ?_;refine A3 ?_;refine A3 ?_;refine A3 ?_;refine A3 ?_;refine A3 ?_;refine A3 ?_;refine A3 ?_;refine A2 ?_;refine qaW ?_
  exact zb rfl rfl (za rfl (by rw [before_eq];simp [g12]))
 ·
  refine qb7 ?_;refine A1 (oFp zaX) ?_;refine A1 (oFp zb6) ?_;refine A1 (oLb (zaq.comp zdm) zM) ?_;refine A1 (oFp zaX) ?_;refine A1 (oFp zb6) ?_;refine A1 (oLb (zaq.comp zdm) zM) ?_;refine A1 (zcM rfl rfl rfl (zbJ)) ?_;refine zaa (d:=21) (p:=a.inn.tx=b.inn.tx) rfl (by simp) (fun g21=>?_) (fun g21=>?_)
  ·
   refine A1 mV ?_;refine A1 (oFp zaX) ?_;refine A1 (oFp za3) ?_;refine A1 (oLb (zaq.comp zdD) ty_3) ?_;refine A1 (oFp zaX) ?_;refine A1 (oFp za3) ?_;refine A1 (oLb (zaq.comp zdD) ty_3) ?_;refine A1 zbh ?_;refine A1 oK ?_;refine qaW ?_
   exact zb rfl rfl (za rfl (by rw [before_eq,decide_eq_false g12,Bool.false_or,decide_eq_true g21,Bool.true_and];rfl))
  ·
   refine A1 mV ?_;refine qac ?_;refine qaJ ?_;refine A1 oK ?_;refine qaW ?_
   exact zb rfl rfl (za rfl (by rw [before_eq,decide_eq_false g12,decide_eq_false g21];rfl))
theorem rmay_ok (p:List Coin):Tells P 201 [.val (bsl coinT) p] (.val boolT (mayCoins p)):=by
 refine zc Tryz.func201 rfl rfl rfl (fun ext w hext=>?_)
 refine ze (d:=0) rfl zi (fun hsl0=>?_)
 refine CQR ?_;refine qbr ?_;refine Lp (ι:=Nat) 0 (fun (k:Nat)=>((Fr.none).set 0 (.val (bsl coinT) p)).set 3 (.val i64T (k:Int))) (fun (k:Nat)=>Hp.none) (fun (k:Nat)=>k≤p.length∧(List.range k).all (coinAt p)=true) (fun (k:Nat)=>p.length-k) (0) (⟨Nat.zero_le _,rfl⟩) ?_
 intro k hinv
 refine qbg ?_;refine qcg ?_;refine qaz ?_;refine Cf (p:=k<p.length) (fun ht9=>?_) (fun ht9=>?_)
 ·
  obtain ⟨c,hc⟩:∃c,p[k]?=some c:=⟨_,List.getElem?_eq_getElem ht9⟩
  refine CSQBQR ?_;refine qag ?_;refine A0 (zm (i:=k) rfl rfl rfl (by omega) zcP (by assumption)) ?_;refine A0 (zf rfl rfl zdq) ?_;refine zI ze_200 rfl rfl rfl rfl ?_;refine zh rfl rfl rfl rfl rfl (Lens.self _) zdq rfl ?_;refine CNQQR ?_;refine A0 (oFp zaX) ?_;refine A0 (oFp za3) ?_;refine A0 (oLb (zaq.comp zdD) ty_3) ?_;refine A0 zbh ?_;refine Sp (d:=19) (p:=c.inn.i<0) (fun g19=>?_) (fun g19=>?_)
  ·
   refine qar ?_;refine qaJ ?_;refine qb5 ?_;refine qb5 ?_;refine qaq ?_;refine Ct ?_;refine qam ?_
   exact zb rfl rfl (za rfl (zbp hc ht9 (by omega)).symm)
  ·
   refine qar ?_;refine A1 (oFp zaX) ?_;refine A1 (oFp za3) ?_;refine A1 (oLb (zaq.comp zdD) ty_3) ?_;refine A1 zez ?_;refine Sp (d:=24) (p:=3≤c.inn.i) (fun g24=>?_) (fun g24=>?_)
   ·
    refine qb5 ?_;refine qb5 ?_;refine qaq ?_;refine Ct ?_;refine qam ?_
    exact zb rfl rfl (za rfl (zbp hc ht9 (by omega)).symm)
   ·
    refine qaw ?_;refine A1 (oFp zcB) ?_;refine A1 (oFp zbL) ?_;refine A1 (oLb (zbq.comp zcI) ty_3) ?_;refine A1 zbh ?_;refine Sp (d:=30) (p:=c.out.v<1) (fun g30=>?_) (fun g30=>?_)
    ·
     refine qb5 ?_;refine qak ?_;refine CN ?_;refine Ct ?_;refine qam ?_
     exact zb rfl rfl (za rfl (zbp hc ht9 (by omega)).symm)
    ·
     refine qaw ?_;refine A1 (oFp zcB) ?_;refine A1 (oFp zbL) ?_;refine A1 (oLb (zbq.comp zcI) ty_3) ?_;refine A1 zbb ?_;refine Sp (d:=36) (p:=1099511627776<c.out.v) (fun g36=>?_) (fun g36=>?_)
     ·
      refine qb5 ?_;refine qaq ?_;refine Ct ?_;refine qam ?_
      exact zb rfl rfl (za rfl (zbp hc ht9 (by omega)).symm)
     ·
      refine qaw ?_;refine A1 (oFp zcB) ?_;refine A1 (oFp zck) ?_;refine A1 (oLb (zbq.comp zc8) ty_3) ?_;refine A1 zbh ?_;refine Sp (d:=42) (p:=c.out.to<0) (fun g42=>?_) (fun g42=>?_)
      ·
       refine qak ?_;refine CN ?_;refine Ct ?_;refine qam ?_
       exact zb rfl rfl (za rfl (zbp hc ht9 (by omega)).symm)
      ·
       refine qaw ?_;refine A1 (oFp zcB) ?_;refine A1 (oFp zck) ?_;refine A1 (oLb (zbq.comp zc8) ty_3) ?_;refine A1 zbb ?_;refine Sp (d:=48) (p:=255<c.out.to) (fun g48=>?_) (fun g48=>?_)
       ·
        refine qaq ?_;refine Ct ?_;refine qam ?_
        exact zb rfl rfl (za rfl (zbp hc ht9 (by omega)).symm)
       ·
        refine qaq ?_;refine Cg ?_;refine CS ?_;refine qcd ?_;refine G0 zbU ?_;refine zab (d:=51) (p:=k=0) rfl (by first|rfl|(rw [decide_eq_decide];simp only [IntL.toI,id_eq];omega)|(simp [IntL.toI];done)|(simp [IntL.toI];omega)) (fun g51=>?_) (fun g51=>?_)
        ·
         refine G0 mV ?_;refine qaa ?_;refine G2 ?_;refine G0 oK ?_;refine qa3 ?_;refine qa2 ?_;refine qaE ?_;refine Cg ?_;refine qb3 ?_
         exact Nx (k+1) (⟨by omega,zb3 hinv.2 (by first|exact zfn hc (by omega) hb g59 (by omega)|(obtain rfl:k=0:=(by omega);exact zeq hc (by omega)))⟩) (by omega)
        ·
         obtain ⟨b,hb⟩:∃b,p[k-1]?=some b:=⟨_,List.getElem?_eq_getElem (by omega)⟩
         refine G0 mV ?_;refine G1 mV ?_;refine G1 mV ?_;refine G1 zay ?_;refine G1 (zm (i:=k-1) rfl rfl rfl (by omega) zcP (by assumption)) ?_;refine G1 (zf rfl rfl zdq) ?_;refine G1 (oLs rfl rfl rfl zdq) ?_;refine G1 (oCl (rbefore_ok _ _) rfl fn_230 ⟨(by first|exact zq rfl|exact zC rfl|exact zy rfl rfl|exact zA rfl|exact zr rfl|exact zL rfl rfl|exact zB rfl),(zd rfl),trivial⟩) ?_
         refine zab (d:=59) (p:=ordIn b.inn c.inn<0) rfl (by first|rfl|(rw [decide_eq_decide];simp only [IntL.toI,id_eq];omega)|(simp [IntL.toI];done)|(simp [IntL.toI];omega)) (fun g59=>?_) (fun g59=>?_)
         ·
          refine G0 oK ?_;refine qa3 ?_;refine qa2 ?_;refine qaE ?_;refine Cg ?_;refine qb3 ?_
          exact Nx (k+1) (⟨by omega,zb3 hinv.2 (by first|exact zfn hc (by omega) hb g59 (by omega)|(obtain rfl:k=0:=(by omega);exact zeq hc (by omega)))⟩) (by omega)
         ·
          refine G0 oK ?_;refine qa3 ?_;refine qa2 ?_;refine qaE ?_;refine Ct ?_;refine qam ?_
          exact zb rfl rfl (za rfl (coinAt_unsorted hc ht9 (by omega) hb g59).symm)
 ·
  refine CE ?_;refine qa2 ?_;refine qcg ?_;refine A0 zey ?_;refine qab ?_
  exact zb rfl rfl (za rfl (by unfold mayCoins;rw [show k=p.length by omega] at hinv;rw [hinv.2,Bool.true_and,decide_eq_decide];simp only [IntL.toI,id_eq];omega))
theorem rfind_ok (p:List Coin) (x:In):Tells P 231 [.val (bsl coinT) p,.val inT x] (.val i64T (findC p x)):=by
 refine zc Tryz.func231 rfl rfl rfl (fun ext w hext=>?_)
 refine ze (d:=0) rfl zi (fun hsl0=>?_)
 refine qad ?_;refine qbr ?_;refine Lp (ι:=Nat) 1 (fun (k:Nat)=>(((Fr.none).set 0 (.val (bsl coinT) p)).set 3 (.ptr 0 0)).set 5 (.val i64T (k:Int))) (fun (k:Nat)=>(Hp.none).set 0 (.box 193 inT x)) (fun (k:Nat)=>k≤p.length∧findC p x=shift k (idx (fun c=>decide (c.inn=x)) (p.drop k))) (fun (k:Nat)=>p.length-k) (0) (⟨Nat.zero_le _,by unfold findC shift;rw [List.drop_zero];have:=findC_ge p x;unfold findC at this;split<;>omega⟩) ?_
 intro k hinv
 refine qbg ?_;refine qcg ?_;refine qaz ?_;refine Cf (p:=k<p.length) (fun ht9=>?_) (fun ht9=>?_)
 ·
  obtain ⟨c,hc⟩:∃c,p[k]?=some c:=⟨_,List.getElem?_eq_getElem ht9⟩
  refine qa4 ?_;refine qa0 ?_;refine qaF ?_;refine G0 (zm (i:=k) rfl rfl rfl (by omega) zcP (by assumption)) ?_;refine G0 (oFr zaX zaq) ?_;refine G0 (zf rfl rfl zbi) ?_;refine G0 (oLs rfl rfl rfl zbi) ?_;refine G0 (zcM rfl rfl rfl (eqt_193)) ?_;refine GK.nil ?_;refine Cf (p:=c.inn=x) (fun ht18=>?_) (fun ht18=>?_)
  ·
   refine qb8 ?_
   exact zb rfl rfl (za rfl (hinv.2.trans (idx_yes hc (by simpa using ht18))).symm)
  ·
   refine qb3 ?_
   exact Nx (k+1) (⟨by omega,hinv.2.trans (idx_no hc (by simpa using ht18))⟩) (by omega)
 ·
  refine qbE ?_
  exact zb rfl rfl (za rfl (hinv.2.trans (idx_end (by omega))).symm)
theorem rthere_ok (p:List Coin) (id:Ab.Id):Tells P 204 [.val (bsl coinT) p,.val idT id] (.val boolT (p.any fun c=>decide (c.inn.tx=id))):=by
 refine zc Tryz.func204 rfl rfl rfl (fun ext w hext=>?_)
 refine ze (d:=0) rfl zi (fun hsl0=>?_)
 refine qad ?_;refine qbr ?_;refine Lp (ι:=Nat) 1 (fun (k:Nat)=>(((Fr.none).set 0 (.val (bsl coinT) p)).set 3 (.ptr 0 0)).set 5 (.val i64T (k:Int))) (fun (k:Nat)=>(Hp.none).set 0 (.box 32 idT id)) (fun (k:Nat)=>k≤p.length∧((p.take k).any fun c=>decide (c.inn.tx=id))=false) (fun (k:Nat)=>p.length-k) (0) (⟨Nat.zero_le _,rfl⟩) ?_
 intro k hinv
 refine qbg ?_;refine qcg ?_;refine qaz ?_;refine Cf (p:=k<p.length) (fun ht9=>?_) (fun ht9=>?_)
 ·
  obtain ⟨c,hc⟩:∃c,p[k]?=some c:=⟨_,List.getElem?_eq_getElem ht9⟩
  refine qa4 ?_;refine qa0 ?_;refine qaF ?_;refine G0 (zm (i:=k) rfl rfl rfl (by omega) zcP (by assumption)) ?_;refine G0 (oFr zaX zaq) ?_;refine G0 (oFr zb6 zdm) ?_;refine qb4 ?_;refine G0 (oLs rfl rfl rfl zM) ?_;refine G0 (zcM rfl rfl rfl (zbJ)) ?_;refine GK.nil ?_;refine Cf (p:=c.inn.tx=id) (fun ht19=>?_) (fun ht19=>?_)
  ·
   refine qam ?_
   exact zb rfl rfl (za rfl (any_hit hc (by simpa using ht19)).symm)
  ·
   refine qb3 ?_
   exact Nx (k+1) (⟨by omega,any_step hinv.2 hc (by simpa using ht19)⟩) (by omega)
 ·
  refine qbE ?_
  exact zb rfl rfl (za rfl (by have h:=hinv.2;rw [List.take_of_length_le (by omega)] at h;exact h.symm))
theorem rworth_ok (t:Tx):Tells P 206 [.val txT t] (.val i64T (worthF (·.v) t.outs)):=by
 refine zc Tryz.func206 rfl rfl rfl (fun ext w hext=>?_)
 refine ze (d:=0) rfl fact_txl (fun htl=>?_)
 refine qad ?_;refine qai ?_;refine qbr ?_;refine Lp (ι:=Nat) 1 (fun (k:Nat)=>(((Fr.none).set 1 (.ptr 0 0)).set 3 (.val i64T (worthF (·.v) (t.outs.take k)))).set 4 (.val i64T (k:Int))) (fun (k:Nat)=>(Hp.none).set 0 (.box 140 txT t)) (fun (k:Nat)=>k≤t.outs.length) (fun (k:Nat)=>t.outs.length-k) (0) (Nat.zero_le _) ?_
 intro k hinv
 refine qa9 ?_;refine qaD ?_;refine qaz ?_;refine Cf (p:=k<t.outs.length) (fun ht9=>?_) (fun ht9=>?_)
 ·
  obtain ⟨o,ho⟩:∃o,t.outs[k]?=some o:=⟨_,List.getElem?_eq_getElem ht9⟩
  refine qa4 ?_;refine CR ?_;refine qar ?_;refine A0 (oFp zbf) ?_;refine A0 (oLb zaU zc9) ?_;refine qar ?_;refine A0 (zm (i:=k) rfl rfl rfl (by omega) zdV (by assumption)) ?_;refine A0 (oFr zbL zcI) ?_;refine qb6 ?_;refine A0 zaG ?_;refine A0 aV ?_;refine qaR ?_;refine zp (d:=3) rfl (worth_step ho).symm ?_
  exact Nx (k+1) (by omega) (by omega)
 ·
  refine CE ?_;refine qb8 ?_
  exact zb rfl rfl (za rfl (by rw [List.take_of_length_le (by omega)]))
theorem rmayTx_ok (t:Tx):Tells P 203 [.val txT t] (.val boolT (mayTx t)):=by
 refine zc Tryz.func203 rfl rfl rfl (fun ext w hext=>?_)
 refine ze (d:=0) rfl fact_txl (fun htl=>?_)
 refine qad ?_;refine qbr ?_;refine Lp (ι:=Nat) 1 (fun (k:Nat)=>((Fr.none).set 1 (.ptr 0 0)).set 3 (.val i64T (k:Int))) (fun (k:Nat)=>(Hp.none).set 0 (.box 140 txT t)) (fun (k:Nat)=>k≤t.ins.length∧(List.range k).all (inAt t)=true) (fun (k:Nat)=>t.ins.length-k) (0) (⟨Nat.zero_le _,rfl⟩) ?_
 intro k hinv
 refine qa9 ?_;refine qa1 ?_;refine qaz ?_;refine Cf (p:=k<t.ins.length) (fun ht11=>?_) (fun ht11=>?_)
 ·
  obtain ⟨x,hx⟩:∃x,t.ins[k]?=some x:=⟨_,List.getElem?_eq_getElem ht11⟩
  refine qa4 ?_;refine CQQR ?_;refine qbV ?_;refine qar ?_;refine A0 (zm (i:=k) rfl rfl rfl (by omega) zdt (by assumption)) ?_;refine A0 (oFr za3 zdD) ?_;refine qb6 ?_;refine A0 zbh ?_;refine Sp (d:=20) (p:=x.i<0) (fun g20=>?_) (fun g20=>?_)
  ·
   refine qar ?_;refine qac ?_;refine qaJ ?_;refine qaq ?_;refine Ct ?_;refine qam ?_
   exact zb rfl rfl (za rfl (by first|exact (zcj hx ht11 (by omega)).symm|exact (zbn hx ht11 (zaT hy ht32 (by simp [ht45]))).symm|exact (zd1 ho (by omega)).symm|(unfold mayTx;rw [hall,hodd];simp [g79,g84,g90,IntL.toI];try omega)|(unfold mayTx;rw [hall,hodd];simp [g79,g84,IntL.toI];try omega)|(unfold mayTx;rw [hall,hodd];simp [g79,IntL.toI];try omega)))
  ·
   refine qar ?_;refine A1 (oFp zbg) ?_;refine A1 (oLb zbD zda) ?_;refine A1 mV ?_;refine A1 (zm (i:=k) rfl rfl rfl (by omega) zdt (by assumption)) ?_;refine A1 (oFr za3 zdD) ?_;refine A1 (zf rfl rfl ty_3) ?_;refine A1 zez ?_;refine Sp (d:=28) (p:=3≤x.i) (fun g28=>?_) (fun g28=>?_)
   ·
    refine qaq ?_;refine Ct ?_;refine qam ?_
    exact zb rfl rfl (za rfl (by first|exact (zcj hx ht11 (by omega)).symm|exact (zbn hx ht11 (zaT hy ht32 (by simp [ht45]))).symm|exact (zd1 ho (by omega)).symm|(unfold mayTx;rw [hall,hodd];simp [g79,g84,g90,IntL.toI];try omega)|(unfold mayTx;rw [hall,hodd];simp [g79,g84,IntL.toI];try omega)|(unfold mayTx;rw [hall,hodd];simp [g79,IntL.toI];try omega)))
   ·
    have hout:=hinv.2
    have hkl:=hinv.1
    refine qaq ?_;refine Cg ?_;refine CSQR ?_;refine qbC ?_;refine Lp (ι:=Nat) 1 (fun (j:Nat)=>(((Fr.none).set 1 (.ptr 0 0)).set 3 (.val i64T (k:Int))).set 4 (.val i64T (j:Int))) (fun (j:Nat)=>(Hp.none).set 0 (.box 140 txT t)) (fun (j:Nat)=>j≤k∧((t.ins.take j).any fun c=>decide (x=c))=false) (fun (j:Nat)=>k-j) (0) (⟨Nat.zero_le _,rfl⟩) ?_
    intro j hinv
    refine qbg ?_;refine qaz ?_;refine Cf (p:=j<k) (fun ht32=>?_) (fun ht32=>?_)
    ·
     obtain ⟨y,hy⟩:∃y,t.ins[j]?=some y:=⟨_,List.getElem?_eq_getElem (by omega)⟩
     refine qa4 ?_;refine qa0 ?_;refine G0 (oFp zbg) ?_;refine G0 (oLb zbD zda) ?_;refine G0 mV ?_;refine G0 (zm (i:=j) rfl rfl rfl (by omega) zdt (by assumption)) ?_;refine G0 (zf rfl rfl zbi) ?_;refine G0 (oFp zbg) ?_;refine G0 (oLb zbD zda) ?_;refine G0 mV ?_;refine G0 (zm (i:=k) rfl rfl rfl (by omega) zdt (by assumption)) ?_;refine G0 (zf rfl rfl zbi) ?_;refine G0 (zcM rfl rfl rfl (eqt_193)) ?_;refine GK.nil ?_;refine Cf (p:=y=x) (fun ht45=>?_) (fun ht45=>?_)
     ·
      refine qam ?_
      exact zb rfl rfl (za rfl (by first|exact (zcj hx ht11 (by omega)).symm|exact (zbn hx ht11 (zaT hy ht32 (by simp [ht45]))).symm|exact (zd1 ho (by omega)).symm|(unfold mayTx;rw [hall,hodd];simp [g79,g84,g90,IntL.toI];try omega)|(unfold mayTx;rw [hall,hodd];simp [g79,g84,IntL.toI];try omega)|(unfold mayTx;rw [hall,hodd];simp [g79,IntL.toI];try omega)))
     ·
      refine qb3 ?_
      exact Nx (j+1) (⟨by omega,any_step hinv.2 hy (by simpa using fun e=>ht45 e.symm)⟩) (by omega)
    ·
     obtain rfl:k=j:=(by omega)
     refine CE ?_;refine CI ?_;refine CR ?_;refine qaj ?_
     exact Nx (k+1) (⟨by omega,zb3 hout (inAt_good hx (by omega) (by rw [hinv.2];simp))⟩) (by omega)
 ·
  have hall:(List.range t.ins.length).all (inAt t)=true:=by have h:=hinv.2;rw [show k=t.ins.length by omega] at h;exact h
  refine CE ?_;refine CQQR ?_;refine qbC ?_;refine Lp (ι:=Nat) 1 (fun (k:Nat)=>((Fr.none).set 1 (.ptr 0 0)).set 5 (.val i64T (k:Int))) (fun (k:Nat)=>(Hp.none).set 0 (.box 140 txT t)) (fun (k:Nat)=>k≤t.outs.length∧(t.outs.take k).any outOdd=false) (fun (k:Nat)=>t.outs.length-k) (0) (⟨Nat.zero_le _,rfl⟩) ?_
  intro k hinv
  refine qa9 ?_;refine qaD ?_;refine qaz ?_;refine Cf (p:=k<t.outs.length) (fun ht50=>?_) (fun ht50=>?_)
  ·
   obtain ⟨o,ho⟩:∃o,t.outs[k]?=some o:=⟨_,List.getElem?_eq_getElem ht50⟩
   refine CSQBQR ?_;refine A0 (oFp zbf) ?_;refine A0 (oLb zaU zc9) ?_;refine qar ?_;refine A0 (zm (i:=k) rfl rfl rfl (by omega) zdV (by assumption)) ?_;refine qbL ?_;refine CNQR ?_;refine A0 (oFp zbL) ?_;refine A0 (oLb zcI ty_3) ?_;refine A0 zbh ?_;refine Sp (d:=60) (p:=o.v<1) (fun g60=>?_) (fun g60=>?_)
   ·
    refine qar ?_;refine qbf ?_;refine qaw ?_;refine qbA ?_;refine Ct ?_;refine qam ?_
    exact zb rfl rfl (za rfl (by first|exact (zcj hx ht11 (by omega)).symm|exact (zbn hx ht11 (zaT hy ht32 (by simp [ht45]))).symm|exact (zd1 ho (by omega)).symm|(unfold mayTx;rw [hall,hodd];simp [g79,g84,g90,IntL.toI];try omega)|(unfold mayTx;rw [hall,hodd];simp [g79,g84,IntL.toI];try omega)|(unfold mayTx;rw [hall,hodd];simp [g79,IntL.toI];try omega)))
   ·
    refine qar ?_;refine A1 (oFp zbL) ?_;refine A1 (oLb zcI ty_3) ?_;refine A1 zbb ?_;refine Sp (d:=64) (p:=1099511627776<o.v) (fun g64=>?_) (fun g64=>?_)
    ·
     refine qaw ?_;refine qbf ?_;refine qaq ?_;refine Ct ?_;refine qam ?_
     exact zb rfl rfl (za rfl (by first|exact (zcj hx ht11 (by omega)).symm|exact (zbn hx ht11 (zaT hy ht32 (by simp [ht45]))).symm|exact (zd1 ho (by omega)).symm|(unfold mayTx;rw [hall,hodd];simp [g79,g84,g90,IntL.toI];try omega)|(unfold mayTx;rw [hall,hodd];simp [g79,g84,IntL.toI];try omega)|(unfold mayTx;rw [hall,hodd];simp [g79,IntL.toI];try omega)))
    ·
     refine qaw ?_;refine A1 (oFp zck) ?_;refine A1 (oLb zc8 ty_3) ?_;refine A1 zbh ?_;refine Sp (d:=69) (p:=o.to<0) (fun g69=>?_) (fun g69=>?_)
     ·
      refine qaw ?_;refine qbA ?_;refine Ct ?_;refine qam ?_
      exact zb rfl rfl (za rfl (by first|exact (zcj hx ht11 (by omega)).symm|exact (zbn hx ht11 (zaT hy ht32 (by simp [ht45]))).symm|exact (zd1 ho (by omega)).symm|(unfold mayTx;rw [hall,hodd];simp [g79,g84,g90,IntL.toI];try omega)|(unfold mayTx;rw [hall,hodd];simp [g79,g84,IntL.toI];try omega)|(unfold mayTx;rw [hall,hodd];simp [g79,IntL.toI];try omega)))
     ·
      refine qaw ?_;refine A1 (oFp zck) ?_;refine A1 (oLb zc8 ty_3) ?_;refine A1 zbb ?_;refine Sp (d:=74) (p:=255<o.to) (fun g74=>?_) (fun g74=>?_)
      ·
       refine qaq ?_;refine Ct ?_;refine qam ?_
       exact zb rfl rfl (za rfl (by first|exact (zcj hx ht11 (by omega)).symm|exact (zbn hx ht11 (zaT hy ht32 (by simp [ht45]))).symm|exact (zd1 ho (by omega)).symm|(unfold mayTx;rw [hall,hodd];simp [g79,g84,g90,IntL.toI];try omega)|(unfold mayTx;rw [hall,hodd];simp [g79,g84,IntL.toI];try omega)|(unfold mayTx;rw [hall,hodd];simp [g79,IntL.toI];try omega)))
      ·
       refine qaq ?_;refine Cg ?_;refine qb3 ?_
       exact Nx (k+1) (⟨by omega,any_step hinv.2 ho (by unfold outOdd;apply decide_eq_false;omega)⟩) (by omega)
  ·
   have hodd:t.outs.any outOdd=false:=by have h:=hinv.2;rw [List.take_of_length_le (by omega)] at h;exact h
   refine qbM ?_;refine qa1 ?_;refine A0 zey ?_;refine Sp (d:=79) (p:=t.ins.length≤3) (fun g79=>?_) (fun g79=>?_)
   ·
    refine qar ?_;refine qaO ?_;refine A1 zez ?_;refine Sp (d:=84) (p:=1≤t.outs.length) (fun g84=>?_) (fun g84=>?_)
    ·
     refine qaw ?_;refine qaO ?_;refine A1 zey ?_;refine Sp (d:=90) (p:=t.outs.length≤3) (fun g90=>?_) (fun g90=>?_)
     ·
      refine qaW ?_
      exact zb rfl rfl (za rfl (by first|exact (zcj hx ht11 (by omega)).symm|exact (zbn hx ht11 (zaT hy ht32 (by simp [ht45]))).symm|exact (zd1 ho (by omega)).symm|(unfold mayTx;rw [hall,hodd];simp [g79,g84,g90,IntL.toI];try omega)|(unfold mayTx;rw [hall,hodd];simp [g79,g84,IntL.toI];try omega)|(unfold mayTx;rw [hall,hodd];simp [g79,IntL.toI];try omega)))
     ·
      refine qaW ?_
      exact zb rfl rfl (za rfl (by first|exact (zcj hx ht11 (by omega)).symm|exact (zbn hx ht11 (zaT hy ht32 (by simp [ht45]))).symm|exact (zd1 ho (by omega)).symm|(unfold mayTx;rw [hall,hodd];simp [g79,g84,g90,IntL.toI];try omega)|(unfold mayTx;rw [hall,hodd];simp [g79,g84,IntL.toI];try omega)|(unfold mayTx;rw [hall,hodd];simp [g79,IntL.toI];try omega)))
    ·
     refine qak ?_;refine qab ?_
     exact zb rfl rfl (za rfl (by first|exact (zcj hx ht11 (by omega)).symm|exact (zbn hx ht11 (zaT hy ht32 (by simp [ht45]))).symm|exact (zd1 ho (by omega)).symm|(unfold mayTx;rw [hall,hodd];simp [g79,g84,g90,IntL.toI];try omega)|(unfold mayTx;rw [hall,hodd];simp [g79,g84,IntL.toI];try omega)|(unfold mayTx;rw [hall,hodd];simp [g79,IntL.toI];try omega)))
   ·
    refine qar ?_;refine qaJ ?_;refine qak ?_;refine qab ?_
    exact zb rfl rfl (za rfl (by first|exact (zcj hx ht11 (by omega)).symm|exact (zbn hx ht11 (zaT hy ht32 (by simp [ht45]))).symm|exact (zd1 ho (by omega)).symm|(unfold mayTx;rw [hall,hodd];simp [g79,g84,g90,IntL.toI];try omega)|(unfold mayTx;rw [hall,hodd];simp [g79,g84,IntL.toI];try omega)|(unfold mayTx;rw [hall,hodd];simp [g79,IntL.toI];try omega)))
set_option maxRecDepth 20000
theorem low8 (x:UInt64):u8OfI (IntL.toI u64T (x%256))=u8OfI (IntL.toI u64T x):=by
  unfold u8OfI
  show UInt8.ofNat (((x%256).toNat:Int)%256).toNat=UInt8.ofNat ((x.toNat:Int)%256).toNat
  rw [UInt64.toNat_mod]
  congr 1
  have:(256:UInt64).toNat=256:=rfl
  rw [this];omega
theorem low8w (x:UInt32):u8OfI (IntL.toI u32T (x%256))=u8OfI (IntL.toI u32T x):=by
  unfold u8OfI
  show UInt8.ofNat (((x%256).toNat:Int)%256).toNat=UInt8.ofNat ((x.toNat:Int)%256).toNat
  rw [UInt32.toNat_mod]
  congr 1
  have:(256:UInt32).toNat=256:=rfl
  rw [this];omega
theorem shr64_nat (x:UInt64) {m:Nat} (h:m≤64):(shr64 x m).toNat=x.toNat/2^m:=by
  have hx:x.toNat<18446744073709551616:=x.toNat_lt
  unfold shr64
  rw [UInt64.toNat_ofNat_of_lt' (Nat.lt_of_le_of_lt (Nat.div_le_self _ _) hx),Nat.min_eq_left h]
theorem shr_zero (x:UInt64):x=shr64 x (8*0):=by
  apply UInt64.toNat_inj.1
  rw [shr64_nat x (by decide)];simp
theorem shr_step {x:UInt64} {k:Nat} (h:k<8):shr64 x (8*k)/256=shr64 x (8*(k+1)):=by
  apply UInt64.toNat_inj.1
  rw [UInt64.toNat_div,shr64_nat x (by omega),shr64_nat x (by omega),Nat.mul_add,Nat.pow_add,←Nat.div_div_eq_div_mul]
  rfl
def byN (k:Nat):UInt64:=shr64 72057594037927936 (8*k)
theorem byN_nat:∀k:Nat,k<8→(byN k).toNat=2^(8*(7-k)):=by decide +kernel
theorem byN_ne {k:Nat} (h:k<8):(byN k).toNat≠0:=by
  rw [byN_nat k h]
  exact Nat.ne_of_gt (Nat.two_pow_pos _)
theorem div_by {x:UInt64} {k:Nat} (h:k<8):u8OfI (IntL.toI u64T (x/byN k%256))=u8OfI (IntL.toI u64T (shr64 x (8*(8-1-k)))):=by
  rw [low8]
  congr 2
  apply UInt64.toNat_inj.1
  rw [UInt64.toNat_div,byN_nat k h,shr64_nat x (by omega)]
theorem mul8 (n:Int):u64OfI (IntL.toI i64T (8*n))=8*u64OfI (IntL.toI i64T n):=by
  apply UInt64.toNat_inj.1
  unfold u64OfI
  show (UInt64.ofNat ((8*n)%18446744073709551616).toNat).toNat=(8*UInt64.ofNat (n%18446744073709551616).toNat).toNat
  rw [UInt64.toNat_mul,UInt64.toNat_ofNat_of_lt' (by show _<18446744073709551616;omega),UInt64.toNat_ofNat_of_lt' (by show _<18446744073709551616;omega)]
  show _=8*_%18446744073709551616
  omega
theorem numBytes_take {x:UInt64} {k:Nat} (h:k<8):(numBytes x 8).take k++[u8OfI (IntL.toI u64T (x/byN k%256))]=(numBytes x 8).take (k+1):=by
  rw [List.take_add_one,div_by h]
  unfold numBytes
  rw [List.getElem?_map,List.getElem?_range h];rfl
theorem flat_take {α:Type} {k:Nat} (ls:List (List α)):(ls.take k).flatten.length≤ls.flatten.length:=by
  conv=>rhs;rw [←List.take_append_drop k ls,List.flatten_append,List.length_append]
  omega
theorem flat_succ {α:Type} {k:Nat} {ls:List (List α)} {x:List α} (h:ls[k]?=some x):(ls.take (k+1)).flatten=(ls.take k).flatten++x:=by
  rw [List.take_add_one,h,List.flatten_append];simp
theorem shr32_of {v:UInt32} {m:Nat} {c:UInt32} (h:m≤32) (hc:c.toNat=2^m):v/c=shr32 v m:=by
  have hx:v.toNat<4294967296:=v.toNat_lt
  apply UInt32.toNat_inj.1
  unfold shr32
  rw [UInt32.toNat_div,hc,UInt32.toNat_ofNat_of_lt' (Nat.lt_of_le_of_lt (Nat.div_le_self _ _) hx),Nat.min_eq_left h]
theorem shr32_zero (v:UInt32):v=shr32 v 0:=by
  have hx:v.toNat<4294967296:=v.toNat_lt
  apply UInt32.toNat_inj.1
  unfold shr32
  rw [UInt32.toNat_ofNat_of_lt' (Nat.lt_of_le_of_lt (Nat.div_le_self _ _) hx)];simp
theorem out_byte {V:List UInt32} {k j:Nat} {v:UInt32} (hv:V[k]?=some v) (hj:j<4):shaByte V (4*k+j)=u8OfI (IntL.toI u32T (shr32 v (24-8*j))):=by
  unfold shaByte
  rw [show (4*k+j)/4=k by omega,show (4*k+j)%4=j by omega,List.getD_eq_getElem?_getD,hv];rfl
theorem out4 {V:List UInt32} {k:Nat} {v:UInt32} (hv:V[k]?=some v):((((shaOut V (4*k)).set (4*k) (u8OfI (IntL.toI u32T (v/16777216)))).set (4*k+1) (u8OfI (IntL.toI u32T (v/65536%256)))).set (4*k+2) (u8OfI (IntL.toI u32T (v/256%256)))).set (4*k+3) (u8OfI (IntL.toI u32T (v%256)))=shaOut V (4*(k+1)):=by
  rw [low8w,low8w,low8w,shr32_of (m:=24) (by decide) rfl,shr32_of (m:=16) (by decide) rfl,shr32_of (m:=8) (by decide) rfl]
  have e0:=out_byte hv (j:=0) (by decide)
  have e1:=out_byte hv (j:=1) (by decide)
  have e2:=out_byte hv (j:=2) (by decide)
  have e3:=out_byte hv (j:=3) (by decide)
  have z:u8OfI (IntL.toI u32T v)=u8OfI (IntL.toI u32T (shr32 v 0)):=by rw [←shr32_zero v]
  have s0:(shaOut V (4*k)).set (4*k) (u8OfI (IntL.toI u32T (shr32 v 24)))=shaOut V (4*k+1):=zdW e0.symm
  have s1:(shaOut V (4*k+1)).set (4*k+1) (u8OfI (IntL.toI u32T (shr32 v 16)))=shaOut V (4*k+2):=zdW e1.symm
  have s2:(shaOut V (4*k+2)).set (4*k+2) (u8OfI (IntL.toI u32T (shr32 v 8)))=shaOut V (4*k+3):=zdW e2.symm
  have s3:(shaOut V (4*k+3)).set (4*k+3) (u8OfI (IntL.toI u32T (shr32 v 0)))=shaOut V (4*k+4):=zdW e3.symm
  rw [z,s0,s1,s2,s3];rfl
theorem rbin_ok (n:UInt64) (size:Nat) (hs:size≤8):Tells P 144 [.val u64T n,.val i64T (size:Int)] (.fresh 5 u8T (numBytes n size)):=by
 refine zc Tryz.func144 rfl rfl rfl (fun ext w hext=>?_)
 refine ze (d:=1) rfl zQ (fun hin1=>?_)
 refine qay ?_;refine qbb ?_;refine A0 zbh ?_;refine zd9 (d:=8) rfl (decide_eq_false (by show ¬((size:Int)<0);omega)) ?_;refine qar ?_;refine A1 mV ?_;refine A1 zbb ?_;refine zd9 (d:=11) rfl (decide_eq_false (by show ¬((8:Int)<(size:Int));omega)) ?_;refine qaq ?_;refine Cg ?_;refine qbG ?_;refine aw_mks (T:=u8T) (n:=size) rfl rfl rfl rfl rfl rfl (by first|omega|rfl) (by first|omega|rfl) zR ze_5 ⟨by omega,by omega,(show (size)*1≤16777216 by omega)⟩ ?_;refine A0 aO ?_;refine qbb ?_;refine A0 zay ?_;refine qbC ?_
 refine zp (d:=6) (y:=(size:Int)-1-((0:Nat):Int)) rfl (by omega) ?_;refine zp (d:=0) (y:=shr64 n (8*0)) rfl (shr_zero n) ?_
 refine Lp (ι:=Nat×List UInt8) 1 (fun (i:Nat×List UInt8)=>match i with|(k,l)=>(((Fr.none).set 0 (.val u64T (shr64 n (8*k)))).set 5 (.own 0)).set 6 (.val i64T ((size:Int)-1-(k:Int)))) (fun (i:Nat×List UInt8)=>match i with|(k,l)=>(Hp.none).set 0 (.row 5 u8T l)) (fun (i:Nat×List UInt8)=>match i with|(k,l)=>k≤size∧l.length=size∧∀j,size-k≤j→j<size→l[j]?=(numBytes n size)[j]?) (fun (i:Nat×List UInt8)=>match i with|(k,l)=>size-k) ((0,List.replicate size 0)) (⟨Nat.zero_le _,by simp,fun j h1 h2=>by omega⟩) ?_
 intro ⟨k,l⟩ hinv
 dsimp only at hinv
 refine qa9 ?_;refine qbk ?_;refine Cf (p:=k<size) (fun ht18=>?_) (fun ht18=>?_)
 ·
  obtain ⟨x,hx⟩:∃x,l[size-1-k]?=some x:=⟨_,List.getElem?_eq_getElem (by omega)⟩
  refine CSQBQR ?_;refine A0 mO ?_;refine qag ?_;refine A0 (g_rem64 rfl rfl rfl (by decide)) ?_;refine A0 (zcU rfl (ui_5) (us_33) rfl) ?_;refine A0 (zas (i:=size-1-k) rfl rfl rfl rfl (by first|omega|rfl) zaW (by first|assumption|omega|(simp;omega))) ?_;refine zdl rfl rfl rfl rfl rfl rfl (by assumption) (Lens.self _) ty_5 rfl ?_;refine CNR ?_;refine qar ?_;refine A0 (g_quo64 rfl rfl rfl (by decide)) ?_;refine A0 aV ?_;refine CNIR ?_;refine qby ?_;refine qab ?_;refine zp (d:=0) (y:=shr64 n (8*(k+1))) rfl (shr_step (by omega)) ?_
  refine zp (d:=6) (y:=(size:Int)-1-((k+1:Nat):Int)) rfl (by omega) ?_;refine zK (n:=0) (y:=l.set (size-1-k) (u8OfI (IntL.toI u64T (shr64 n (8*k))))) rfl (congrArg (fun z=>l.set (size-1-k) z) (low8 _)) ?_
  exact Nx ((k+1,l.set (size-1-k) (u8OfI (IntL.toI u64T (shr64 n (8*k)))))) (⟨by omega,by simp;exact hinv.2.1,numBytes_step ht18 hinv.2.1 hinv.2.2⟩) (by show _<size-k;simp only [];omega)
 ·
  refine qat ?_
  exact zb rfl rfl (zg rfl rfl (numBytes_all hinv.2.1 (by rw [show k=size by omega] at hinv;exact hinv.2.2)))
theorem rpad_ok (b:List UInt8) (hb:b.length≤70368744177664):Tells P 193 [.val (bsl u8T) b] (.fresh 5 u8T (padOf b)):=by
 have hz:padZ b.length=(64-(b.length+9)%64)%64:=rfl
 refine zc Tryz.func193 rfl rfl rfl (fun ext w hext=>?_)
 refine ze (d:=0) rfl zi (fun hsl0=>?_)
 refine qay ?_;refine qbx ?_;refine zcN rfl rfl rfl rfl rfl rfl zR (by (try simp only [List.length_append,List.length_cons,List.length_nil,List.length_replicate,List.length_take,zN]);omega) ?_;refine qaT ?_;refine A0 (zo (T:=u8T) (xs:=[_]) rfl zaW zR ⟨rfl,rfl,trivial⟩ rfl rfl) ?_;refine zn rfl rfl rfl rfl rfl rfl rfl zR (by (try simp only [List.length_append,List.length_cons,List.length_nil,List.length_replicate,List.length_take,zN]);omega) ?_;refine A0 aO ?_;refine CNQ ?_;refine CB ?_
 refine zK (n:=1) (y:=b++128::List.replicate 0 0) rfl (by simp) ?_;refine Lp (ι:=Nat) 2 (fun (j:Nat)=>((Fr.none).set 0 (.val (bsl u8T) b)).set 3 (.own 1)) (fun (j:Nat)=>(Hp.none).set 1 (.row 5 u8T (b++128::List.replicate j 0))) (fun (j:Nat)=>j≤padZ b.length) (fun (j:Nat)=>padZ b.length-j) (0) (Nat.zero_le _) ?_
 intro j hinv
 refine CQQR ?_;refine A0 mO ?_;refine A0 (zaY rfl rfl rfl zcT) ?_;refine A0 (g_rem rfl rfl rfl (by first|omega|assumption) (by first|decide|omega) rfl) ?_;refine qaB ?_;refine zj (p:=j<padZ b.length) rfl (by simp [IntL.toI];rw [←decide_not,decide_eq_decide];omega) (fun ht15=>?_) (fun ht15=>?_)
 ·
  refine CS ?_;refine CB ?_;refine CR ?_;refine A0 mO ?_;refine A0 (zo (T:=u8T) (xs:=[_]) rfl zaW zR ⟨rfl,rfl,trivial⟩ rfl rfl) ?_;refine zn rfl rfl rfl rfl rfl rfl rfl zR (by (try simp only [List.length_append,List.length_cons,List.length_nil,List.length_replicate,List.length_take,zN]);omega) ?_;refine qbe ?_;refine CI ?_;refine zaB 2 1 3 rfl rfl rfl rfl rfl rfl ?_;refine zK (n:=1) (y:=b++128::List.replicate (j+1) 0) rfl (by rw [List.replicate_succ'];simp) ?_
  exact Nx (j+1) (by omega) (by omega)
 ·
  obtain rfl:j=padZ b.length:=(by omega)
  refine CE ?_;refine qa2 ?_;refine A0 (zah rfl rfl zcT) ?_;refine A0 zfc ?_;refine A0 (zcr rfl (ui_33) (us_3) rfl) ?_;refine zp (d:=22) (y:=(8*u64OfI (IntL.toI i64T (b.length:Int)))) rfl (mul8 _) ?_;refine qai ?_;refine qbr ?_;refine zK (n:=1) (y:=(b++128::List.replicate (padZ b.length) 0)++(numBytes (8*u64OfI (IntL.toI i64T (b.length:Int))) 8).take 0) rfl (by simp) ?_;refine zp (d:=5) (y:=byN 0) rfl (shr_zero _) ?_
  refine Lp (ι:=Nat) 2 (fun (k:Nat)=>((((Fr.none).set 3 (.own 1)).set 4 (.val u64T (8*u64OfI (IntL.toI i64T (b.length:Int))))).set 5 (.val u64T (byN k))).set 6 (.val i64T (k:Int))) (fun (k:Nat)=>(Hp.none).set 1 (.row 5 u8T ((b++128::List.replicate (padZ b.length) 0)++(numBytes (8*u64OfI (IntL.toI i64T (b.length:Int))) 8).take k))) (fun (k:Nat)=>k≤8) (fun (k:Nat)=>8-k) (0) (Nat.zero_le _) ?_
  intro k hinv
  refine qa9 ?_;refine qaz ?_;refine Cf (p:=k<8) (fun ht24=>?_) (fun ht24=>?_)
  ·
   refine CSQBQR ?_;refine A0 mO ?_;refine qag ?_;refine A0 (g_quo64 rfl rfl rfl (by first|decide|exact byN_ne ht24)) ?_;refine A0 (g_rem64 rfl rfl rfl (by first|decide|exact byN_ne ht24)) ?_;refine A0 (zcU rfl (ui_5) (us_33) rfl) ?_;refine A0 (zo (T:=u8T) (xs:=[_]) rfl zaW zR ⟨rfl,rfl,trivial⟩ rfl rfl) ?_;refine zn rfl rfl rfl rfl rfl rfl rfl zR (by (try simp only [List.length_append,List.length_cons,List.length_nil,List.length_replicate,List.length_take,zN]);omega) ?_;refine A0 aO ?_;refine CNR ?_;refine qar ?_
   refine A0 (g_quo64 rfl rfl rfl (by first|decide|exact byN_ne ht24)) ?_;refine A0 aV ?_;refine qaR ?_;refine zaB 2 1 3 rfl rfl rfl rfl rfl rfl ?_;refine zK (n:=1) (y:=(b++128::List.replicate (padZ b.length) 0)++(numBytes (8*u64OfI (IntL.toI i64T (b.length:Int))) 8).take (k+1)) rfl (by rw [List.append_assoc];exact congrArg _ (numBytes_take ht24)) ?_;refine zp (d:=5) (y:=byN (k+1)) rfl (shr_step ht24) ?_
   exact Nx (k+1) (by omega) (by omega)
  ·
   obtain rfl:k=8:=(by omega)
   refine qat ?_
   exact zb rfl rfl (zg rfl rfl (by rw [List.take_of_length_le (by rw [zN];exact Nat.le_refl _)];rfl))
theorem rsumB_ok (b:List UInt8) (hb:b.length≤70368744177664):Tells P 145 [.val (bsl u8T) b] (.val idT (shaSum b)):=by
 obtain ⟨m,hm⟩:∃m,m=(b.length+padZ b.length+9)/64:=⟨_,rfl⟩
 have hz2:padZ b.length<64:=by unfold padZ;omega
 have hpl:(padOf b).length=64*m:=by rw [padOf_len,hm]
 have hmb:m≤2000000000000:=by omega
 refine zc Tryz.func145 rfl rfl rfl (fun ext w hext=>?_)
 refine ze (d:=0) rfl zi (fun hsl0=>?_)
 refine CQR ?_;refine qa8 ?_;refine qbx ?_;refine A0 (oCl (zs (rpad_ok b hb)) rfl fn_193 ⟨(zd rfl),trivial⟩) ?_;refine qai ?_;refine A0 (oCl (rfirst_ok) rfl fn_194 trivial) ?_;refine qbr ?_;refine Lp (ι:=Nat) 1 (fun (k:Nat)=>((((Fr.none).set 2 (.ptr 0 0)).set 3 (.val (sl u8T) (padOf b))).set 4 (.val (sl u32T) (shaN (padOf b) k))).set 5 (.val i64T ((64*k:Nat):Int))) (fun (k:Nat)=>(Hp.none).set 0 (.box 32 idT zId)) (fun (k:Nat)=>k≤m) (fun (k:Nat)=>m-k) (0) (Nat.zero_le _) ?_
 intro k hinv
 refine qbg ?_;refine A0 (zah rfl rfl zcT) ?_;refine qaz ?_;refine Cf (p:=64*k<(padOf b).length) (fun ht14=>?_) (fun ht14=>?_)
 ·
  refine qa4 ?_;refine CR ?_;refine qag ?_;refine qag ?_;refine A0 zaG ?_;refine A0 (g_sl_lh rfl rfl rfl rfl zaW (by first|assumption|omega|(simp;omega))) ?_;refine zp (d:=22) (y:=((padOf b).take (64*k+64)).drop (64*k)) rfl (by congr 1) ?_;refine A0 (oCl (zs (rwords_ok (((padOf b).take (64*k+64)).drop (64*k)) (by rw [List.length_drop,List.length_take];omega))) rfl fn_196 ⟨(zd rfl),trivial⟩) ?_
  refine A0 (oCl (zs (rrounds_ok (shaN (padOf b) k) (schedN (((padOf b).take (64*k+64)).drop (64*k)) 64) (shaN_len _ k) (zbl 64))) rfl fn_195 ⟨(zd rfl),(zd rfl),trivial⟩) ?_;refine A0 aV ?_;refine qaR ?_;refine zp (d:=4) (y:=shaN (padOf b) (k+1)) rfl shaN_succ ?_;refine zp (d:=5) (y:=((64*(k+1):Nat):Int)) rfl (by omega) ?_
  exact Nx (k+1) (by omega) (by omega)
 ·
  obtain rfl:m=k:=(by omega)
  refine qbM ?_;refine qa8 ?_;refine qax ?_;refine Lp (ι:=Nat) 2 (fun (k:Nat)=>((((Fr.none).set 2 (.ptr 0 0)).set 4 (.val (sl u32T) (shaN (padOf b) m))).set 6 (.ptr 1 0)).set 7 (.val i64T (k:Int))) (fun (k:Nat)=>((Hp.none).set 0 (.box 32 idT zId)).set 1 (.box 32 idT (shaOut (shaN (padOf b) m) (4*k)))) (fun (k:Nat)=>k≤8) (fun (k:Nat)=>8-k) (0) (Nat.zero_le _) ?_
  intro k hinv
  refine qa9 ?_;refine qaz ?_;refine Cf (p:=k<8) (fun ht26=>?_) (fun ht26=>?_)
  ·
   obtain ⟨v,hv⟩:∃x,(shaN (padOf b) m)[k]?=some x:=⟨_,List.getElem?_eq_getElem (by rw [shaN_len];exact ht26)⟩
   refine qaL ?_;refine A0 zfc ?_;refine qag ?_;refine A0 (zm (i:=k) rfl rfl rfl (by omega) zat (by assumption)) ?_;refine A0 (zf rfl rfl z8) ?_;refine A0 (g_quo32 rfl rfl rfl (by decide)) ?_;refine A0 (zcU rfl (ui_5) (us_36) rfl) ?_;refine A0 (zt (i:=4*k) rfl rfl rfl (by first|omega|rfl) za5 (by omega)) ?_;refine zh rfl rfl rfl rfl rfl (Lens.elem (i:=4*k) (by omega) u8T) ty_5 rfl ?_;refine qbx ?_;refine A0 zfc ?_;refine A0 zaG ?_;refine qag ?_;refine A0 (zm (i:=k) rfl rfl rfl (by omega) zat (by assumption)) ?_;refine A0 (zf rfl rfl z8) ?_
   refine A0 (g_quo32 rfl rfl rfl (by decide)) ?_;refine A0 (g_rem32 rfl rfl rfl (by decide)) ?_;refine A0 (zcU rfl (ui_5) (us_36) rfl) ?_;refine A0 (zt (i:=4*k+1) rfl rfl rfl (by first|omega|rfl) za5 (by omega)) ?_;refine zh rfl rfl rfl rfl rfl (Lens.elem (i:=4*k+1) (by omega) u8T) ty_5 rfl ?_;refine qbx ?_;refine A0 zfc ?_;refine A0 zaG ?_;refine qag ?_;refine A0 (zm (i:=k) rfl rfl rfl (by omega) zat (by assumption)) ?_;refine A0 (zf rfl rfl z8) ?_;refine A0 (g_quo32 rfl rfl rfl (by decide)) ?_;refine A0 (g_rem32 rfl rfl rfl (by decide)) ?_
   refine A0 (zcU rfl (ui_5) (us_36) rfl) ?_;refine A0 (zt (i:=4*k+2) rfl rfl rfl (by first|omega|rfl) za5 (by omega)) ?_;refine zh rfl rfl rfl rfl rfl (Lens.elem (i:=4*k+2) (by omega) u8T) ty_5 rfl ?_;refine CNR ?_;refine qar ?_;refine A0 zfc ?_;refine A0 zaG ?_;refine qag ?_;refine A0 (zm (i:=k) rfl rfl rfl (by omega) zat (by assumption)) ?_;refine A0 (zf rfl rfl z8) ?_;refine A0 (g_rem32 rfl rfl rfl (by decide)) ?_;refine A0 (zcU rfl (ui_5) (us_36) rfl) ?_;refine A0 (zt (i:=4*k+3) rfl rfl rfl (by first|omega|rfl) za5 (by omega)) ?_
   refine zh rfl rfl rfl rfl rfl (Lens.elem (i:=4*k+3) (by omega) u8T) ty_5 rfl ?_;refine qaR ?_;refine zD (n:=1) (y:=shaOut (shaN (padOf b) m) (4*(k+1))) rfl (out4 hv) ?_
   exact Nx (k+1) (by omega) (by omega)
  ·
   obtain rfl:k=8:=(by omega)
   refine qbM ?_;refine qaN ?_;refine qbz ?_
   exact zu rfl rfl rfl rfl zM (by rw [shaOut_all];unfold shaSum shaWords;rw [hpl,Nat.mul_div_cancel_left m (by decide)])
theorem rof_ok (ls:List (List UInt8)) (hl:ls.flatten.length≤70368744177664):Tells P 91 [.val (bsl (bsl u8T)) ls] (.val idT (shaSum ls.flatten)):=by
 refine zc Tryz.func91 rfl rfl rfl (fun ext w hext=>?_)
 refine ze (d:=0) rfl zi (fun hsl0=>?_)
 refine CQR ?_;refine qa8 ?_;refine CNQR ?_;refine A0 aL ?_;refine qax ?_;refine za0 (T:=u8T) (d:=3) 5 rfl ?_;refine Lp (ι:=Nat) 2 (fun (k:Nat)=>((((Fr.none).set 0 (.val (bsl (bsl u8T)) ls)).set 2 (.ptr 0 0)).set 3 (.own 1)).set 4 (.val i64T (k:Int))) (fun (k:Nat)=>((Hp.none).set 0 (.box 32 idT zId)).set 1 (.row 5 u8T (ls.take k).flatten)) (fun (k:Nat)=>k≤ls.length) (fun (k:Nat)=>ls.length-k) (0) (Nat.zero_le _) ?_
 intro k hinv
 refine qbg ?_;refine A0 (zah rfl rfl isl_128) ?_;refine qaz ?_;refine Cf (p:=k<ls.length) (fun ht8=>?_) (fun ht8=>?_)
 ·
  obtain ⟨x,hx⟩:∃x,ls[k]?=some x:=⟨_,List.getElem?_eq_getElem ht8⟩
  have hfl:=flat_take (k:=k+1) ls
  have hfs:=flat_succ hx
  rw [hfs,List.length_append] at hfl
  refine qa4 ?_;refine CR ?_;refine A0 mO ?_;refine qag ?_;refine A0 (zm (i:=k) rfl rfl rfl (by omega) zdF (by assumption)) ?_;refine A0 (zf rfl rfl zbT) ?_;refine zn rfl rfl rfl rfl rfl rfl rfl zR (by omega) ?_;refine A0 aO ?_;refine qaR ?_;refine zaB 2 1 3 rfl rfl rfl rfl rfl rfl ?_;refine zK (n:=1) (y:=(ls.take (k+1)).flatten) rfl hfs.symm ?_
  exact Nx (k+1) (by omega) (by omega)
 ·
  refine zK (n:=1) (y:=ls.flatten) rfl (by rw [List.take_of_length_le (by omega)]) ?_;refine qbM ?_;refine A0 mO ?_;refine A0 (oCl (rsumB_ok ls.flatten hl) rfl fn_145 ⟨(zy rfl rfl),trivial⟩) ?_;refine qbz ?_
  exact zu rfl rfl rfl rfl zM (rfl)
theorem rput_ok (t:Tx):Tells P 232 [.val txT t] (.tup2 (.fresh 5 u8T (if mayTx t=true then putTx t else [])) (.val boolT (mayTx t))):=by
 refine zc Tryz.func232 rfl rfl rfl (fun ext w hext=>?_)
 refine ze (d:=0) rfl fact_tx (fun h32=>?_)
 refine qbi ?_;refine qai ?_;refine qbd ?_;refine A0 (oCl (rmayTx_ok _) rfl fn_203 ⟨(zd rfl),trivial⟩) ?_;refine qah ?_;refine qaE ?_;refine zj (p:=¬mayTx t=true) rfl (by simp) (fun ht11=>?_) (fun ht11=>?_)
 ·
  refine qay ?_;refine qab ?_
  exact z7 rfl rfl (by rw [if_neg ht11];exact zH rfl) (za rfl (by simpa using ht11))
 ·
  have hmay:=Classical.not_not.1 ht11
  obtain ⟨hmi,hm0,hmo⟩:=zci hmay
  refine CSQR ?_;refine qa1 ?_;refine A0 (zcU rfl (ui_5) (us_3) rfl) ?_;refine zaN (T:=u8T) (xs:=[_]) rfl rfl rfl rfl zaW zR ⟨rfl,rfl,trivial⟩ rfl rfl ?_;refine A0 aO ?_;refine qax ?_;refine Lp (ι:=Nat) 2 (fun (k:Nat)=>(((Fr.none).set 1 (.ptr 0 0)).set 5 (.own 1)).set 6 (.val i64T (k:Int))) (fun (k:Nat)=>((Hp.none).set 0 (.box 140 txT t)).set 1 (.row 5 u8T (putIns t k))) (fun (k:Nat)=>k≤t.ins.length∧(putIns t k).length=33*k+1) (fun (k:Nat)=>t.ins.length-k) (0) (⟨Nat.zero_le _,by simp [putIns]⟩) ?_
  intro k hinv
  obtain ⟨hk,hpl⟩:=hinv
  have hinv:=And.intro hk hpl
  refine qa9 ?_;refine qa1 ?_;refine qaz ?_;refine Cf (p:=k<t.ins.length) (fun ht21=>?_) (fun ht21=>?_)
  ·
   obtain ⟨x,hx⟩:∃x,t.ins[k]?=some x:=⟨_,List.getElem?_eq_getElem ht21⟩
   have hx32:=h32 x (List.mem_of_getElem? hx)
   refine CSQBQR ?_;refine A0 mO ?_;refine qbV ?_;refine qar ?_;refine A0 (zm (i:=k) rfl rfl rfl (by omega) zdt (by assumption)) ?_;refine A0 (oFr zb6 zdm) ?_;refine A0 (zae rfl rfl za5 rfl rfl) ?_;refine zn rfl rfl rfl rfl rfl rfl rfl zR (by show (_+x.tx.length)*1≤_∧_+x.tx.length≤_;omega) ?_;refine A0 aO ?_;refine CNR ?_;refine A0 mO ?_;refine qbV ?_;refine qar ?_;refine A0 (zm (i:=k) rfl rfl rfl (by omega) zdt (by assumption)) ?_;refine A0 (oFr za3 zdD) ?_;refine qb6 ?_;refine A0 (zcU rfl (ui_5) (us_3) rfl) ?_
   refine A0 (zo (T:=u8T) (xs:=[_]) rfl zaW zR ⟨rfl,rfl,trivial⟩ rfl rfl) ?_;refine zn rfl rfl rfl rfl rfl rfl rfl zR (by simp only [List.length_append,List.length_cons,List.length_nil,hx32];omega) ?_;refine A0 aO ?_;refine qaR ?_;refine zaB 3 1 4 rfl rfl rfl rfl rfl rfl ?_;refine zK (n:=1) rfl (zfa hx).symm ?_
   exact Nx (k+1) (⟨by omega,by rw [zfa hx];simp only [List.length_append,List.length_cons,List.length_nil,hx32];omega⟩) (by omega)
  ·
   obtain rfl:k=t.ins.length:=(by omega)
   obtain ⟨hli,_⟩:=hinv
   refine qbM ?_;refine A0 mO ?_;refine qaD ?_;refine A0 (zcU rfl (ui_5) (us_3) rfl) ?_;refine A0 (zo (T:=u8T) (xs:=[_]) rfl zaW zR ⟨rfl,rfl,trivial⟩ rfl rfl) ?_;refine zn rfl rfl rfl rfl rfl rfl rfl zR (by simp only [List.length_append,List.length_cons,List.length_nil];omega) ?_;refine A0 aO ?_;refine qax ?_;refine zaB 2 1 3 rfl rfl rfl rfl rfl rfl ?_;refine zK (y:=putOuts t 0) (n:=1) rfl (by simp [putOuts]) ?_
   refine Lp (ι:=Nat) 2 (fun (k:Nat)=>(((Fr.none).set 1 (.ptr 0 0)).set 5 (.own 1)).set 7 (.val i64T (k:Int))) (fun (k:Nat)=>((Hp.none).set 0 (.box 140 txT t)).set 1 (.row 5 u8T (putOuts t k))) (fun (k:Nat)=>k≤t.outs.length∧(putOuts t k).length=7*k+2+33*t.ins.length) (fun (k:Nat)=>t.outs.length-k) (0) (⟨Nat.zero_le _,by simp [putOuts,hpl];omega⟩) ?_
   intro k hinv
   refine qa9 ?_;refine qaD ?_;refine qaz ?_;refine Cf (p:=k<t.outs.length) (fun ht53=>?_) (fun ht53=>?_)
   ·
    obtain ⟨x,hx⟩:∃x,t.outs[k]?=some x:=⟨_,List.getElem?_eq_getElem ht53⟩
    refine CSQBQR ?_;refine A0 mO ?_;refine A0 (oFp zbf) ?_;refine A0 (oLb zaU zc9) ?_;refine qar ?_;refine A0 (zm (i:=k) rfl rfl rfl (by omega) zdV (by assumption)) ?_;refine A0 (oFr zbL zcI) ?_;refine qb6 ?_;refine A0 (zcr rfl (ui_33) (us_3) rfl) ?_;refine A0 (oCl (zs (rbin_ok _ 6 (by decide))) rfl fn_144 ⟨(zd rfl),(zd rfl),trivial⟩) ?_;refine zn rfl rfl rfl rfl rfl rfl rfl zR (by simp only [List.length_append,List.length_cons,List.length_nil,zN];omega) ?_;refine A0 aO ?_;refine CNR ?_;refine A0 mO ?_;refine A0 (oFp zbf) ?_
    refine A0 (oLb zaU zc9) ?_;refine qar ?_;refine A0 (zm (i:=k) rfl rfl rfl (by omega) zdV (by assumption)) ?_;refine A0 (oFr zck zc8) ?_;refine qb6 ?_;refine A0 (zcU rfl (ui_5) (us_3) rfl) ?_;refine A0 (zo (T:=u8T) (xs:=[_]) rfl zaW zR ⟨rfl,rfl,trivial⟩ rfl rfl) ?_;refine zn rfl rfl rfl rfl rfl rfl rfl zR (by simp only [List.length_append,List.length_cons,List.length_nil,zN];omega) ?_;refine A0 aO ?_;refine qaR ?_;refine zaB 3 1 4 rfl rfl rfl rfl rfl rfl ?_;refine zK (n:=1) rfl (zeh hx).symm ?_
    exact Nx (k+1) (⟨by omega,by rw [zeh hx];simp only [List.length_append,List.length_cons,List.length_nil,zN];omega⟩) (by omega)
   ·
    refine qbM ?_;refine A0 mO ?_;refine A0 aO ?_;refine qab ?_
    exact z7 rfl rfl (zg rfl rfl (by rw [if_pos hmay,show k=t.outs.length by omega];rfl)) (za rfl hmay.symm)
theorem rid_ok (t:Tx):Tells P 205 [.val txT t] (.val idT (idOf t)):=by
 refine zc Tryz.func205 rfl rfl rfl (fun ext w hext=>?_)
 refine ze (d:=0) rfl fact_tx (fun h32=>?_)
 refine qad ?_;refine qa8 ?_;refine CNQR ?_;refine qbd ?_;refine A0 (oCl (zcg (rput_ok t)) rfl fn_232 ⟨(zd rfl),trivial⟩) ?_;refine A0 mX ?_;refine A0 (by first|exact zW rfl rfl|exact zU rfl rfl) ?_;refine A0 (by first|exact zY rfl rfl|exact zX rfl rfl) ?_;refine A0 aV ?_;refine qah ?_;refine qaE ?_;refine zj (p:=¬mayTx t=true) rfl (by simp) (fun ht11=>?_) (fun ht11=>?_)
 ·
  refine CQR ?_;refine A0 (zaA rfl za5 ze_32 rfl) ?_;refine qbz ?_
  exact zu rfl rfl rfl rfl zM (by unfold idOf;rw [if_neg ht11])
 ·
  refine zp (d:=3) rfl (if_pos (Classical.not_not.1 ht11)) ?_;refine CSQR ?_;refine A0 (zo (T:=u8T) (xs:=[_]) rfl zaW zR ⟨rfl,rfl,trivial⟩ rfl rfl) ?_;refine qar ?_;refine A0 (zo (T:=(sl u8T)) (xs:=[_,_]) rfl zdF zde ⟨rfl,rfl,rfl,rfl,trivial⟩ rfl rfl) ?_;refine A0 (oCl (rof_ok [[6],putTx t] (by have:=putTx_len (Classical.not_not.1 ht11) h32;simp;omega)) rfl fn_91 ⟨(zd rfl),trivial⟩) ?_;refine qbz ?_
  exact zu rfl rfl rfl rfl zM (by unfold idOf;rw [if_pos (Classical.not_not.1 ht11)];simp)
end Go.Proofs.YtjldddonpfopaaaGreat
