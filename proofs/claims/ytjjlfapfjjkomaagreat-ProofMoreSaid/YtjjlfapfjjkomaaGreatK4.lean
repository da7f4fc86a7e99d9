/- Parts of the proof: the layer that reads Go values as data, and what the functions of the program tell. -/
import Derived.Test.YtjjlfapfjjkomaaGreatK3
set_option linter.unusedVariables false
set_option linter.unusedSimpArgs false
set_option maxRecDepth 20000
namespace Go.Proofs.YtjjlfapfjjkomaaGreat
open Go.Ab Go.RowKit
def outOdd (o:Out):Bool:=decide (o.v<1∨1099511627776<o.v∨o.to<0∨255<o.to)
def inAt (t:Tx) (k:Nat):Bool:=match t.ins[k]? with
  | none=>true
  | some x=>decide (0≤x.i∧x.i<3) && !((t.ins.take k).any fun c=>decide (x=c))
def mayTx (t:Tx):Bool:=(List.range t.ins.length).all (inAt t)&&(decide (t.ins.length≤3)&&(decide (0<t.outs.length)&&(decide (t.outs.length≤3) && !(t.outs.any outOdd))))
theorem inAt_bad {t:Tx} {k:Nat} {x:In} (h:t.ins[k]?=some x) (hk:k<t.ins.length) (hb:¬(0≤x.i∧x.i<3)):mayTx t=false:=by
  unfold mayTx
  rw [zc3 hk (by unfold inAt;rw [h];simp only [decide_eq_false hb,Bool.false_and]),Bool.false_and]
theorem inAt_twice {t:Tx} {k:Nat} {x:In} (h:t.ins[k]?=some x) (hk:k<t.ins.length) (hb:((t.ins.take k).any fun c=>decide (x=c))=true):mayTx t=false:=by
  unfold mayTx
  rw [zc3 hk (by unfold inAt;rw [h];simp only [hb,Bool.not_true,Bool.and_false]),Bool.false_and]
theorem inAt_good {t:Tx} {k:Nat} {x:In} (h:t.ins[k]?=some x) (hb:0≤x.i∧x.i<3) (hc:¬((t.ins.take k).any fun c=>decide (x=c))=true):inAt t k=true:=by
  unfold inAt;rw [h];simp only [decide_eq_true hb,Bool.true_and]
  cases hh:((t.ins.take k).any fun c=>decide (x=c)) with
  | true=>exact absurd hh hc
  | false=>rfl
theorem mayTx_ok (t:Tx):Tells P 236 [.val txT t] (.val boolT (mayTx t)):=by
 refine zc Tryz.func236 rfl rfl rfl (fun ext w hext=>?_)
 refine qaf ?_;refine A0 aV ?_;refine CNQQR ?_;refine qaU ?_;refine qa8 ?_;refine Lp (ι:=Nat) 1 (fun (k:Nat)=>((((Fr.none).set 1 (.ptr 0 0)).set 7 (.val (sl inT) t.ins)).set 8 (.val i64T (t.ins.length:Int))).set 9 (.val i64T (k:Int))) (fun (k:Nat)=>(Hp.none).set 0 (.box 133 txT t)) (fun (k:Nat)=>k≤t.ins.length∧(List.range k).all (inAt t)=true) (fun (k:Nat)=>t.ins.length-k) (0) (⟨Nat.zero_le _,rfl⟩) ?_
 intro k hinv
 refine ze (d:=7) rfl zk (fun hsi=>?_)
 refine qaj ?_;refine Cf (p:=k<t.ins.length) (fun ht10=>?_) (fun ht10=>?_)
 ·
  obtain ⟨x,hx⟩:∃x,t.ins[k]?=some x:=⟨_,List.getElem?_eq_getElem ht10⟩
  refine qaP ?_;refine qb9 ?_;refine A0 aV ?_;refine zh rfl rfl rfl rfl rfl (Lens.self _) zbD rfl ?_;refine CNQ ?_;refine CD mixed ?_;refine G0 (oFp zbu) ?_;refine G0 (oLb L_In_i ty_3) ?_;refine G0 zbx ?_;refine G0 mV ?_;refine zai (d:=17) (p:=x.i<0) rfl (by first|rfl|(rw [decide_eq_decide];simp only [IntL.toI,id_eq];omega)|(simp [IntL.toI];done)|(simp [IntL.toI];omega)) (fun g17=>?_) (fun g17=>?_)
  ·
   refine qau ?_;refine G0 oK ?_;refine G0 mV ?_;refine qau ?_;refine qau ?_;refine qaE ?_;refine Ct ?_;refine qa5 ?_
   exact zb rfl rfl (za rfl (inAt_bad hx ht10 (by omega)).symm)
  ·
   refine G1 (oFp zbu) ?_;refine G1 (oLb L_In_i ty_3) ?_;refine G1 zcU ?_;refine G0 oK ?_;refine G0 mV ?_;refine zai (d:=22) (p:=3≤x.i) rfl (by first|rfl|(rw [decide_eq_decide];simp only [IntL.toI,id_eq];omega)|(simp [IntL.toI];done)|(simp [IntL.toI];omega)) (fun g22=>?_) (fun g22=>?_)
   ·
    refine qau ?_;refine qau ?_;refine qaE ?_;refine Ct ?_;refine qa5 ?_
    exact zb rfl rfl (za rfl (inAt_bad hx ht10 (by omega)).symm)
   ·
    refine G1 (oFp zbv) ?_;refine G1 (oLb zc4 zdZ) ?_;refine G1 mV ?_;refine G1 (by first|exact zbj rfl rfl rfl (by first|rfl|omega) sl_130|exact zdG rfl rfl rfl sl_130 (by first|assumption|omega|(simp;omega))) ?_;refine G1 (oLs rfl rfl rfl zbD) ?_;refine G1 (oCl (containsIn _ _) rfl fn_283 ⟨(zd rfl),(zd rfl),trivial⟩) ?_;refine qaE ?_;refine zr (p:=((t.ins.take k).any fun c=>decide (x=c))=true) rfl (Bool.decide_eq_true.symm) (fun ht29=>?_) (fun ht29=>?_)
    ·
     refine qa5 ?_
     exact zb rfl rfl (za rfl (inAt_twice hx ht10 ht29).symm)
    ·
     refine qbh ?_
     exact Nx (k+1) (⟨by omega,zeA hinv.2 (inAt_good hx (by omega) ht29)⟩) (by omega)
 ·
  refine CE ?_;refine CQR ?_;refine A0 aC ?_;refine CNQR ?_;refine qaU ?_;refine A0 zcN ?_;refine qaw ?_;refine Sp (d:=35) (p:=t.ins.length≤3) (fun g35=>?_) (fun g35=>?_)
  ·
   refine qb6 ?_;refine A1 (zR rfl rfl zds) ?_;refine A1 zaI ?_;refine qae ?_;refine Sp (d:=41) (p:=0<t.outs.length) (fun g41=>?_) (fun g41=>?_)
   ·
    refine qb6 ?_;refine A1 (zR rfl rfl zds) ?_;refine A1 zcN ?_;refine qae ?_;refine Sp (d:=47) (p:=t.outs.length≤3) (fun g47=>?_) (fun g47=>?_)
    ·
     refine qb6 ?_;refine A1 mC ?_;refine A1 (oCl (containsFuncOut _ _) rfl fn_285 ⟨(zd rfl),(by first|exact zcH (Cs:=[]) rfl fn_284 (by intro n hn;cases hn) trivial rfl (fun x=>odd_ok _)|exact zcG (Cs:=[]) rfl fn_284 (by intro n hn;cases hn) trivial rfl (fun x y=>odd_ok _)|exact zcI rfl),trivial⟩) ?_;refine A1 oN ?_;refine qa3 ?_
     exact zb rfl rfl (za rfl (by rw [show k=t.ins.length by omega] at hinv;unfold mayTx;rw [hinv.2,decide_eq_true g35,decide_eq_true g41,decide_eq_true g47];rfl))
    ·
     refine qab ?_;refine qaC ?_;refine qa3 ?_
     exact zb rfl rfl (za rfl (by unfold mayTx;simp only [decide_eq_false g47,Bool.false_and,Bool.and_false]))
   ·
    refine qab ?_;refine qay ?_;refine A2 ?_;refine qa3 ?_
    exact zb rfl rfl (za rfl (by unfold mayTx;simp only [decide_eq_false g41,Bool.false_and,Bool.and_false]))
  ·
   refine qab ?_;refine qay ?_;refine qaM ?_;refine qaC ?_;refine qa3 ?_
   exact zb rfl rfl (za rfl (by unfold mayTx;simp only [decide_eq_false g35,Bool.false_and,Bool.and_false]))
def halves {α:Type} (c:α→Int) (l:List α) (lo hi:Nat):Nat :=
  if h:lo<hi then
    match l[(lo+hi)/2]? with
    | none=>lo
    | some x=>if c x<0 then halves c l ((lo+hi)/2+1) hi else halves c l lo ((lo+hi)/2)
  else lo
termination_by hi-lo
theorem halves_lt {α:Type} {c:α→Int} {l:List α} {lo hi:Nat} {x:α} (h:lo<hi) (hx:l[(lo+hi)/2]?=some x) (hc:c x<0):halves c l lo hi=halves c l ((lo+hi)/2+1) hi:=by
  rw [halves,dif_pos h];simp only [hx,if_pos hc]
theorem halves_ge {α:Type} {c:α→Int} {l:List α} {lo hi:Nat} {x:α} (h:lo<hi) (hx:l[(lo+hi)/2]?=some x) (hc:¬c x<0):halves c l lo hi=halves c l lo ((lo+hi)/2):=by
  rw [halves,dif_pos h];simp only [hx,if_neg hc]
theorem zbn {α:Type} {c:α→Int} {l:List α} {lo:Nat}:halves c l lo lo=lo:=by rw [halves,dif_neg (Nat.lt_irrefl _)]
def foundAt {α:Type} (c:α→Int) (l:List α) (i:Nat):Bool:=match l[i]? with|none=>false|some x=>decide (c x=0)
theorem mid_eq {lo hi:Nat} (h:lo+hi<18446744073709551616):IntKind.i64.wrap (IntL.toI u64T (shr64 (u64OfI (IntL.toI i64T ((lo:Int)+(hi:Int)))) (IntL.toI u64T (1:UInt64)).toNat))=(((lo+hi)/2:Nat):Int):=by
  have e1:(u64OfI ((lo:Int)+(hi:Int))).toNat=lo+hi:=by
    unfold u64OfI
    rw [UInt64.toNat_ofNat_of_lt' (by show (((lo:Int)+hi)%18446744073709551616).toNat<18446744073709551616;omega)];omega
  have e2:(shr64 (u64OfI ((lo:Int)+(hi:Int))) 1).toNat=(lo+hi)/2:=by
    unfold shr64
    rw [e1,UInt64.toNat_ofNat_of_lt' (by show (lo+hi)/2^min 1 64<18446744073709551616;rw [show min 1 64=1 from rfl];omega)]
    rfl
  show IntKind.i64.wrap (((shr64 (u64OfI ((lo:Int)+(hi:Int))) 1).toNat:Nat):Int)=_
  rw [e2]
  exact zaa (by omega)
theorem bsearch (l:List Coin) (y:In) (f:Coin→In→Int) (hl:l.length<4611686018427387904):Tells P 316 [.val (bsl coinT) l,.val inT y,.fn2 P coinT inT i64T f] (.tup2 (.val i64T (halves (fun x=>f x y) l 0 l.length:Nat)) (.val boolT (foundAt (fun x=>f x y) l (halves (fun x=>f x y) l 0 l.length)))):=by
 refine zc Tryz.func316 rfl rfl rfl (fun ext w hext=>?_)
 refine ze (d:=0) rfl zk (fun hsl0=>?_)
 refine qaf ?_;refine qbw ?_;refine A0 (zR rfl rfl isl_63) ?_;refine qad ?_;refine A0 aV ?_;refine qaL ?_;refine CB ?_
 refine Lp (ι:=Nat×Nat) 1 (fun (i:Nat×Nat)=>match i with|(lo,hi)=>((((((Fr.none).set 0 (.val (bsl coinT) l)).set 2 (.fn2 P coinT inT i64T f)).set 4 (.ptr 0 0)).set 8 (.val i64T (l.length:Int))).set 9 (.val i64T (lo:Int))).set 10 (.val i64T (hi:Int))) (fun (i:Nat×Nat)=>match i with|(lo,hi)=>(Hp.none).set 0 (.box 218 inT y)) (fun (i:Nat×Nat)=>match i with|(lo,hi)=>lo≤hi∧hi≤l.length∧halves (fun x=>f x y) l 0 l.length=halves (fun x=>f x y) l lo hi) (fun (i:Nat×Nat)=>match i with|(lo,hi)=>hi-lo) ((0,l.length)) (⟨Nat.zero_le _,Nat.le_refl _,rfl⟩) ?_
 intro ⟨lo,hi⟩ hinv
 dsimp only at hinv
 refine CQQR ?_;refine qak ?_;refine qaG ?_;refine Cf (p:=lo<hi) (fun ht17=>?_) (fun ht17=>?_)
 ·
  obtain ⟨x,hx⟩:∃x,l[(lo+hi)/2]?=some x:=⟨_,List.getElem?_eq_getElem (by omega)⟩
  refine CS ?_;refine CB ?_;refine CQR ?_;refine qak ?_;refine A0 zby ?_;refine A0 (zdH rfl (ui_135) (us_3) rfl) ?_;refine A0 (zbg rfl rfl rfl (by first|decide|(simp [IntL.toI];done)|(simp [IntL.toI];omega)) rfl) ?_;refine A0 (zev rfl (ui_3) (us_135) rfl (mid_eq (by omega))) ?_;refine qbN ?_;refine G0 mH ?_;refine G0 mV ?_;refine G0 mV ?_;refine G0 (za0 rfl rfl rfl sl_63 (by assumption)) ?_;refine G0 (zg rfl rfl ty_228) ?_;refine G0 (oLs rfl rfl rfl zbD) ?_
  refine G0 (g_callf2 rfl rfl (by first|exact zB rfl|exact zZ rfl|exact zG rfl rfl|exact zX rfl|exact zx rfl|exact zag rfl rfl|exact zY rfl) (zd rfl)) ?_;refine G0 zbx ?_;refine GK.nil ?_;refine Cf (p:=f x y<0) (fun ht31=>?_) (fun ht31=>?_)
  ·
   refine CR ?_;refine qaY ?_;refine qac ?_;refine CI ?_
   exact Nx (((lo+hi)/2+1,hi)) (by first|exact ⟨by omega,by omega,hinv.2.2.trans (halves_lt ht17 hx ht31)⟩|exact ⟨by omega,by omega,hinv.2.2.trans (halves_ge ht17 hx ht31)⟩) (by show _<hi-lo;simp only [];omega)
  ·
   refine CR ?_;refine qaw ?_;refine qac ?_;refine CI ?_
   exact Nx ((lo,(lo+hi)/2)) (by first|exact ⟨by omega,by omega,hinv.2.2.trans (halves_lt ht17 hx ht31)⟩|exact ⟨by omega,by omega,hinv.2.2.trans (halves_ge ht17 hx ht31)⟩) (by show _<hi-lo;simp only [];omega)
 ·
  refine CE ?_;refine qbc ?_;refine G0 mV ?_;refine G0 mV ?_;refine G0 mV ?_;refine G0 zbx ?_;refine G0 mV ?_;refine zai (d:=39) (p:=lo<l.length) rfl (by first|rfl|(rw [decide_eq_decide];simp only [IntL.toI,id_eq];omega)|(simp [IntL.toI];done)|(simp [IntL.toI];omega)) (fun g39=>?_) (fun g39=>?_)
  ·
   obtain ⟨x,hx⟩:∃x,l[lo]?=some x:=⟨_,List.getElem?_eq_getElem g39⟩
   refine G1 mH ?_;refine G1 mV ?_;refine G1 mV ?_;refine G1 (za0 rfl rfl rfl sl_63 (by assumption)) ?_;refine G1 (zg rfl rfl ty_228) ?_;refine G1 (oLs rfl rfl rfl zbD) ?_;refine G1 (g_callf2 rfl rfl (by first|exact zB rfl|exact zZ rfl|exact zG rfl rfl|exact zX rfl|exact zx rfl|exact zag rfl rfl|exact zY rfl) (zd rfl)) ?_;refine G1 zbf ?_;refine G0 oK ?_;refine G0 aV ?_;refine qbn ?_
   exact zT rfl rfl (za rfl (by rw [hinv.2.2,show hi=lo by omega,zbn])) (za rfl (by rw [hinv.2.2,show hi=lo by omega,zbn];unfold foundAt;rw [hx];rfl))
  ·
   refine qaa ?_;refine G0 oK ?_;refine G0 aV ?_;refine qbn ?_
   exact zT rfl rfl (za rfl (by rw [hinv.2.2,show hi=lo by omega,zbn])) (za rfl (by rw [hinv.2.2,show hi=lo by omega,zbn];unfold foundAt;rw [List.getElem?_eq_none (by omega)]))
def placeOf (p:List Coin) (x:In):Nat:=halves (fun c=>ordIn c.inn x) p 0 p.length
def isThere (p:List Coin) (x:In):Bool:=foundAt (fun c=>ordIn c.inn x) p (placeOf p x)
theorem place_ok (p:List Coin) (x:In) (hl:p.length<4611686018427387904):Tells P 281 [.val (bsl coinT) p,.val inT x] (.tup2 (.val i64T (placeOf p x:Nat)) (.val boolT (isThere p x))):=by
 refine zc Tryz.func281 rfl rfl rfl (fun ext w hext=>?_)
 refine ze (d:=0) rfl zk (fun hsl0=>?_)
 refine qaf ?_;refine qbw ?_;refine A0 (oLs rfl rfl rfl zbD) ?_;refine A0 (oCl (bsearch p x (fun c x=>ordIn c.inn x) hl) rfl fn_316 ⟨(zd rfl),(zd rfl),(by first|exact zcH (Cs:=[]) rfl fn_317 (by intro n hn;cases hn) trivial rfl (fun x=>place1_ok _ _)|exact zcG (Cs:=[]) rfl fn_317 (by intro n hn;cases hn) trivial rfl (fun x y=>place1_ok _ _)|exact zcI rfl),trivial⟩) ?_;refine A0 (by first|exact zN rfl rfl|exact zM rfl rfl) ?_;refine A0 (by first|exact zQ rfl rfl|exact zP rfl rfl) ?_;refine qbo ?_
 exact zT rfl rfl (zbJ rfl) (zbJ rfl)
theorem delete_ok (l:List Coin) (i:Nat) (hi:i<l.length):TellsM P 282 (.row 228 coinT l) [.own 0,.val i64T (i:Int),.val i64T ((i:Int)+1)] (.fresh 228 coinT (l.take i++l.drop (i+1))) (.none_):=by
 refine zd6 trivial Tryz.func282 rfl rfl ⟨Nat.one_pos,⟨trivial,⟨trivial,trivial⟩⟩⟩ (fun ext pg w hext hgr=>?_)
 refine ze (d:=1) rfl zn (fun hin1=>?_)
 refine ze (d:=2) rfl zn (fun hin2=>?_)
 refine aw_factrow (n:=0) rfl (fun hrl=>?_)
 refine qaX ?_;refine A0 mO ?_;refine qak ?_;refine A0 mO ?_;refine A0 (zan rfl rfl rfl isl_63) ?_;refine A0 (g_os_chk (p:=i) (q:=i+1) (r:=l.length) rfl rfl rfl rfl rfl rfl sl_63 (by first|omega|rfl) (by first|omega|rfl) (by first|omega|rfl) (by first|assumption|omega|(simp;omega))) ?_;refine CNQQR ?_;refine qak ?_;refine A0 zbf ?_;refine zcr (d:=16) rfl (by simp [IntL.toI];omega) ?_;refine CN ?_;refine Cg ?_;refine CSQR ?_;refine A0 mO ?_;refine A0 (zan rfl rfl rfl isl_63) ?_;refine qaL ?_
 refine zE [some 1,some 1,some 1,some 1,some 1,some 1,none,some 1] mixed (by decide +kernel) ?_;refine X0 mO ?_;refine X0 mV ?_;refine X0 (g_os_h (q:=i) rfl rfl rfl rfl sl_63 (by first|omega|rfl) (by first|assumption|omega|(simp;omega))) ?_;refine X0 mO ?_;refine X0 mV ?_;refine X0 (g_os_l (p:=i+1) rfl rfl rfl rfl sl_63 (by first|omega|rfl) (by first|assumption|omega|(simp;omega))) ?_;refine XK.e (fun fr' hfr kk H=>by exact aw_append_in rfl rfl rfl rfl ((hfr 22 (by decide +kernel)).trans rfl) ((hfr 25 (by decide +kernel)).trans rfl) rfl row_63 (by omega) (zK H)) ?_;refine X0 aS ?_
 refine XK.nil' ?_;refine CQR ?_;refine A0 mS ?_;refine A0 mS ?_;refine A0 (g_len_s rfl rfl (by omega) isl_63) ?_;refine qaw ?_;refine A0 (g_os_lh (p:=i+(l.length-(i+1))) (q:=l.length) rfl rfl rfl rfl rfl sl_63 (by first|omega|rfl) (by first|omega|rfl) (by first|assumption|omega|(simp;omega))) ?_;refine aw_clear rfl rfl rfl rfl rfl row_63 ze_228 (by simp;omega) ?_;refine CNQR ?_;refine A0 mS ?_;refine A0 aS ?_;refine CN ?_
 exact zch rfl rfl rfl rfl rfl zbK (retm_fresh_s rfl rfl (by simp;omega) (by rw [List.take_append_of_le_length (by simp;omega),List.take_take,Nat.min_self,List.take_append_of_le_length (by simp;omega)];exact List.take_of_length_le (by simp;omega)))
set_option maxRecDepth 20000
def rotl (x:UInt32) (n:Int):UInt32:=shl32 x ((u64OfI n)&&&31).toNat|||shr32 x (32-((u64OfI n)&&&31)).toNat
theorem rotl_ok (x:UInt32) (n:Int):Tells P 309 [.val u32T x,.val i64T n] (.val u32T (rotl x n)):=by
 refine zc Tryz.func309 rfl rfl rfl (fun ext w hext=>?_)
 refine ze (d:=1) rfl zn (fun hin1=>?_)
 refine qbI ?_;refine A0 (zdH rfl (ui_135) (us_3) rfl) ?_;refine A0 (g_and64 rfl rfl rfl) ?_;refine qad ?_;refine qaw ?_;refine A0 (g_shl32 rfl rfl rfl (by first|decide|(simp [IntL.toI];done)|(simp [IntL.toI];omega)) rfl) ?_;refine qak ?_;refine A0 (g_sub64 rfl rfl rfl) ?_;refine A0 (g_shr32 rfl rfl rfl (by first|decide|(simp [IntL.toI];done)|(simp [IntL.toI];omega)) rfl) ?_;refine A0 (g_or32 rfl rfl rfl) ?_;refine qac ?_
 exact zb rfl rfl (za rfl rfl)
theorem right_ok (x:UInt32) (n:Int):Tells P 272 [.val u32T x,.val i64T n] (.val u32T (rotl x (IntKind.i64.wrap (0-n)))):=by
 refine zc Tryz.func272 rfl rfl rfl (fun ext w hext=>?_)
 refine ze (d:=1) rfl zn (fun hin1=>?_)
 refine qbI ?_;refine qaw ?_;refine A0 (g_neg rfl rfl rfl) ?_;refine A0 (oCl (rotl_ok _ _) rfl fn_309 ⟨(zd rfl),(zd rfl),trivial⟩) ?_;refine qac ?_
 exact zb rfl rfl (za rfl rfl)
def shaK:List UInt32:=[1116352408,1899447441,3049323471,3921009573,961987163,1508970993,2453635748,2870763221,3624381080,310598401,607225278,1426881987,1925078388,2162078206,2614888103,3248222580,3835390401,4022224774,264347078,604807628,770255983,1249150122,1555081692,1996064986,2554220882,2821834349,2952996808,3210313671,3336571891,3584528711,113926993,338241895,666307205,773529912,1294757372,1396182291,1695183700,1986661051,2177026350,2456956037,2730485921,2820302411,3259730800,3345764771,3516065817,3600352804,4094571909,275423344,430227734,506948616,659060556,883997877,958139571,1322822218,1537002063,1747873779,1955562222,2024104815,2227730452,2361852424,2428436474,2756734187,3204031479,3329325298]
def numBytes (n:UInt64) (size:Nat):List UInt8:=(List.range size).map fun j=>u8OfI (IntL.toI u64T (shr64 n (8*(size-1-j))))
theorem numBytes_step {n:UInt64} {size k:Nat} {l:List UInt8} (hk:k<size) (hl:l.length=size) (h:∀j,size-k≤j→j<size→l[j]?=(numBytes n size)[j]?):∀j,size-(k+1)≤j→j<size→(l.set (size-1-k) (u8OfI (IntL.toI u64T (shr64 n (8*k)))))[j]?=(numBytes n size)[j]?:=fun j h1 h2=>by
  rw [List.getElem?_set]
  by_cases c:size-1-k=j
  · rw [if_pos c,if_pos (by omega)]
    unfold numBytes
    rw [List.getElem?_map,List.getElem?_range h2,Option.map_some]
    congr 4;omega
  · rw [if_neg c];exact h j (by omega) h2
theorem numBytes_all {n:UInt64} {size:Nat} {l:List UInt8} (hl:l.length=size) (h:∀j,size-size≤j→j<size→l[j]?=(numBytes n size)[j]?):l=numBytes n size:=by
  apply List.ext_getElem?
  intro j
  by_cases c:j<size
  · exact h j (by omega) c
  · rw [List.getElem?_eq_none (by omega),List.getElem?_eq_none (by unfold numBytes;simp;omega)]
theorem numbers_ok:Tells P 273 [] (.val (arrT 64 (by decide) u32T) shaK):=by
 refine zc Tryz.func273 rfl rfl rfl (fun ext w hext=>?_)
 refine CQR ?_;refine zw ze_297 rfl rfl rfl rfl ?_;refine CNQR ?_
 refine A0 (g_buildA (T:=u32T) (xs:=[_,_,_,_,_,_,_,_,_,_,_,_,_,_,_,_,_,_,_,_,_,_,_,_,_,_,_,_,_,_,_,_,_,_,_,_,_,_,_,_,_,_,_,_,_,_,_,_,_,_,_,_,_,_,_,_,_,_,_,_,_,_,_,_]) rfl ar_297 ze_297 ⟨rfl,rfl,rfl,rfl,rfl,rfl,rfl,rfl,rfl,rfl,rfl,rfl,rfl,rfl,rfl,rfl,rfl,rfl,rfl,rfl,rfl,rfl,rfl,rfl,rfl,rfl,rfl,rfl,rfl,rfl,rfl,rfl,rfl,rfl,rfl,rfl,rfl,rfl,rfl,rfl,rfl,rfl,rfl,rfl,rfl,rfl,rfl,rfl,rfl,rfl,rfl,rfl,rfl,rfl,rfl,rfl,rfl,rfl,rfl,rfl,rfl,rfl,rfl,rfl,rfl,rfl,rfl,rfl,rfl,rfl,rfl,rfl,rfl,rfl,rfl,rfl,rfl,rfl,rfl,rfl,rfl,rfl,rfl,rfl,rfl,rfl,rfl,rfl,rfl,rfl,rfl,rfl,rfl,rfl,rfl,rfl,rfl,rfl,rfl,rfl,rfl,rfl,rfl,rfl,rfl,rfl,rfl,rfl,rfl,rfl,rfl,rfl,rfl,rfl,rfl,rfl,rfl,rfl,rfl,rfl,rfl,rfl,rfl,rfl,rfl,rfl,rfl,rfl,trivial⟩ rfl) ?_
 refine zh rfl rfl rfl rfl rfl (Lens.self _) ty_297 rfl ?_;refine CN ?_
 exact z6 rfl rfl rfl rfl ty_297 (rfl)
theorem zeO (n:UInt64) (size:Nat) (hs:size≤8):Tells P 144 [.val u64T n,.val i64T (size:Int)] (.fresh 5 u8T (numBytes n size)):=by
 refine zc Tryz.func144 rfl rfl rfl (fun ext w hext=>?_)
 refine ze (d:=1) rfl zn (fun hin1=>?_)
 refine qao ?_;refine qaT ?_;refine A0 zbx ?_;refine qaw ?_;refine zcr (d:=9) rfl (decide_eq_false (by show ¬((size:Int)<0);omega)) ?_;refine A1 mV ?_;refine A1 zaI ?_;refine A0 oK ?_;refine zcr (d:=12) rfl (decide_eq_false (by show ¬((8:Int)<(size:Int));omega)) ?_;refine CN ?_;refine Cg ?_;refine qbF ?_;refine aw_mks (T:=u8T) (n:=size) rfl rfl rfl rfl rfl rfl (by first|omega|rfl) (by first|omega|rfl) zaZ ze_5 ⟨by omega,by omega,(show (size)*1≤16777216 by omega)⟩ ?_;refine A0 aO ?_;refine CNQQR ?_;refine qak ?_;refine CNB ?_
 refine Lp (ι:=Nat×List UInt8) 1 (fun (i:Nat×List UInt8)=>match i with|(k,l)=>(((((Fr.none).set 0 (.val u64T n)).set 1 (.val i64T (size:Int))).set 5 (.own 0)).set 15 (.val i64T (size:Int))).set 16 (.val i64T (k:Int))) (fun (i:Nat×List UInt8)=>match i with|(k,l)=>(Hp.none).set 0 (.row 5 u8T l)) (fun (i:Nat×List UInt8)=>match i with|(k,l)=>k≤size∧l.length=size∧∀j,size-k≤j→j<size→l[j]?=(numBytes n size)[j]?) (fun (i:Nat×List UInt8)=>match i with|(k,l)=>size-k) ((0,List.replicate size 0)) (⟨Nat.zero_le _,by simp,fun j h1 h2=>by omega⟩) ?_
 intro ⟨k,l⟩ hinv
 dsimp only at hinv
 refine qaj ?_;refine Cf (p:=k<size) (fun ht17=>?_) (fun ht17=>?_)
 ·
  obtain ⟨x,hx⟩:∃x,l[size-1-k]?=some x:=⟨_,List.getElem?_eq_getElem (by omega)⟩
  refine qaP ?_;refine qbG ?_;refine A0 mO ?_;refine qbA ?_;refine qbA ?_;refine qak ?_;refine A0 o_mul ?_;refine A0 (zbg rfl rfl rfl (by first|decide|(simp [IntL.toI];done)|(simp [IntL.toI];omega)) rfl) ?_;refine A0 (zew rfl (ui_5) (us_47) rfl) ?_;refine A0 (zde (i:=size-1-k) rfl rfl rfl rfl (by first|omega|rfl) zar (by first|assumption|omega|(simp;omega))) ?_;refine zdV rfl rfl rfl rfl rfl rfl (by assumption) (Lens.self _) ty_5 rfl ?_;refine qaW ?_
  exact Nx ((k+1,l.set (size-1-k) (u8OfI (IntL.toI u64T (shr64 n (8*k)))))) (⟨by omega,by simp;exact hinv.2.1,numBytes_step ht17 hinv.2.1 hinv.2.2⟩) (by show _<size-k;simp only [];omega)
 ·
  refine qaA ?_
  exact zb rfl rfl (zf rfl rfl (numBytes_all hinv.2.1 (by rw [show k=size by omega] at hinv;exact hinv.2.2)))
set_option maxRecDepth 20000
theorem growNil (n:Nat) (hn:n≤140737488355328):Tells P 201 [.lit (.slice none 0 0),.val i64T (n:Int)] (.fresh 5 u8T []):=by
 refine zc Tryz.func201 rfl rfl rfl (fun ext w hext=>?_)
 refine ze (d:=1) rfl zn (fun hin1=>?_)
 refine qao ?_;refine qaT ?_;refine qaG ?_;refine zdx rfl (decide_eq_false (by show ¬((n:Int)<0);omega)) ?_;refine qbv ?_;refine A0 mL ?_;refine A0 (zeJ rfl rfl za3) ?_;refine A0 mL ?_;refine A0 (by first|exact zR rfl rfl za3|exact zan rfl rfl rfl za3|exact zaz rfl rfl za3) ?_;refine A0 zaT ?_;refine A0 zaT ?_;refine qad ?_;refine A0 zaI ?_;refine CN ?_;refine zr (p:=0<n) rfl (by rw [decide_eq_decide];simp only [IntL.toI,id_eq];omega) (fun ht16=>?_) (fun ht16=>?_)
 ·
  refine CR ?_;refine A0 mL ?_;refine A0 mL ?_;refine A0 (zeJ rfl rfl za3) ?_;refine A0 (by first|exact zbj rfl rfl rfl (by first|rfl|omega) zar|exact zdG rfl rfl rfl zar (by first|assumption|omega|(simp;omega))) ?_;refine qaw ?_;refine aw_appendz (T:=u8T) (n:=n) rfl rfl rfl rfl rfl rfl (by first|rfl|omega) zaZ ze_5 (ui_3) (⟨by assumption,by omega,by omega⟩) ?_;refine A0 mL ?_;refine A0 (by first|exact zR rfl rfl za3|exact zan rfl rfl rfl za3|exact zaz rfl rfl za3) ?_
  refine A0 (g_os_h (q:=0) rfl rfl rfl rfl zar (by first|omega|rfl) (by first|assumption|omega|(simp;omega))) ?_;refine A0 aS ?_;refine CNQR ?_;refine A0 mS ?_;refine A0 aS ?_;refine CN ?_
  exact zb rfl rfl (ret_fresh_s rfl rfl (by simp;omega) rfl)
 ·
  refine CSQR ?_;refine A0 mL ?_;refine A0 aL ?_;refine CN ?_
  exact zb rfl rfl (zm rfl)
theorem zal {α:Type} {ls:List (List α)} {k:Nat} {x:List α} (h:ls[k]?=some x):(ls.take (k+1)).flatten=(ls.take k).flatten++x:=by
  rw [List.take_add_one,h];simp
theorem zcp {α:Type} (ls:List (List α)) (k:Nat):(ls.take k).flatten.length≤ls.flatten.length:=by
  conv=>rhs;rw [←List.take_append_drop k ls,List.flatten_append,List.length_append]
  omega
theorem zeL (ls:List (List UInt8)) (hl:ls.flatten.length≤140737488355328):Tells P 143 [.val (bsl (bsl u8T)) ls] (.fresh 5 u8T ls.flatten):=by
 refine zc Tryz.func143 rfl rfl rfl (fun ext w hext=>?_)
 refine ze (d:=0) rfl zk (fun hsl0=>?_)
 refine qaX ?_;refine qai ?_;refine A0 (zR rfl rfl isl_89) ?_;refine qa8 ?_;refine Lp (ι:=Nat) 0 (fun (k:Nat)=>(((((Fr.none).set 0 (.val (bsl (bsl u8T)) ls)).set 3 (.val i64T ((ls.take k).flatten.length:Int))).set 9 (.val (bsl (bsl u8T)) ls)).set 10 (.val i64T (ls.length:Int))).set 11 (.val i64T (k:Int))) (fun (k:Nat)=>Hp.none) (fun (k:Nat)=>k≤ls.length) (fun (k:Nat)=>ls.length-k) (0) (Nat.zero_le _) ?_
 intro k hinv
 refine qaj ?_;refine Cf (p:=k<ls.length) (fun ht12=>?_) (fun ht12=>?_)
 ·
  obtain ⟨x,hx⟩:∃x,ls[k]?=some x:=⟨_,List.getElem?_eq_getElem ht12⟩
  have hle:=zcp ls (k+1)
  rw [zal hx,List.length_append] at hle
  refine CSQBQR ?_;refine A0 (za0 rfl rfl rfl zeF (by assumption)) ?_;refine A0 (zg rfl rfl zc6) ?_;refine A0 aX ?_;refine CNQR ?_;refine qaw ?_;refine A0 mX ?_;refine A0 (by first|exact zR rfl rfl za3|exact zan rfl rfl rfl za3|exact zaz rfl rfl za3) ?_;refine A0 zby ?_;refine qad ?_;refine qaG ?_;refine zdx rfl (decide_eq_false (by simp only [IntL.toI,id_eq];omega)) ?_;refine qbh ?_;refine zi (d:=3) (y:=((ls.take (k+1)).flatten.length:Int)) rfl (by rw [zal hx,List.length_append];omega) ?_
  exact Nx (k+1) (by omega) (by omega)
 ·
  refine zi (d:=3) (y:=((ls.flatten.length:Nat):Int)) rfl (by rw [List.take_of_length_le (by omega)]) ?_;refine CE ?_;refine qa1 ?_;refine zaA (growNil ls.flatten.length hl) rfl fn_201 ⟨(by first|exact zB rfl|exact zZ rfl|exact zG rfl rfl|exact zX rfl|exact zx rfl|exact zag rfl rfl|exact zY rfl),(zd rfl),trivial⟩ rfl rfl rfl ?_;refine A0 aO ?_;refine qaT ?_;refine A0 (zR rfl rfl isl_89) ?_;refine qa8 ?_
  refine Lp (ι:=Nat) 1 (fun (k:Nat)=>((((Fr.none).set 6 (.own 0)).set 25 (.val (bsl (bsl u8T)) ls)).set 26 (.val i64T (ls.length:Int))).set 27 (.val i64T (k:Int))) (fun (k:Nat)=>(Hp.none).set 0 (.row 5 u8T (ls.take k).flatten)) (fun (k:Nat)=>k≤ls.length) (fun (k:Nat)=>ls.length-k) (0) (Nat.zero_le _) ?_
  intro k hinv
  refine qaj ?_;refine Cf (p:=k<ls.length) (fun ht28=>?_) (fun ht28=>?_)
  ·
   obtain ⟨x,hx⟩:∃x,ls[k]?=some x:=⟨_,List.getElem?_eq_getElem ht28⟩
   have hle:=zcp ls (k+1)
   rw [zal hx,List.length_append] at hle
   refine CSQBQR ?_;refine A0 (za0 rfl rfl rfl zeF (by assumption)) ?_;refine A0 (zg rfl rfl zc6) ?_;refine A0 aX ?_;refine CNR ?_;refine A0 mO ?_;refine A0 mX ?_;refine zD rfl rfl rfl rfl rfl rfl rfl zaZ (by omega) ?_;refine A0 aO ?_;refine qaW ?_;refine zaG 1 0 2 rfl rfl rfl rfl rfl rfl ?_;refine zA (n:=0) rfl (zal hx).symm ?_
   exact Nx (k+1) (by omega) (by omega)
  ·
   refine qaA ?_
   exact zb rfl rfl (zf rfl rfl (by rw [List.take_of_length_le (by omega)]))
set_option maxRecDepth 20000
def padZ (n:Nat):Nat:=(64-(n+9)%64)%64
def padOf (b:List UInt8):List UInt8:=(b++128::List.replicate (padZ b.length) 0)++numBytes (8*u64OfI (IntL.toI i64T (b.length:Int))) 8
theorem padOf_pre (b:List UInt8):(b++128::List.replicate (padZ b.length) 0).length=b.length+1+padZ b.length:=by simp;omega
theorem pad_step {b l : List UInt8} {k : Nat} (hk : k < 8) (hl : l.length = b.length + padZ b.length + 9) (h : ∀ j, j < b.length + padZ b.length + 1 ∨ b.length + padZ b.length + 9 - k ≤ j → l[j]? = (padOf b)[j]?) :
    ∀j,j<b.length+padZ b.length+1∨b.length+padZ b.length+9-(k+1)≤j→(l.set (b.length+padZ b.length+8-k) (u8OfI (IntL.toI u64T (shr64 (8*u64OfI (IntL.toI i64T (b.length:Int))) (8*k)))))[j]?=(padOf b)[j]?:=fun j hj=>by
  rw [List.getElem?_set]
  by_cases c:b.length+padZ b.length+8-k=j
  · rw [if_pos c,if_pos (by omega)]
    unfold padOf
    rw [List.getElem?_append_right (by rw [padOf_pre];omega),padOf_pre]
    unfold numBytes
    rw [List.getElem?_map,List.getElem?_range (by omega),Option.map_some]
    congr 4;omega
  · rw [if_neg c];exact h j (by omega)
theorem pad_start {b:List UInt8} {j:Nat} (hj:j<b.length+padZ b.length+1∨b.length+padZ b.length+9-0≤j):([b,[128],List.replicate (padZ b.length+8) 0].flatten)[j]?=(padOf b)[j]?:=by
  unfold padOf
  have e:[b,[128],List.replicate (padZ b.length+8) (0:UInt8)].flatten=(b++128::List.replicate (padZ b.length) 0)++List.replicate 8 0:=by
    rw [←List.replicate_append_replicate];simp
  rw [e]
  have hl:=padOf_pre b
  generalize b++128::List.replicate (padZ b.length) 0=pre at hl
  rcases hj with hj|hj
  · rw [List.getElem?_append_left (by omega),List.getElem?_append_left (by omega)]
  · rw [List.getElem?_append_right (by omega),List.getElem?_append_right (by omega),hl]
    rw [List.getElem?_eq_none (by simp;omega),List.getElem?_eq_none (by unfold numBytes;simp;omega)]
theorem pad_all {b l:List UInt8} (h:∀j,j<b.length+padZ b.length+1∨b.length+padZ b.length+9-8≤j→l[j]?=(padOf b)[j]?):l=padOf b:=List.ext_getElem? fun j=>h j (by omega)
theorem pad_ok (b:List UInt8) (hb:b.length≤70368744177664):Tells P 226 [.val (sl u8T) b] (.fresh 5 u8T (padOf b)):=by
 have hz:((padZ b.length:Nat):Int)=(64-((b.length:Int)+1+8)%64)%64:=by unfold padZ;omega
 have hz2:padZ b.length<64:=by unfold padZ;omega
 refine zc Tryz.func226 rfl rfl rfl (fun ext w hext=>?_)
 refine ze (d:=0) rfl zk (fun hsl0=>?_)
 refine qaX ?_;refine qaw ?_;refine qbD ?_;refine A0 zby ?_;refine A0 zby ?_;refine A0 (g_rem rfl rfl rfl (by first|omega|assumption) (by first|decide|omega) rfl) ?_;refine A0 zaT ?_;refine A0 (g_rem rfl rfl rfl (by first|omega|assumption) (by first|decide|omega) rfl) ?_;refine qad ?_;refine A0 (zt (T:=u8T) (xs:=[_]) rfl zar zaZ ⟨rfl,rfl,trivial⟩ rfl rfl) ?_;refine qaY ?_;refine aw_mks (T:=u8T) (n:=padZ b.length+8) rfl rfl rfl rfl rfl rfl (by first|omega|rfl) (by first|omega|rfl) zaZ ze_5 ⟨by omega,by omega,(show (padZ b.length+8)*1≤16777216 by omega)⟩ ?_
 refine aw_pub (d:=17) rfl rfl ?_;refine A0 (zt (T:=(sl u8T)) (xs:=[_,_,_]) rfl zeF zdB ⟨rfl,rfl,rfl,rfl,rfl,rfl,trivial⟩ rfl rfl) ?_;refine zaA (zeL [b,[128],List.replicate (padZ b.length+8) 0] (by simp;omega)) rfl fn_143 ⟨(zd rfl),trivial⟩ rfl rfl rfl ?_;refine A0 aO ?_;refine CNQQR ?_;refine qa8 ?_
 refine Lp (ι:=Nat×List UInt8) 2 (fun (i:Nat×List UInt8)=>match i with|(k,l)=>(((Fr.none).set 0 (.val (sl u8T) b)).set 4 (.own 1)).set 20 (.val i64T (k:Int))) (fun (i:Nat×List UInt8)=>match i with|(k,l)=>(Hp.none).set 1 (.row 5 u8T l)) (fun (i:Nat×List UInt8)=>match i with|(k,l)=>k≤8∧l.length=b.length+padZ b.length+9∧∀j,j<b.length+padZ b.length+1∨b.length+padZ b.length+9-k≤j→l[j]?=(padOf b)[j]?) (fun (i:Nat×List UInt8)=>match i with|(k,l)=>8-k) ((0,[b,[128],List.replicate (padZ b.length+8) 0].flatten)) (⟨Nat.zero_le _,by simp;omega,fun j h=>pad_start h⟩) ?_
 intro ⟨k,l⟩ hinv
 dsimp only at hinv
 refine qaj ?_;refine Cf (p:=k<8) (fun ht21=>?_) (fun ht21=>?_)
 ·
  obtain ⟨x,hx⟩:∃x,l[b.length+padZ b.length+8-k]?=some x:=⟨_,List.getElem?_eq_getElem (by omega)⟩
  refine qaP ?_;refine qbG ?_;refine A0 mO ?_;refine A0 mO ?_;refine A0 (zan rfl rfl rfl za3) ?_;refine A0 zaT ?_;refine qbA ?_;refine qaw ?_;refine qbD ?_;refine A0 (zdH rfl (ui_47) (us_3) rfl) ?_;refine A0 (g_mul64 rfl rfl rfl) ?_;refine qaw ?_;refine A0 o_mul ?_;refine A0 (zbg rfl rfl rfl (by first|decide|(simp [IntL.toI];done)|(simp [IntL.toI];omega)) rfl) ?_;refine A0 (zew rfl (ui_5) (us_47) rfl) ?_;refine A0 (zde (i:=b.length+padZ b.length+8-k) rfl rfl rfl rfl (by first|omega|rfl) zar (by first|assumption|omega|(simp;omega))) ?_
  refine zdV rfl rfl rfl rfl rfl rfl (by assumption) (Lens.self _) ty_5 rfl ?_;refine qaW ?_
  exact Nx ((k+1,l.set (b.length+padZ b.length+8-k) (u8OfI (IntL.toI u64T (shr64 (8*u64OfI (IntL.toI i64T (b.length:Int))) (8*k)))))) (⟨by omega,by simp;exact hinv.2.1,pad_step ht21 hinv.2.1 hinv.2.2⟩) (by show _<8-k;simp only [];omega)
 ·
  refine qaA ?_
  exact zb rfl rfl (zf rfl rfl (pad_all (by rw [show k=8 by omega] at hinv;exact hinv.2.2)))
set_option maxRecDepth 20000
def putIn (x:In):List UInt8:=x.tx++[u8OfI (IntL.toI i64T x.i)]
def putOut (o:Out):List UInt8:=numBytes (u64OfI (IntL.toI i64T o.v)) 6++[u8OfI (IntL.toI i64T o.to)]
def putIns (t:Tx) (k:Nat):List UInt8:=u8OfI (IntL.toI i64T (t.ins.length:Int))::((t.ins.take k).map putIn).flatten
def putOuts (t:Tx) (k:Nat):List UInt8:=putIns t t.ins.length++[u8OfI (IntL.toI i64T (t.outs.length:Int))]++((t.outs.take k).map putOut).flatten
def putTx (t:Tx):List UInt8:=putOuts t t.outs.length
theorem putIns_step {t:Tx} {k:Nat} {x:In} (h:t.ins[k]?=some x):putIns t (k+1)=putIns t k++x.tx++[u8OfI (IntL.toI i64T x.i)]:=by
  unfold putIns
  rw [List.take_add_one,h];simp [putIn]
theorem putOuts_step {t:Tx} {k:Nat} {x:Out} (h:t.outs[k]?=some x):putOuts t (k+1)=putOuts t k++numBytes (u64OfI (IntL.toI i64T x.v)) 6++[u8OfI (IntL.toI i64T x.to)]:=by
  unfold putOuts
  rw [List.take_add_one,h];simp [putOut]
theorem fact_in {U N:Nat→Prop} {w:World} {x:In} {cs:List Value} (h:inT.rel U N w x cs):x.tx.length=32:=by
  obtain ⟨c1,c2,_,h1,_⟩:=h
  exact h1.1
theorem zH (n:UInt64) (s:Nat):(numBytes n s).length=s:=by simp [numBytes]
theorem zdQ {t:Tx} (h:mayTx t=true):t.ins.length≤3∧0<t.outs.length∧t.outs.length≤3:=by
  unfold mayTx at h
  simp only [Bool.and_eq_true,decide_eq_true_eq] at h
  exact ⟨h.2.1,h.2.2.1,h.2.2.2.1⟩
theorem put_ok (t:Tx):Tells P 224 [.val txT t] (.tup2 (.fresh 5 u8T (if mayTx t=true then putTx t else [])) (.val boolT (mayTx t))):=by
 refine zc Tryz.func224 rfl rfl rfl (fun ext w hext=>?_)
 refine qaf ?_;refine A0 aL ?_;refine A0 aV ?_;refine CNQQR ?_;refine qbH ?_;refine A0 (oCl (mayTx_ok _) rfl fn_236 ⟨(zd rfl),trivial⟩) ?_;refine qaN ?_;refine zr (p:=¬mayTx t=true) rfl (by simp) (fun ht11=>?_) (fun ht11=>?_)
 ·
  refine qaZ ?_
  exact zT rfl rfl (by rw [if_neg ht11];exact zm rfl) (za rfl (by simpa using ht11))
 ·
  have hmay:=Classical.not_not.1 ht11
  obtain ⟨hmi,hm0,hmo⟩:=zdQ hmay
  refine CSQR ?_;refine qaU ?_;refine A0 (zew rfl (ui_5) (us_3) rfl) ?_;refine zbo (T:=u8T) (xs:=[_]) rfl rfl rfl rfl zar zaZ ⟨rfl,rfl,trivial⟩ rfl rfl ?_;refine A0 aO ?_;refine CNQQR ?_;refine qaU ?_;refine qa8 ?_
  refine Lp (ι:=Nat) 2 (fun (k:Nat)=>(((((Fr.none).set 1 (.ptr 0 0)).set 4 (.own 1)).set 18 (.val (sl inT) t.ins)).set 19 (.val i64T (t.ins.length:Int))).set 20 (.val i64T (k:Int))) (fun (k:Nat)=>((Hp.none).set 0 (.box 133 txT t)).set 1 (.row 5 u8T (putIns t k))) (fun (k:Nat)=>k≤t.ins.length∧(putIns t k).length=33*k+1) (fun (k:Nat)=>t.ins.length-k) (0) (⟨Nat.zero_le _,by simp [putIns]⟩) ?_
  intro k hinv
  obtain ⟨hk,hpl⟩:=hinv
  have hinv:=And.intro hk hpl
  refine qaj ?_;refine Cf (p:=k<t.ins.length) (fun ht21=>?_) (fun ht21=>?_)
  ·
   obtain ⟨x,hx⟩:∃x,t.ins[k]?=some x:=⟨_,List.getElem?_eq_getElem ht21⟩
   refine CSQBQR ?_;refine qb9 ?_;refine zh rfl rfl rfl rfl rfl (Lens.self _) zbD rfl ?_;refine CN ?_;refine aw_factb (n:=2) rfl fact_in (fun hx32=>?_)
   refine zE [some 1,some 1,some 1,none,some 2,some 2,some 2,some 2,none,some 1] mixed (by decide +kernel) ?_;refine X0 mO ?_;refine X0 (oFp zcD) ?_;refine X0 (g_slice_b rfl rfl zdp rfl rfl) ?_;refine XK.e (fun fr' hfr kk H=>by exact aw_append_v rfl rfl rfl rfl ((hfr 24 (by decide +kernel)).trans rfl) rfl ((hfr 26 (by decide +kernel)).trans rfl) rfl L_In_tx zaZ (by show (_+x.tx.length)*1≤_∧_+x.tx.length≤_;omega) (zK H)) ?_;refine XK.g2 (g_fa_p rfl rfl zbu rfl) (g_fa_p rfl rfl zbu rfl) rfl rfl rfl ?_
   refine XK.gb (t:=28) rfl rfl (fun _ he=>zq rfl rfl he L_In_i ty_3) rfl ⟨rfl,rfl,trivial⟩ rfl rfl rfl ?_;refine XK.g2 (zew rfl (ui_5) (us_3) rfl) (zew rfl (ui_5) (us_3) rfl) rfl rfl rfl ?_;refine XK.g2 (zt (T:=u8T) (xs:=[_]) rfl zar zaZ ⟨rfl,rfl,trivial⟩ rfl rfl) (zt (T:=u8T) (xs:=[_]) rfl zar zaZ ⟨rfl,rfl,trivial⟩ rfl rfl) rfl rfl rfl ?_
   refine XK.e (fun fr' hfr kk H=>by exact zD rfl rfl rfl rfl ((hfr 27 (by decide +kernel)).trans rfl) rfl ((hfr 31 (by decide +kernel)).trans rfl) zaZ (by simp only [List.length_append,List.length_cons,List.length_nil,hx32];omega) (zK H)) ?_;refine X0 aO ?_;refine qaJ ?_;refine zaG 4 1 5 rfl rfl rfl rfl rfl rfl ?_;refine zA (n:=1) rfl (putIns_step hx).symm ?_
   exact Nx (k+1) (⟨by omega,by rw [putIns_step hx];simp only [List.length_append,List.length_cons,List.length_nil,hx32];omega⟩) (by omega)
  ·
   obtain rfl:k=t.ins.length:=(by omega)
   obtain ⟨hli,_⟩:=hinv
   refine CE ?_;refine qb1 ?_;refine A0 (oFp zbG) ?_;refine A0 (oLb zcJ zek) ?_;refine A0 (zR rfl rfl zds) ?_;refine A0 (zew rfl (ui_5) (us_3) rfl) ?_;refine A0 (zt (T:=u8T) (xs:=[_]) rfl zar zaZ ⟨rfl,rfl,trivial⟩ rfl rfl) ?_;refine zD rfl rfl rfl rfl rfl rfl rfl zaZ (by simp only [List.length_append,List.length_cons,List.length_nil];omega) ?_;refine A0 aO ?_;refine CNQQR ?_;refine A0 (oFp zbG) ?_;refine A0 (oLb zcJ zek) ?_;refine A0 (zR rfl rfl zds) ?_;refine qa8 ?_;refine zaG 2 1 3 rfl rfl rfl rfl rfl rfl ?_
   refine zA (y:=putOuts t 0) (n:=1) rfl (by simp [putOuts]) ?_;refine Lp (ι:=Nat) 2 (fun (k:Nat)=>(((((Fr.none).set 1 (.ptr 0 0)).set 4 (.own 1)).set 42 (.val (sl outT) t.outs)).set 43 (.val i64T (t.outs.length:Int))).set 44 (.val i64T (k:Int))) (fun (k:Nat)=>((Hp.none).set 0 (.box 133 txT t)).set 1 (.row 5 u8T (putOuts t k))) (fun (k:Nat)=>k≤t.outs.length∧(putOuts t k).length=7*k+2+33*t.ins.length) (fun (k:Nat)=>t.outs.length-k) (0) (⟨Nat.zero_le _,by simp [putOuts,hpl];omega⟩) ?_
   intro k hinv
   refine qaj ?_;refine Cf (p:=k<t.outs.length) (fun ht45=>?_) (fun ht45=>?_)
   ·
    obtain ⟨x,hx⟩:∃x,t.outs[k]?=some x:=⟨_,List.getElem?_eq_getElem ht45⟩
    refine CSQBQR ?_;refine qb8 ?_;refine zh rfl rfl rfl rfl rfl (Lens.self _) zdY rfl ?_;refine CN ?_;refine zE [some 1,some 1,some 1,some 1,some 1,none,some 2,some 2,some 2,some 2,none,some 1] mixed (by decide +kernel) ?_;refine X0 mO ?_;refine X0 (oFp zbX) ?_;refine X0 (oLb L_Out_v ty_3) ?_;refine X0 (zdH rfl (ui_47) (us_3) rfl) ?_;refine X0 (oCl (zp (zeO _ 6 (by decide))) rfl fn_144 ⟨(zd rfl),(zd rfl),trivial⟩) ?_
    refine XK.e (fun fr' hfr kk H=>by exact zD rfl rfl rfl rfl ((hfr 48 (by decide +kernel)).trans rfl) rfl ((hfr 52 (by decide +kernel)).trans rfl) zaZ (by simp only [List.length_append,List.length_cons,List.length_nil,zH];omega) (zK H)) ?_;refine XK.g2 (g_fa_p rfl rfl zcg rfl) (g_fa_p rfl rfl zcg rfl) rfl rfl rfl ?_;refine XK.gb (t:=54) rfl rfl (fun _ he=>zq rfl rfl he L_Out_to ty_3) rfl ⟨rfl,rfl,trivial⟩ rfl rfl rfl ?_;refine XK.g2 (zew rfl (ui_5) (us_3) rfl) (zew rfl (ui_5) (us_3) rfl) rfl rfl rfl ?_
    refine XK.g2 (zt (T:=u8T) (xs:=[_]) rfl zar zaZ ⟨rfl,rfl,trivial⟩ rfl rfl) (zt (T:=u8T) (xs:=[_]) rfl zar zaZ ⟨rfl,rfl,trivial⟩ rfl rfl) rfl rfl rfl ?_;refine XK.e (fun fr' hfr kk H=>by exact zD rfl rfl rfl rfl ((hfr 53 (by decide +kernel)).trans rfl) rfl ((hfr 57 (by decide +kernel)).trans rfl) zaZ (by simp only [List.length_append,List.length_cons,List.length_nil,zH];omega) (zK H)) ?_;refine X0 aO ?_;refine qaJ ?_;refine zaG 4 1 5 rfl rfl rfl rfl rfl rfl ?_;refine zA (n:=1) rfl (putOuts_step hx).symm ?_
    exact Nx (k+1) (⟨by omega,by rw [putOuts_step hx];simp only [List.length_append,List.length_cons,List.length_nil,zH];omega⟩) (by omega)
   ·
    refine CE ?_;refine qb1 ?_;refine qbP ?_
    exact zT rfl rfl (zf rfl rfl (by rw [if_pos hmay,show k=t.outs.length by omega];rfl)) (za rfl hmay.symm)
set_option maxRecDepth 20000
def rr (x:UInt32) (n:Int):UInt32:=rotl x (IntKind.i64.wrap (0-n))
def beWord (x0 x1 x2 x3:UInt8):UInt32:=shl32 (u32OfI (IntL.toI u8T x0)) 24|||shl32 (u32OfI (IntL.toI u8T x1)) 16|||shl32 (u32OfI (IntL.toI u8T x2)) 8|||u32OfI (IntL.toI u8T x3)
def schedWord (a b x y:UInt32):UInt32:=a+b+(rr x 7^^^rr x 18^^^shr32 x 3)+(rr y 17^^^rr y 19^^^shr32 y 10)
def schedStep (b:List UInt8) (w:List UInt32) (i:Nat):List UInt32 :=
  if i<16 then w.set i (beWord (b.getD (4*i) default) (b.getD (4*i+1) default) (b.getD (4*i+2) default) (b.getD (4*i+3) default))
  else w.set i (schedWord (w.getD (i-16) default) (w.getD (i-7) default) (w.getD (i-15) default) (w.getD (i-2) default))
def schedN (b:List UInt8) (k:Nat):List UInt32:=(List.range k).foldl (schedStep b) (List.replicate 64 0)
def roundX (v w:List UInt32) (i:Nat):UInt32:=v.getD 7 default+(rr (v.getD 4 default) 6^^^rr (v.getD 4 default) 11^^^rr (v.getD 4 default) 25)+((v.getD 4 default&&&v.getD 5 default)^^^(~~~ (v.getD 4 default)&&&v.getD 6 default))+shaK.getD i default+w.getD i default
def roundY (v:List UInt32):UInt32:=(rr (v.getD 0 default) 2^^^rr (v.getD 0 default) 13^^^rr (v.getD 0 default) 22)+((v.getD 0 default&&&v.getD 1 default)^^^(v.getD 0 default&&&v.getD 2 default)^^^(v.getD 1 default&&&v.getD 2 default))
def roundStep (w v:List UInt32) (i:Nat):List UInt32:=[roundX v w i+roundY v,v.getD 0 default,v.getD 1 default,v.getD 2 default,v.getD 3 default+roundX v w i,v.getD 4 default,v.getD 5 default,v.getD 6 default]
def roundN (w s:List UInt32) (k:Nat):List UInt32:=(List.range k).foldl (roundStep w) s
def sumN (v s:List UInt32) (k:Nat):List UInt32:=(List.range k).foldl (fun s i=>s.set i (s.getD i default+v.getD i default)) s
def addOf (s:List UInt32) (b:List UInt8):List UInt32:=sumN (roundN (schedN b 64) s 64) s 8
theorem zdf {α:Type} {f:α→Nat→α} {z:α} {k:Nat}:(List.range (k+1)).foldl f z=f ((List.range k).foldl f z) k:=by rw [List.range_succ,List.foldl_append];rfl
theorem sched_lo {b:List UInt8} {k:Nat} {x0 x1 x2 x3:UInt8} (hk:k<16) (h0:b[4*k]?=some x0) (h1:b[4*k+1]?=some x1) (h2:b[4*k+2]?=some x2) (h3:b[4*k+3]?=some x3):(schedN b k).set k (beWord x0 x1 x2 x3)=schedN b (k+1):=by
  unfold schedN
  rw [zdf]
  unfold schedStep
  rw [if_pos hk]
  simp only [List.getD_eq_getElem?_getD,h0,h1,h2,h3,Option.getD_some]
theorem sched_hi {b:List UInt8} {k:Nat} (hk:¬k<16):(schedN b k).set k (schedWord ((schedN b k).getD (k-16) default) ((schedN b k).getD (k-7) default) ((schedN b k).getD (k-15) default) ((schedN b k).getD (k-2) default))=schedN b (k+1):=by
  have e:schedN b (k+1)=schedStep b (schedN b k) k:=zdf
  rw [e];unfold schedStep;rw [if_neg hk]
theorem round_succ {w s:List UInt32} {k:Nat}:roundStep w (roundN w s k) k=roundN w s (k+1):=zdf.symm
theorem sum_succ {v s:List UInt32} {k:Nat} {x:UInt32} (h:v[k]?=some x):(sumN v s k).set k ((sumN v s k).getD k default+x)=sumN v s (k+1):=by
  have e:sumN v s (k+1)=_:=zdf
  rw [e]
  show _=(sumN v s k).set k ((sumN v s k).getD k default+v.getD k default)
  rw [List.getD_eq_getElem?_getD (l:=v),h];rfl
theorem roundN_len {w s:List UInt32} (hs:s.length=8):∀k,(roundN w s k).length=8
  | 0=>hs
  | k+1=>by rw [←round_succ];rfl
theorem add_ok (s:List UInt32) (b:List UInt8) (hb:b.length=64) (hs:s.length=8):TellsM P 227 (.box 262 (arrT 8 (by decide) u32T) s) [.ptr 0 0,.val (bsl u8T) b] (.lit (.tuple #[])) (.box 262 (arrT 8 (by decide) u32T) (addOf s b)):=by
 refine zd6 trivial Tryz.func227 rfl rfl ⟨Nat.one_pos,⟨trivial,trivial⟩⟩ (fun ext pg w hext hgr=>?_)
 refine ze (d:=1) rfl zk (fun hsl1=>?_)
 refine CQR ?_;refine zw ze_297 rfl rfl rfl rfl ?_;refine CNQQR ?_;refine qa8 ?_;refine Lp (ι:=Nat) 2 (fun (k:Nat)=>((((Fr.none).set 0 (.ptr 0 0)).set 1 (.val (bsl u8T) b)).set 4 (.ptr 1 0)).set 17 (.val i64T (k:Int))) (fun (k:Nat)=>((Hp.none).set 0 (.box 262 (arrT 8 (by decide) u32T) s)).set 1 (.box 297 (arrT 64 (by decide) u32T) (schedN b k))) (fun (k:Nat)=>k≤64) (fun (k:Nat)=>64-k) (0) (Nat.zero_le _) ?_
 intro k hinv
 refine qaj ?_;refine Cf (p:=k<64) (fun ht18=>?_) (fun ht18=>?_)
 ·
  refine qaP ?_;refine qai ?_;refine qaG ?_;refine Cf (p:=k<16) (fun ht21=>?_) (fun ht21=>?_)
  ·
   obtain ⟨x0,hx0⟩:∃x,b[4*k]?=some x:=⟨_,List.getElem?_eq_getElem (by omega)⟩
   obtain ⟨x1,hx1⟩:∃x,b[4*k+1]?=some x:=⟨_,List.getElem?_eq_getElem (by omega)⟩
   obtain ⟨x2,hx2⟩:∃x,b[4*k+2]?=some x:=⟨_,List.getElem?_eq_getElem (by omega)⟩
   obtain ⟨x3,hx3⟩:∃x,b[4*k+3]?=some x:=⟨_,List.getElem?_eq_getElem (by omega)⟩
   refine CQ ?_;refine zE [some 1,some 1,some 1,some 1,some 1,some 1,some 1,some 1,some 1,some 1,some 1,some 1,some 1,some 1,some 1,some 1,some 1,some 1,some 1,some 1,some 1,some 1,some 1,some 1,some 1,some 1,some 1,some 1,some 1,some 1,some 1,some 1,some 1,some 1,some 1,none] mixed (by decide +kernel) ?_;refine qbT ?_;refine X0 mV ?_;refine X0 o_mul ?_;refine X0 (zu (i:=4*k) rfl rfl rfl (by omega) zar (by assumption)) ?_;refine X0 (zg rfl rfl ty_5) ?_;refine X0 (g_cv32 rfl (ui_50) (us_5) rfl) ?_
   refine X0 (g_shl32 rfl rfl rfl (by first|decide|(simp [IntL.toI];done)|(simp [IntL.toI];omega)) rfl) ?_;refine qbT ?_;refine X0 o_mul ?_;refine X0 zby ?_;refine X0 (zu (i:=4*k+1) rfl rfl rfl (by omega) zar (by assumption)) ?_;refine X0 (zg rfl rfl ty_5) ?_;refine X0 (g_cv32 rfl (ui_50) (us_5) rfl) ?_;refine X0 (g_shl32 rfl rfl rfl (by first|decide|(simp [IntL.toI];done)|(simp [IntL.toI];omega)) rfl) ?_;refine X0 (g_or32 rfl rfl rfl) ?_;refine qbT ?_;refine X0 o_mul ?_;refine X0 zby ?_;refine X0 (zu (i:=4*k+2) rfl rfl rfl (by omega) zar (by assumption)) ?_
   refine X0 (zg rfl rfl ty_5) ?_;refine X0 (g_cv32 rfl (ui_50) (us_5) rfl) ?_;refine X0 (g_shl32 rfl rfl rfl (by first|decide|(simp [IntL.toI];done)|(simp [IntL.toI];omega)) rfl) ?_;refine X0 (g_or32 rfl rfl rfl) ?_;refine qbT ?_;refine X0 o_mul ?_;refine X0 zby ?_;refine X0 (zu (i:=4*k+3) rfl rfl rfl (by omega) zar (by assumption)) ?_;refine X0 (zg rfl rfl ty_5) ?_;refine X0 (g_cv32 rfl (ui_50) (us_5) rfl) ?_;refine X0 (g_or32 rfl rfl rfl) ?_;refine X0 (zJ (i:=k) rfl rfl rfl (by first|omega|rfl) ar_297 (by omega)) ?_
   refine XK.e (x:=.idk) (fun fr' hfr kk H=>by exact zh rfl rfl rfl ((hfr 56 (by decide +kernel)).trans rfl) rfl (Lens.elem (i:=k) (by omega) u32T) zbe ((hfr 55 (by decide +kernel)).trans rfl) (zK H)) ?_;refine XK.nil' ?_;refine CE ?_;refine CR ?_;refine qag ?_;refine zS (n:=1) rfl (sched_lo ht21 hx0 hx1 hx2 hx3) ?_
   exact Nx (k+1) (by omega) (by omega)
  ·
   refine CS ?_;refine qbc ?_;refine G0 mV ?_;refine G0 zaT ?_;refine G0 (zJ (i:=k-15) rfl rfl rfl (by first|omega|rfl) ar_297 (by omega)) ?_;refine G0 (zq rfl rfl rfl (Lens.elem (i:=k-15) (by omega) u32T) zbe) ?_;refine G0 mV ?_;refine G0 zaT ?_;refine G0 (zJ (i:=k-2) rfl rfl rfl (by first|omega|rfl) ar_297 (by omega)) ?_;refine G0 (zq rfl rfl rfl (Lens.elem (i:=k-2) (by omega) u32T) zbe) ?_;refine G0 aV ?_;refine qbn ?_
   refine zE [some 1,some 1,some 1,some 1,some 1,some 1,some 1,some 1,some 1,some 1,some 1,some 1,some 1,some 1,some 1,some 1,some 1,some 1,some 1,some 1,some 1,some 1,some 1,some 1,some 1,some 1,some 1,some 1,some 1,none] mixed (by decide +kernel) ?_;refine qbT ?_;refine X0 zaT ?_;refine X0 (zJ (i:=k-16) rfl rfl rfl (by first|omega|rfl) ar_297 (by omega)) ?_;refine X0 (zq rfl rfl rfl (Lens.elem (i:=k-16) (by omega) u32T) zbe) ?_;refine X0 mV ?_;refine X0 zaT ?_;refine X0 (zJ (i:=k-7) rfl rfl rfl (by first|omega|rfl) ar_297 (by omega)) ?_
   refine X0 (zq rfl rfl rfl (Lens.elem (i:=k-7) (by omega) u32T) zbe) ?_;refine X0 (zd5 rfl rfl rfl) ?_;refine qb2 ?_;refine qb2 ?_;refine X0 (zd3 rfl rfl rfl) ?_;refine X0 mV ?_;refine X0 (g_shr32 rfl rfl rfl (by first|decide|(simp [IntL.toI];done)|(simp [IntL.toI];omega)) rfl) ?_;refine X0 (zd3 rfl rfl rfl) ?_;refine X0 (zd5 rfl rfl rfl) ?_;refine qb2 ?_;refine qb2 ?_;refine X0 (zd3 rfl rfl rfl) ?_;refine X0 mV ?_;refine X0 (g_shr32 rfl rfl rfl (by first|decide|(simp [IntL.toI];done)|(simp [IntL.toI];omega)) rfl) ?_;refine X0 (zd3 rfl rfl rfl) ?_
   refine X0 (zd5 rfl rfl rfl) ?_;refine X0 (zJ (i:=k) rfl rfl rfl (by first|omega|rfl) ar_297 (by omega)) ?_;refine XK.e (x:=.idk) (fun fr' hfr kk H=>by exact zh rfl rfl rfl ((hfr 93 (by decide +kernel)).trans rfl) rfl (Lens.elem (i:=k) (by omega) u32T) zbe ((hfr 92 (by decide +kernel)).trans rfl) (zK H)) ?_;refine qaJ ?_;refine zS (n:=1) rfl (sched_hi ht21) ?_
   exact Nx (k+1) (by omega) (by omega)
 ·
  obtain rfl:k=64:=(by omega)
  refine CE ?_;refine CQR ?_;refine A0 (oCl (numbers_ok) rfl fn_273 trivial) ?_;refine zw ze_297 rfl rfl rfl rfl ?_;refine zh rfl rfl rfl rfl rfl (Lens.self _) ty_297 rfl ?_;refine CNQR ?_;refine A0 mP ?_;refine A0 (g_nc rfl rfl) ?_;refine A0 (oLs rfl rfl rfl ty_262) ?_;refine zw ze_262 rfl rfl rfl rfl ?_;refine zh rfl rfl rfl rfl rfl (Lens.self _) ty_262 rfl ?_;refine CNQQR ?_;refine qa8 ?_
  refine Lp (ι:=Nat) 4 (fun (k:Nat)=>(((((Fr.none).set 0 (.ptr 0 0)).set 4 (.ptr 1 0)).set 8 (.ptr 2 0)).set 9 (.ptr 3 0)).set 99 (.val i64T (k:Int))) (fun (k:Nat)=>((((Hp.none).set 0 (.box 262 (arrT 8 (by decide) u32T) s)).set 1 (.box 297 (arrT 64 (by decide) u32T) (schedN b 64))).set 2 (.box 297 (arrT 64 (by decide) u32T) shaK)).set 3 (.box 262 (arrT 8 (by decide) u32T) (roundN (schedN b 64) s k))) (fun (k:Nat)=>k≤64) (fun (k:Nat)=>64-k) (0) (Nat.zero_le _) ?_
  intro k hinv
  refine qaj ?_;refine Cf (p:=k<64) (fun ht100=>?_) (fun ht100=>?_)
  ·
   refine qaP ?_;refine qbN ?_;refine G0 (zJ (i:=0) rfl rfl rfl (by first|omega|rfl) zct (by omega)) ?_;refine G0 (zq rfl rfl rfl (Lens.elem (i:=0) (by omega) u32T) zbe) ?_;refine G0 (zJ (i:=4) rfl rfl rfl (by first|omega|rfl) zct (by omega)) ?_;refine G0 (zq rfl rfl rfl (Lens.elem (i:=4) (by omega) u32T) zbe) ?_;refine G0 aV ?_;refine qbn ?_;refine qbc ?_;refine G0 (zJ (i:=7) rfl rfl rfl (by first|omega|rfl) zct (by omega)) ?_;refine G0 (zq rfl rfl rfl (Lens.elem (i:=7) (by omega) u32T) zbe) ?_;refine qaV ?_;refine qaV ?_
   refine G0 (zd3 rfl rfl rfl) ?_;refine qaV ?_;refine G0 (zd3 rfl rfl rfl) ?_;refine G0 (zd5 rfl rfl rfl) ?_;refine G0 mV ?_;refine G0 (zJ (i:=5) rfl rfl rfl (by first|omega|rfl) zct (by omega)) ?_;refine G0 (zq rfl rfl rfl (Lens.elem (i:=5) (by omega) u32T) zbe) ?_;refine G0 (g_and32 rfl rfl rfl) ?_;refine G0 mV ?_;refine G0 (g_not32 rfl rfl) ?_;refine G0 (zJ (i:=6) rfl rfl rfl (by first|omega|rfl) zct (by omega)) ?_;refine G0 (zq rfl rfl rfl (Lens.elem (i:=6) (by omega) u32T) zbe) ?_;refine G0 (g_and32 rfl rfl rfl) ?_
   refine G0 (zd3 rfl rfl rfl) ?_;refine G0 (zd5 rfl rfl rfl) ?_;refine G0 mV ?_;refine G0 (zJ (i:=k) rfl rfl rfl (by first|omega|rfl) ar_297 (by omega)) ?_;refine G0 (zq rfl rfl rfl (Lens.elem (i:=k) (by omega) u32T) zbe) ?_;refine G0 (zd5 rfl rfl rfl) ?_;refine G0 mV ?_;refine G0 (zJ (i:=k) rfl rfl rfl (by first|omega|rfl) ar_297 (by omega)) ?_;refine G0 (zq rfl rfl rfl (Lens.elem (i:=k) (by omega) u32T) zbe) ?_;refine G0 (zd5 rfl rfl rfl) ?_;refine qbn ?_;refine qbc ?_;refine qaV ?_;refine qaV ?_;refine G0 (zd3 rfl rfl rfl) ?_;refine qaV ?_
   refine G0 (zd3 rfl rfl rfl) ?_;refine G0 mV ?_;refine G0 (zJ (i:=1) rfl rfl rfl (by first|omega|rfl) zct (by omega)) ?_;refine G0 (zq rfl rfl rfl (Lens.elem (i:=1) (by omega) u32T) zbe) ?_;refine G0 (g_and32 rfl rfl rfl) ?_;refine G0 mV ?_;refine G0 (zJ (i:=2) rfl rfl rfl (by first|omega|rfl) zct (by omega)) ?_;refine G0 (zq rfl rfl rfl (Lens.elem (i:=2) (by omega) u32T) zbe) ?_;refine G0 (g_and32 rfl rfl rfl) ?_;refine G0 (zd3 rfl rfl rfl) ?_;refine G0 (zJ (i:=1) rfl rfl rfl (by first|omega|rfl) zct (by omega)) ?_
   refine G0 (zq rfl rfl rfl (Lens.elem (i:=1) (by omega) u32T) zbe) ?_;refine G0 (zJ (i:=2) rfl rfl rfl (by first|omega|rfl) zct (by omega)) ?_;refine G0 (zq rfl rfl rfl (Lens.elem (i:=2) (by omega) u32T) zbe) ?_;refine G0 (g_and32 rfl rfl rfl) ?_;refine G0 (zd3 rfl rfl rfl) ?_;refine G0 (zd5 rfl rfl rfl) ?_;refine qbn ?_;refine CR ?_;refine qak ?_;refine A0 (zd5 rfl rfl rfl) ?_;refine qaw ?_;refine A0 (zJ (i:=1) rfl rfl rfl (by first|omega|rfl) zct (by omega)) ?_;refine A0 (zq rfl rfl rfl (Lens.elem (i:=1) (by omega) u32T) zbe) ?_
   refine A0 (zJ (i:=2) rfl rfl rfl (by first|omega|rfl) zct (by omega)) ?_;refine A0 (zq rfl rfl rfl (Lens.elem (i:=2) (by omega) u32T) zbe) ?_;refine A0 (zJ (i:=3) rfl rfl rfl (by first|omega|rfl) zct (by omega)) ?_;refine A0 (zq rfl rfl rfl (Lens.elem (i:=3) (by omega) u32T) zbe) ?_;refine qaw ?_;refine A0 (zd5 rfl rfl rfl) ?_;refine qaw ?_;refine A0 (zJ (i:=5) rfl rfl rfl (by first|omega|rfl) zct (by omega)) ?_;refine A0 (zq rfl rfl rfl (Lens.elem (i:=5) (by omega) u32T) zbe) ?_
   refine A0 (zJ (i:=6) rfl rfl rfl (by first|omega|rfl) zct (by omega)) ?_;refine A0 (zq rfl rfl rfl (Lens.elem (i:=6) (by omega) u32T) zbe) ?_;refine A0 (g_buildA (T:=u32T) (xs:=[_,_,_,_,_,_,_,_]) rfl zct ze_262 ⟨rfl,rfl,rfl,rfl,rfl,rfl,rfl,rfl,rfl,rfl,rfl,rfl,rfl,rfl,rfl,rfl,trivial⟩ rfl) ?_;refine zh rfl rfl rfl rfl rfl (Lens.self _) ty_262 rfl ?_;refine qaW ?_;refine zS (n:=3) rfl round_succ ?_
   exact Nx (k+1) (by omega) (by omega)
  ·
   obtain rfl:k=64:=(by omega)
   refine CE ?_;refine CQR ?_;refine A0 (oLs rfl rfl rfl ty_262) ?_;refine qa8 ?_;refine Lp (ι:=Nat) 1 (fun (k:Nat)=>(((Fr.none).set 0 (.ptr 0 0)).set 179 (.val (arrT 8 (by decide) u32T) (roundN (schedN b 64) s 64))).set 180 (.val i64T (k:Int))) (fun (k:Nat)=>(Hp.none).set 0 (.box 262 (arrT 8 (by decide) u32T) (sumN (roundN (schedN b 64) s 64) s k))) (fun (k:Nat)=>k≤8) (fun (k:Nat)=>8-k) (0) (Nat.zero_le _) ?_
   intro k hinv
   refine qaj ?_;refine Cf (p:=k<8) (fun ht181=>?_) (fun ht181=>?_)
   ·
    obtain ⟨x,hx⟩:∃x,(roundN (schedN b 64) s 64)[k]?=some x:=⟨_,List.getElem?_eq_getElem (by rw [roundN_len hs];exact ht181)⟩
    refine qaP ?_;refine A0 (g_index rfl rfl rfl rfl zct zbe (by assumption)) ?_;refine qbo ?_;refine zE [some 1,some 1,some 1,some 1,some 1,some 1,some 1,some 1,some 1,none] mixed (by decide +kernel) ?_;refine X0 mP ?_;refine X0 mV ?_;refine X0 (g_nc rfl rfl) ?_;refine X0 (zJ (i:=k) rfl rfl rfl (by first|omega|rfl) zct (by omega)) ?_;refine X0 (zq rfl rfl rfl (Lens.elem (i:=k) (by omega) u32T) zbe) ?_;refine X0 mV ?_;refine X0 (zd5 rfl rfl rfl) ?_;refine X0 (g_nc rfl rfl) ?_;refine X0 (zJ (i:=k) rfl rfl rfl (by first|omega|rfl) zct (by omega)) ?_
    refine XK.e (x:=.idk) (fun fr' hfr kk H=>by exact zh rfl rfl rfl ((hfr 192 (by decide +kernel)).trans rfl) rfl (Lens.elem (i:=k) (by omega) u32T) zbe ((hfr 190 (by decide +kernel)).trans rfl) (zK H)) ?_;refine qaJ ?_;refine zS (n:=0) rfl (sum_succ hx) ?_
    exact Nx (k+1) (by omega) (by omega)
   ·
    obtain rfl:k=8:=(by omega)
    refine CE ?_
    exact aw_fallm0 rfl rfl rfl rfl rfl (zbb rfl rfl)
set_option maxRecDepth 20000
theorem padOf_len (b:List UInt8):(padOf b).length=64*((b.length+padZ b.length+9)/64):=by
  have h:(padOf b).length=b.length+padZ b.length+9:=by
    unfold padOf
    rw [List.length_append,padOf_pre]
    unfold numBytes
    simp;omega
  rw [h];unfold padZ;omega
def shaH:List UInt32:=[1779033703,3144134277,1013904242,2773480762,1359893119,2600822924,528734635,1541459225]
def shaN (p:List UInt8) (n:Nat):List UInt32:=(List.range n).foldl (fun s i=>addOf s ((p.take (64*i+64)).drop (64*i))) shaH
def shaWords (b:List UInt8):List UInt32:=shaN (padOf b) ((padOf b).length/64)
def shaByte (v:List UInt32) (i:Nat):UInt8:=u8OfI (IntL.toI u32T (shr32 (v.getD (i/4) default) (24-8*(i%4))))
def shaSum (b:List UInt8):Ab.Id:=(List.range 32).map (shaByte (shaWords b))
def shaOut (v:List UInt32) (k:Nat):Ab.Id:=(List.range k).foldl (fun l i=>l.set i (shaByte v i)) zId
theorem fold_set_get {α:Type} (f:Nat→α) (l:List α):∀k j,((List.range k).foldl (fun l i=>l.set i (f i)) l)[j]?=if j<k∧j<l.length then some (f j) else l[j]?
  | 0,j=>by simp
  | k+1,j=>by
    rw [List.range_succ,List.foldl_append]
    show (List.set _ k (f k))[j]?=_
    have hl:∀k,((List.range k).foldl (fun l i=>l.set i (f i)) l).length=l.length:=fun k=>by
      induction k with
      | zero=>rfl
      | succ k ih=>rw [List.range_succ,List.foldl_append];simp only [List.foldl_cons,List.foldl_nil,List.length_set];exact ih
    rw [List.getElem?_set,fold_set_get f l k j,hl]
    by_cases c:k=j
    · subst c
      by_cases d:k<l.length
      · simp [d]
      · simp [d]
    · rw [if_neg c]
      by_cases d:j<k
      · have:j<k+1:=by omega
        simp [d,this]
      · have:¬j<k+1:=by omega
        simp [d,this]
theorem shaOut_all (v:List UInt32):shaOut v 32=(List.range 32).map (shaByte v):=by
  apply List.ext_getElem?
  intro j
  unfold shaOut
  rw [fold_set_get,List.getElem?_map]
  have hz:zId.length=32:=rfl
  rw [hz]
  by_cases c:j<32
  · rw [if_pos ⟨c,c⟩,List.getElem?_range c];rfl
  · rw [if_neg (fun h=>c h.1),List.getElem?_eq_none (by first|(rw [hz];omega)|(rw [List.length_range];omega)),List.getElem?_eq_none (by first|(rw [hz];omega)|(rw [List.length_range];omega))];rfl
theorem shaOut_succ {v:List UInt32} {k:Nat} {x:UInt8} (h:x=shaByte v k):(shaOut v k).set k x=shaOut v (k+1):=by
  subst h
  unfold shaOut
  rw [List.range_succ,List.foldl_append];rfl
theorem shaN_succ {p:List UInt8} {k:Nat}:addOf (shaN p k) ((p.take (64*k+64)).drop (64*k))=shaN p (k+1):=by
  unfold shaN
  rw [List.range_succ,List.foldl_append];rfl
theorem sumN_len {v s:List UInt32}:∀k,(sumN v s k).length=s.length
  | 0=>rfl
  | k+1=>by
    unfold sumN
    rw [List.range_succ,List.foldl_append]
    simp only [List.foldl_cons,List.foldl_nil,List.length_set]
    exact sumN_len k
theorem shaN_len (p:List UInt8):∀k,(shaN p k).length=8
  | 0=>rfl
  | k+1=>by rw [←shaN_succ];unfold addOf;rw [sumN_len];exact shaN_len p k
theorem sum_ok (b:List UInt8) (hb:b.length≤70368744177664):Tells P 163 [.val (sl u8T) b] (.val idT (shaSum b)):=by
 obtain ⟨m,hm⟩:∃m,m=(b.length+padZ b.length+9)/64:=⟨_,rfl⟩
 have hz2:padZ b.length<64:=by unfold padZ;omega
 have hpl:(padOf b).length=64*m:=by rw [padOf_len,hm]
 have hmb:m≤2000000000000:=by omega
 refine zc Tryz.func163 rfl rfl rfl (fun ext w hext=>?_)
 refine ze (d:=0) rfl zk (fun hsl0=>?_)
 refine qby ?_;refine A0 (g_buildA (T:=u32T) (xs:=[_,_,_,_,_,_,_,_]) rfl zct ze_262 ⟨rfl,rfl,rfl,rfl,rfl,rfl,rfl,rfl,rfl,rfl,rfl,rfl,rfl,rfl,rfl,rfl,trivial⟩ rfl) ?_;refine aw_box rfl rfl rfl rfl rfl ?_;refine aw_alloc_p zp_260 rfl rfl rfl rfl rfl rfl ?_;refine zaj rfl rfl rfl rfl rfl rfl rfl rfl rfl rfl ty_260 ?_;refine qaT ?_;refine A0 (oCl (zp (pad_ok b hb)) rfl fn_226 ⟨(zd rfl),trivial⟩) ?_;refine zU rfl rfl rfl rfl Tryz.func225 fn_225 rfl rfl (fun ia2 iok2=>?_)
 refine qa6 ?_;refine A0 aL ?_;refine CNQQR ?_;refine A0 (oLs rfl rfl rfl ty_3) ?_;refine qaG ?_;refine zdx rfl (by decide) ?_;refine CSQR ?_;refine A0 (g_mkf (caps:=[_,_]) rfl rfl) ?_;refine A0 aC ?_;refine CN ?_;refine zaK rfl ?_;refine CNB ?_;refine aw_range rfl rfl rfl Tryz.func271 fn_271 rfl rfl (by intro n hn;simp only [List.mem_cons,List.not_mem_nil,or_false] at hn;rcases hn with rfl|rfl<;>rfl) (fun fid3 ca3 lN3 DN3 cok3 rc3 hrc3=>?_)
 refine CQR ?_;refine A0 aV ?_;refine CNB ?_;refine Lp (ι:=Nat) 7 (fun (k:Nat)=>((((Fr.none).set 0 (.lit (.func (.yield lN3) #[] #[]))).set 1 (.ptr 3 0)).set 2 (.ptr 4 0)).set 4 (.val i64T ((64*k:Nat):Int))) (fun (k:Nat)=>(((((((Hp.none).set 0 (.box 46 idT zId)).set 1 (.box 262 (arrT 8 (by decide) u32T) (shaN (padOf b) k))).set 2 (.parts 260 [.ptr 1 0])).set 3 (.box 26 (sl u8T) (padOf b))).set 4 (.box 3 i64T 64)).set 5 (.objAt DN3 (.deferred (some [])))).set 6 (.objAt lN3 (rc3 .ready none))) (fun (k:Nat)=>k≤m) (fun (k:Nat)=>m-k) (0) (Nat.zero_le _) ?_
 intro k hinv
 refine qbb ?_;refine A0 (oLs rfl rfl rfl zc6) ?_;refine qbD ?_;refine qaG ?_;refine Cf (p:=64*k<(padOf b).length) (fun ht9=>?_) (fun ht9=>?_)
 ·
  refine CS ?_;refine CQ ?_;refine CB ?_;refine qbc ?_;refine G0 (oLs rfl rfl rfl ty_3) ?_;refine G0 (oLs rfl rfl rfl zc6) ?_;refine G0 mV ?_;refine G0 (zen rfl rfl rfl zar (by first|assumption|omega|(simp;omega))) ?_;refine G0 (zR rfl rfl za3) ?_;refine G0 (g_min rfl rfl rfl) ?_;refine qbn ?_;refine zi (d:=5) (y:=(64:Int)) rfl (by simp;omega) ?_;refine CQR ?_;refine A0 mL ?_;refine A0 (oLs rfl rfl rfl zc6) ?_;refine qak ?_;refine qaY ?_;refine qak ?_;refine A0 zby ?_;refine A0 (g_sl_lhm rfl rfl rfl rfl rfl zar (by simp;omega)) ?_
  refine zi (d:=28) (y:=((padOf b).take (64*k+64)).drop (64*k)) rfl (by congr 1) ?_;refine aw_yield (nL:=6) rfl rfl rfl rfl rfl hrc3 rfl rfl rfl (fun ya4 yok4=>?_)
  refine CR ?_;refine qac ?_;refine aw_begin (nL:=6) hrc3 rfl ?_;refine CB ?_;refine CR ?_;refine A0 (by first|exact zo rfl rfl rfl rfl rfl ty_260|exact zaU rfl rfl rfl rfl ty_260) ?_;refine qaw ?_
  refine zfh (add_ok (shaN (padOf b) k) (((padOf b).take (64*k+64)).drop (64*k)) (by rw [List.length_drop,List.length_take];omega) (shaN_len _ k)) rfl fn_227 rfl trivial trivial rfl ⟨(by first|exact zaN rfl|exact zaM rfl|exact zat rfl|exact zaQ rfl|exact zaO rfl|exact zaP rfl|exact zaL rfl rfl (by decide)),(by first|exact zaN rfl|exact zaM rfl|exact zat rfl|exact zaQ rfl|exact zaO rfl|exact zaP rfl|exact zaL rfl rfl (by decide)),trivial⟩ rfl rfl rfl ?_;refine CN ?_;refine CI ?_;refine zdl (nL:=6) hrc3 rfl ?_
  refine qaN ?_;refine Cg ?_;refine CSIR ?_;refine qaw ?_;refine A0 (oLs rfl rfl rfl ty_3) ?_;refine A0 zby ?_;refine qac ?_;refine zi (d:=4) (y:=((64*(k+1):Nat):Int)) rfl (by omega) ?_;refine zS (n:=1) (y:=shaN (padOf b) (k+1)) rfl shaN_succ ?_
  exact Nx (k+1) (by omega) (by omega)
 ·
  obtain rfl:m=k:=(by omega)
  refine CE ?_;refine zer (nL:=6) rfl hrc3 rfl (by decide) ?_;refine CI ?_;refine CQR ?_;refine qaD ?_;refine CNQQR ?_;refine qa8 ?_;refine Lp (ι:=Nat) 8 (fun (j:Nat)=>((((Fr.none).set 2 (.ptr 0 0)).set 3 (.ptr 2 0)).set 5 (.ptr 7 0)).set 16 (.val i64T (j:Int))) (fun (j:Nat)=>(((((Hp.none).set 0 (.box 46 idT zId)).set 1 (.box 262 (arrT 8 (by decide) u32T) (shaN (padOf b) m))).set 2 (.parts 260 [.ptr 1 0])).set 5 (.objAt DN3 (.deferred (some [])))).set 7 (.box 46 idT (shaOut (shaN (padOf b) m) j))) (fun (j:Nat)=>j≤32) (fun (j:Nat)=>32-j) (0) (Nat.zero_le _) ?_
  intro j hinv
  refine qaj ?_;refine Cf (p:=j<32) (fun ht17=>?_) (fun ht17=>?_)
  ·
   refine qaP ?_;refine qbG ?_;refine qaw ?_;refine A0 (by first|exact zo rfl rfl rfl rfl rfl ty_260|exact zaU rfl rfl rfl rfl ty_260) ?_;refine qaw ?_;refine A0 (g_quo rfl rfl rfl (by first|omega|assumption) (by first|decide|omega) rfl) ?_;refine A0 (g_nc rfl rfl) ?_;refine A0 (zJ (i:=j/4) rfl rfl rfl (by first|omega|rfl) zct (by omega)) ?_;refine A0 (zq rfl rfl rfl (Lens.elem (i:=j/4) (by omega) u32T) zbe) ?_;refine qaw ?_;refine A0 (g_rem rfl rfl rfl (by first|omega|assumption) (by first|decide|omega) rfl) ?_;refine A0 o_mul ?_;refine A0 zaT ?_
   refine A0 (g_shr32 rfl rfl rfl (by first|decide|(simp [IntL.toI];done)|(simp [IntL.toI];omega)) rfl) ?_;refine A0 (zew rfl (ui_5) (us_50) rfl) ?_;refine A0 (zJ (i:=j) rfl rfl rfl (by first|omega|rfl) zdp (by omega)) ?_;refine zh rfl rfl rfl rfl rfl (Lens.elem (i:=j) (by omega) u8T) ty_5 rfl ?_;refine qaW ?_;refine zS (n:=7) (y:=shaOut (shaN (padOf b) m) (j+1)) rfl (shaOut_succ (by unfold shaByte;congr 3;simp only [IntL.toI,id_eq];omega)) ?_
   exact Nx (j+1) (by omega) (by omega)
  ·
   obtain rfl:j=32:=(by omega)
   refine CE ?_;refine CQR ?_;refine A0 (oLs rfl rfl rfl zI) ?_;refine qaq ?_;refine zao (zbP (nD:=5) rfl rfl rfl ?_)
   exact ar_retc1 rfl rfl rfl rfl zI (by rw [shaOut_all];unfold shaSum shaWords;rw [hpl,Nat.mul_div_cancel_left m (by decide)])
def idOf (t:Tx):Ab.Id:=if mayTx t=true then shaSum ([6]++putTx t) else zId
theorem relAll_mem {α:Type} {T:GoT α} {U N:Nat→Prop} {w:World}:∀{l:List α} {cs:List Value},relAll T U N w l cs→∀x∈l,∃c,T.rel U N w x c
  | [],_,_,x,hx=>by cases hx
  | y::l,_,⟨c1,c2,_,h1,h2⟩,x,hx=>by
    rcases List.mem_cons.1 hx with e|e
    · exact ⟨c1,e▸h1⟩
    · exact relAll_mem h2 x e
theorem fact_tx {t:Tx} {ρ:Nat→Value} {B:Nat→Prop} {U N:Nat→Prop} {w:World} {v:Value} (h:(AV.val txT t).rel ρ B U N w v):∀x∈t.ins,x.tx.length=32:=fun x hx=>by
  obtain ⟨cs,⟨c1,c2,_,⟨ad,cap,_,_,_,h3⟩,_⟩,_⟩:=h
  obtain ⟨_,ds,_,_,hr,_⟩:=h3 (List.ne_nil_of_mem hx)
  obtain ⟨c,hc⟩:=relAll_mem hr x hx
  exact fact_in hc
theorem flat_len {α β:Type} {f:α→List β} {n:Nat}:∀{l:List α},(∀x∈l,(f x).length=n)→(l.map f).flatten.length=l.length*n
  | [],_=>by simp
  | x::l,h=>by
    rw [List.map_cons,List.flatten_cons,List.length_append,h x (by simp),flat_len (fun y hy=>h y (by simp [hy])),List.length_cons,Nat.add_mul];omega
theorem putTx_len {t:Tx} (h:mayTx t=true) (h32:∀x∈t.ins,x.tx.length=32):(putTx t).length≤200:=by
  obtain ⟨h1,_,h2⟩:=zdQ h
  unfold putTx putOuts putIns
  have e1:=flat_len (f:=putIn) (n:=33) (l:=t.ins.take t.ins.length) (fun x hx=>by
    rw [List.take_length] at hx
    unfold putIn
    rw [List.length_append,h32 x hx];rfl)
  have e2:=flat_len (f:=putOut) (n:=7) (l:=t.outs.take t.outs.length) (fun x hx=>by
    unfold putOut
    rw [List.length_append,zH];rfl)
  rw [List.take_length] at e1 e2
  simp only [List.length_append,List.length_cons,List.length_nil,List.take_length,e1,e2]
  omega
theorem of_ok (ls:List (List UInt8)) (hl:ls.flatten.length≤70368744177664):Tells P 123 [.val (bsl (bsl u8T)) ls] (.val idT (shaSum ls.flatten)):=by
 refine zc Tryz.func123 rfl rfl rfl (fun ext w hext=>?_)
 refine ze (d:=0) rfl zk (fun hsl0=>?_)
 refine qby ?_;refine qaw ?_;refine A0 (oCl (zp (zeL ls (by omega))) rfl fn_143 ⟨(zd rfl),trivial⟩) ?_;refine A0 (oCl (sum_ok ls.flatten hl) rfl fn_163 ⟨(zd rfl),trivial⟩) ?_;refine qaq ?_
 exact z6 rfl rfl rfl rfl zI (rfl)
theorem id_ok (t:Tx):Tells P 162 [.val txT t] (.val idT (idOf t)):=by
 refine zc Tryz.func162 rfl rfl rfl (fun ext w hext=>?_)
 refine ze (d:=0) rfl fact_tx (fun h32=>?_)
 refine qaf ?_;refine qaD ?_;refine CNQR ?_;refine qbH ?_;refine A0 (oCl (zbT (put_ok t)) rfl fn_224 ⟨(zd rfl),trivial⟩) ?_;refine A0 mX ?_;refine A0 (by first|exact zN rfl rfl|exact zM rfl rfl) ?_;refine A0 (by first|exact zQ rfl rfl|exact zP rfl rfl) ?_;refine A0 aV ?_;refine qai ?_;refine qaN ?_;refine zr (p:=¬mayTx t=true) rfl (by simp) (fun ht11=>?_) (fun ht11=>?_)
 ·
  refine CQR ?_;refine A0 (zcf rfl zdp ze_46 rfl) ?_;refine qaq ?_
  exact z6 rfl rfl rfl rfl zI (by unfold idOf;rw [if_neg ht11])
 ·
  refine zi (d:=3) rfl (if_pos (Classical.not_not.1 ht11)) ?_;refine CSQR ?_;refine A0 (zt (T:=u8T) (xs:=[_]) rfl zar zaZ ⟨rfl,rfl,trivial⟩ rfl rfl) ?_;refine qaw ?_;refine A0 (zt (T:=(sl u8T)) (xs:=[_,_]) rfl zeF zdB ⟨rfl,rfl,rfl,rfl,trivial⟩ rfl rfl) ?_;refine A0 (oCl (of_ok [[6],putTx t] (by have:=putTx_len (Classical.not_not.1 ht11) h32;simp;omega)) rfl fn_123 ⟨(zd rfl),trivial⟩) ?_;refine qaq ?_
  exact z6 rfl rfl rfl rfl zI (by unfold idOf;rw [if_pos (Classical.not_not.1 ht11)];simp)
set_option maxRecDepth 20000
theorem cb_zero:∀{a b:List UInt8},Lib.compareBytes a b=0↔a=b
  | [],[]=>by simp [Lib.compareBytes]
  | [],_::_=>by simp [Lib.compareBytes]
  | _::_,[]=>by simp [Lib.compareBytes]
  | x::a,y::b=>by
    unfold Lib.compareBytes
    by_cases h1:x<y
    · rw [if_pos h1]
      constructor
      · intro h;omega
      · intro h;injection h with h _;subst h;exact absurd h1 (UInt8.lt_irrefl _)
    · rw [if_neg h1]
      by_cases h2:y<x
      · rw [if_pos h2]
        constructor
        · intro h;omega
        · intro h;injection h with h _;subst h;exact absurd h2 (UInt8.lt_irrefl _)
      · rw [if_neg h2]
        have e:x=y:=UInt8.le_antisymm (UInt8.not_lt.1 h2) (UInt8.not_lt.1 h1)
        subst e
        rw [cb_zero (a:=a) (b:=b)]
        simp
theorem cb_neg:∀{a b:List UInt8},Lib.compareBytes b a = -Lib.compareBytes a b
  | [],[]=>by simp [Lib.compareBytes]
  | [],_::_=>by simp [Lib.compareBytes]
  | _::_,[]=>by simp [Lib.compareBytes]
  | x::a,y::b=>by
    unfold Lib.compareBytes
    by_cases h1:x<y
    · have h2:¬y<x:=fun h=>UInt8.lt_irrefl _ (UInt8.lt_trans h1 h)
      simp [h1,h2]
    · by_cases h2:y<x
      · simp [h1,h2]
      · simp only [if_neg h1,if_neg h2];exact cb_neg
theorem cb_trans:∀{a b c:List UInt8},Lib.compareBytes a b<0→Lib.compareBytes b c<0→Lib.compareBytes a c<0
  | [],[],_,h,_=>by simp [Lib.compareBytes] at h
  | _::_,[],_,h,_=>by simp [Lib.compareBytes] at h
  | _,_::_,[],_,h=>by simp [Lib.compareBytes] at h
  | [],_::_,_::_,_,_=>by simp [Lib.compareBytes]
  | x::a,y::b,z::c,h,k=>by
    unfold Lib.compareBytes at h k ⊢
    by_cases h1:x<y
    · by_cases k1:y<z
      · rw [if_pos (UInt8.lt_trans h1 k1)];omega
      · rw [if_neg k1] at k
        by_cases k2:z<y
        · rw [if_pos k2] at k;omega
        · have e:y=z:=UInt8.le_antisymm (UInt8.not_lt.1 k2) (UInt8.not_lt.1 k1)
          subst e;rw [if_pos h1];omega
    · rw [if_neg h1] at h
      by_cases h2:y<x
      · rw [if_pos h2] at h;omega
      · rw [if_neg h2] at h
        have e:x=y:=UInt8.le_antisymm (UInt8.not_lt.1 h2) (UInt8.not_lt.1 h1)
        subst e
        by_cases k1:x<z
        · rw [if_pos k1];omega
        · rw [if_neg k1] at k ⊢
          by_cases k2:z<x
          · rw [if_pos k2] at k;omega
          · rw [if_neg k2] at k ⊢;exact cb_trans h k
theorem ordIn_eq (a b:In):ordIn a b=if Lib.compareBytes a.tx b.tx=0 then cmpInt a.i b.i else Lib.compareBytes a.tx b.tx:=by
  unfold ordIn
  simp only [orL]
  by_cases h:Lib.compareBytes a.tx b.tx=0
  · rw [if_pos h,if_pos h]
    split<;>simp_all
  · rw [if_neg h,if_neg h]
theorem cmpInt_zero {x y:Int}:cmpInt x y=0↔x=y:=by unfold cmpInt;split<;>(try split)<;>omega
theorem zbW {a b:In}:ordIn a b=0↔a=b:=by
  rw [ordIn_eq]
  by_cases h:Lib.compareBytes a.tx b.tx=0
  · rw [if_pos h,cmpInt_zero]
    have:=cb_zero.1 h
    cases a;cases b;simp_all
  · rw [if_neg h]
    constructor
    · intro e;exact absurd e h
    · intro e;subst e;exact absurd (cb_zero.2 rfl) h
theorem zb8 (a b:In):ordIn b a = -ordIn a b:=by
  rw [ordIn_eq,ordIn_eq,cb_neg (a:=a.tx) (b:=b.tx)]
  by_cases h:Lib.compareBytes a.tx b.tx=0
  · rw [if_pos h,if_pos (by omega)]
    unfold cmpInt;split<;>split<;>(try split)<;>omega
  · rw [if_neg h,if_neg (by omega)]
theorem zd1 {a b c:In} (h:ordIn a b<0) (k:ordIn b c<0):ordIn a c<0:=by
  rw [ordIn_eq] at h k ⊢
  by_cases h1:Lib.compareBytes a.tx b.tx=0
  · rw [if_pos h1] at h
    have e:=cb_zero.1 h1
    rw [e]
    by_cases k1:Lib.compareBytes b.tx c.tx=0
    · rw [if_pos k1] at k ⊢
      unfold cmpInt at *;split at h<;>split at k<;>(try split at h)<;>(try split at k)<;>split<;>(try split)<;>omega
    · rw [if_neg k1] at k ⊢;exact k
  · rw [if_neg h1] at h
    by_cases k1:Lib.compareBytes b.tx c.tx=0
    · have e:=cb_zero.1 k1
      rw [←e,if_neg h1];exact h
    · rw [if_neg k1] at k
      have:=cb_trans h k
      rw [if_neg (by omega)];exact this
set_option maxRecDepth 20000
def sortL_ren:Go.Shelf.Ren:=⟨fun|6=>288|15=>155|14=>321|28=>214|29=>215|20=>331|21=>332|22=>333|23=>334|24=>335|25=>336|26=>337|27=>338|46=>341|47=>264|48=>265|49=>342|50=>343|57=>344|n=>n,fun|22=>63|24=>228|25=>316|3=>3|39=>135|0=>0|53=>50|55=>47|4=>4|46=>250|45=>249|50=>79|5=>5|9=>9|66=>286|70=>290|76=>326|77=>327|n=>n,fun|n=>n⟩
theorem sortL:Go.Proofs.SlLaysF0.n6 P sortL_ren:={
  mixed:=by kernel_rfl,
  f6:=⟨Tryz.f288.name,by decide,Tryz.func288.trans (congrArg some (by kernel_rfl))⟩,
  f14:=⟨Tryz.f321.name,by decide,Tryz.func321.trans (congrArg some (by kernel_rfl))⟩,
  f15:=Tryz.func155.trans (congrArg some (by kernel_rfl)),
  f20:=⟨Tryz.f331.name,by decide,Tryz.func331.trans (congrArg some (by kernel_rfl))⟩,
  f21:=⟨Tryz.f332.name,by decide,Tryz.func332.trans (congrArg some (by kernel_rfl))⟩,
  f22:=⟨Tryz.f333.name,by decide,Tryz.func333.trans (congrArg some (by kernel_rfl))⟩,
  f23:=⟨Tryz.f334.name,by decide,Tryz.func334.trans (congrArg some (by kernel_rfl))⟩,
  f24:=⟨Tryz.f335.name,by decide,Tryz.func335.trans (congrArg some (by kernel_rfl))⟩,
  f25:=⟨Tryz.f336.name,by decide,Tryz.func336.trans (congrArg some (by kernel_rfl))⟩,
  f26:=⟨Tryz.f337.name,by decide,Tryz.func337.trans (congrArg some (by kernel_rfl))⟩,
  f27:=⟨Tryz.f338.name,by decide,Tryz.func338.trans (congrArg some (by kernel_rfl))⟩,
  f28:=Tryz.func214.trans (congrArg some (by kernel_rfl)),
  f29:=Tryz.func215.trans (congrArg some (by kernel_rfl)),
  f46:=⟨Tryz.f341.name,by decide,Tryz.func341.trans (congrArg some (by kernel_rfl))⟩,
  f47:=Tryz.func264.trans (congrArg some (by kernel_rfl)),
  f48:=Tryz.func265.trans (congrArg some (by kernel_rfl)),
  f49:=⟨Tryz.f342.name,by decide,Tryz.func342.trans (congrArg some (by kernel_rfl))⟩,
  f50:=⟨Tryz.f343.name,by decide,Tryz.func343.trans (congrArg some (by kernel_rfl))⟩,
  f57:=⟨Tryz.f344.name,by decide,Tryz.func344.trans (congrArg some (by kernel_rfl))⟩,
  t0:=Tryz.underlying0,
  a0:=Tryz.isAgg0,
  z0:=Tryz.sizeOf0,
  v0:=Tryz.zeroValue0,
  t3:=Tryz.underlying3,
  a3:=Tryz.isAgg3,
  z3:=Tryz.sizeOf3,
  v3:=Tryz.zeroValue3,
  t4:=Tryz.underlying4,
  a4:=Tryz.isAgg4,
  z4:=Tryz.sizeOf4,
  v4:=Tryz.zeroValue4,
  t5:=Tryz.underlying5,
  a5:=Tryz.isAgg5,
  z5:=Tryz.sizeOf5,
  v5:=Tryz.zeroValue5,
  t9:=Tryz.underlying9,
  a9:=Tryz.isAgg9,
  z9:=Tryz.sizeOf9,
  v9:=Tryz.zeroValue9,
  t22:=Tryz.underlying63,
  a22:=Tryz.isAgg63,
  z22:=Tryz.sizeOf63,
  v22:=Tryz.zeroValue63,
  t25:=Tryz.underlying316,
  a25:=Tryz.isAgg316,
  z25:=Tryz.sizeOf316,
  v25:=Tryz.zeroValue316,
  t39:=Tryz.underlying135,
  a39:=Tryz.isAgg135,
  z39:=Tryz.sizeOf135,
  v39:=Tryz.zeroValue135,
  t45:=Tryz.underlying249,
  a45:=Tryz.isAgg249,
  z45:=Tryz.sizeOf249,
  v45:=Tryz.zeroValue249,
  t46:=Tryz.underlying250,
  a46:=Tryz.isAgg250,
  z46:=Tryz.sizeOf250,
  v46:=Tryz.zeroValue250,
  t50:=Tryz.underlying79,
  a50:=Tryz.isAgg79,
  z50:=Tryz.sizeOf79,
  v50:=Tryz.zeroValue79,
  t53:=Tryz.underlying50,
  a53:=Tryz.isAgg50,
  z53:=Tryz.sizeOf50,
  v53:=Tryz.zeroValue50,
  t55:=Tryz.underlying47,
  a55:=Tryz.isAgg47,
  z55:=Tryz.sizeOf47,
  v55:=Tryz.zeroValue47,
  t66:=Tryz.underlying286,
  a66:=Tryz.isAgg286,
  z66:=Tryz.sizeOf286,
  v66:=Tryz.zeroValue286,
  t70:=Tryz.underlying290,
  a70:=Tryz.isAgg290,
  z70:=Tryz.sizeOf290,
  v70:=Tryz.zeroValue290,
  t76:=Tryz.underlying326,
  a76:=Tryz.isAgg326,
  z76:=Tryz.sizeOf326,
  v76:=Tryz.zeroValue326,
  t77:=Tryz.underlying327,
  a77:=Tryz.isAgg327,
  z77:=Tryz.sizeOf327,
  v77:=Tryz.zeroValue327 }
def Apart (l:List Coin):Prop:=l.Pairwise fun a b=>ordIn a.inn b.inn≠0
def sortC (l:List Coin):List Coin:=l.mergeSort fun a b=>decide (ordIn a.inn b.inn≤0)
def encId (l:Ab.Id):List Value:=l.map fun b=>.int .u8 b.toNat
def encCoin (c:Coin):List Value:=encId c.inn.tx++[.int .i64 c.inn.i,.int .i64 c.out.v,.int .i64 c.out.to]
def okCoin (c:Coin):Prop:=c.inn.tx.length=32∧IntKind.InR .i64 c.inn.i∧IntKind.InR .i64 c.out.v∧IntKind.InR .i64 c.out.to
theorem flat_u8:Flat1 u8T (fun b=>[.int .u8 b.toNat]) (fun _=>True):=fun _ _ _ _ _=>Iff.rfl
theorem flat_id:Flat1 idT encId (fun l=>l.length=32):=fun U N w l cs=>by
  show (l.length=32∧relAll u8T U N w l cs)↔_
  rw [zfa flat_u8]
  have e:(l.map fun b:UInt8=>[Value.int .u8 b.toNat]).flatten=encId l:=by
    unfold encId
    induction l with
    | nil=>rfl
    | cons x l ih=>rw [List.map_cons,List.flatten_cons,ih];rfl
  rw [e]
  exact ⟨fun h=>⟨h.2.1,h.1⟩,fun h=>⟨h.2,h.1,fun _ _=>trivial⟩⟩
theorem flat_coin:Flat1 coinT encCoin okCoin:=fun U N w c cs=>by
  constructor
  · rintro ⟨c1,c2,rfl,⟨d1,d2,rfl,h1,h2⟩,⟨d3,d4,rfl,h3,h4⟩⟩
    obtain ⟨rfl,k1⟩:=(flat_id _ _ _ _ _).1 h1
    obtain ⟨rfl,k2⟩:=h2
    obtain ⟨rfl,k3⟩:=h3
    obtain ⟨rfl,k4⟩:=h4
    exact ⟨by simp [encCoin],k1,k2,k3,k4⟩
  · rintro ⟨rfl,k1,k2,k3,k4⟩
    exact ⟨encId c.inn.tx++[.int .i64 c.inn.i],[.int .i64 c.out.v,.int .i64 c.out.to],by simp [encCoin],⟨encId c.inn.tx,[.int .i64 c.inn.i],rfl,(flat_id _ _ _ _ _).2 ⟨rfl,k1⟩,rfl,k2⟩,⟨[.int .i64 c.out.v],[.int .i64 c.out.to],rfl,⟨rfl,k3⟩,rfl,k4⟩⟩
theorem sort_unique {l r:List Coin} (hl:Apart l) (hp:r.Perm l) (hs:r.Pairwise fun a b=>¬ordIn b.inn a.inn<0):r=sortC l:=by
  have hle:∀a b c:Coin,(decide (ordIn a.inn b.inn≤0))=true→(decide (ordIn b.inn c.inn≤0))=true→(decide (ordIn a.inn c.inn≤0))=true:=fun a b c h1 h2=>by
    have h1:=of_decide_eq_true h1
    have h2:=of_decide_eq_true h2
    apply decide_eq_true
    by_cases e1:ordIn a.inn b.inn=0
    · rw [zbW.1 e1];exact h2
    · by_cases e2:ordIn b.inn c.inn=0
      · rw [←zbW.1 e2];exact h1
      · have:=zd1 (show ordIn a.inn b.inn<0 by omega) (show ordIn b.inn c.inn<0 by omega);omega
  have htot:∀a b:Coin,(decide (ordIn a.inn b.inn≤0)||decide (ordIn b.inn a.inn≤0))=true:=fun a b=>by
    have:=zb8 a.inn b.inn
    rw [Bool.or_eq_true,decide_eq_true_eq,decide_eq_true_eq];omega
  have h1:(sortC l).Pairwise fun a b=>(decide (ordIn a.inn b.inn≤0))=true:=List.pairwise_mergeSort (fun a b c=>hle a b c) (fun a b=>htot a b) l
  have h2:r.Pairwise fun a b=>(decide (ordIn a.inn b.inn≤0))=true:=hs.imp fun {a b} h=>by
    have:=zb8 a.inn b.inn
    exact decide_eq_true (by omega)
  have hperm:r.Perm (sortC l):=hp.trans (List.mergeSort_perm l _).symm
  have hap:Apart (sortC l):=(List.mergeSort_perm l _).symm.pairwise hl (fun {a b} h=>by have:=zb8 a.inn b.inn;omega)
  have hinj:∀a∈sortC l,∀b∈sortC l,ordIn a.inn b.inn=0→a=b:=by
    intro a ha b hb h0
    apply Classical.byContradiction
    intro hne
    obtain ⟨i,hi,rfl⟩:=List.getElem_of_mem ha
    obtain ⟨j,hj,rfl⟩:=List.getElem_of_mem hb
    have hw:=List.pairwise_iff_getElem.1 hap
    rcases Nat.lt_trichotomy i j with h|h|h
    · exact hw i j hi hj h h0
    · subst h;exact hne rfl
    · have:=zb8 (sortC l)[i].inn (sortC l)[j].inn
      exact hw j i hj hi h (by omega)
  refine hperm.eq_of_pairwise (le:=fun a b=>(decide (ordIn a.inn b.inn≤0))=true) (fun a b ha hb x y=>?_) h2 h1
  have x:=of_decide_eq_true x
  have y:=of_decide_eq_true y
  have:=zb8 a.inn b.inn
  exact hinj a (hperm.mem_iff.1 ha) b hb (by omega)
theorem sort_ok (l:List Coin) (hl:Apart l) (hn:l.length<1000000):TellsM P 288 (.row 228 coinT l) [.own 0,.clo 289 []] (.lit (.tuple #[])) (.row 228 coinT (sortC l)) :=
  sort_tells sortL flat_coin (fun c h=>by unfold encCoin encId;simp only [List.length_append,List.length_map,h.1,List.length_cons,List.length_nil];rfl) (fun c _ v hv=>by
    unfold encCoin encId at hv
    simp only [List.mem_append,List.mem_map,List.mem_cons,List.not_mem_nil,or_false] at hv
    rcases hv with ⟨b,_,rfl⟩|rfl|rfl|rfl<;>rfl) rfl (x0:=⟨⟨zId,0⟩,⟨0,0⟩⟩) ⟨rfl,zb3.2 (by decide),zb3.2 (by decide),zb3.2 (by decide)⟩ ty_228 (cf:=fun a b=>ordIn a.inn b.inn)
    (fun c _ h=>by have:=zbW.2 (rfl:c.inn=c.inn);omega) (fun a b c _ _ _ h1 h2=>zd1 h1 h2)
    (fun a b c _ _ _ h1 h2 h3=>by
      have n1:=zb8 a.inn b.inn
      have n2:=zb8 b.inn c.inn
      by_cases e1:ordIn a.inn b.inn=0
      · rw [zbW.1 e1] at h3;exact h2 h3
      · by_cases e2:ordIn b.inn c.inn=0
        · rw [←zbW.1 e2] at h3;exact h1 h3
        · have:=zd1 (show ordIn c.inn b.inn<0 by omega) (show ordIn b.inn a.inn<0 by omega)
          have n3:=zb8 a.inn c.inn
          omega) fn_289 (fun x y=>made2_ok x y) (by omega) (fun r hp hs=>sort_unique hl hp hs)
set_option maxRecDepth 20000
def newN (id:Ab.Id) (outs:List Out) (k:Nat):List Coin:=(outs.take k).zipIdx.map fun x=>⟨⟨id,(x.2:Int)⟩,x.1⟩
theorem newN_len {id:Ab.Id} {outs:List Out} {k:Nat} (h:k≤outs.length):(newN id outs k).length=k:=by simp [newN];omega
theorem newN_succ {id:Ab.Id} {outs:List Out} {k:Nat} {o:Out} (h:outs[k]?=some o) (p:List Coin):p++newN id outs k++[⟨⟨id,(k:Int)⟩,o⟩]=p++newN id outs (k+1):=by
  have hk:=(List.getElem?_eq_some_iff.1 h).1
  unfold newN
  rw [List.take_add_one,h,List.zipIdx_append,List.map_append,List.append_assoc]
  simp
  omega
def madeOf (p:List Coin) (t:Tx):List Coin×Int:=if (p.any fun c=>decide (c.inn.tx=idOf t))=true then ([],10) else (sortC (p++newN (idOf t) t.outs t.outs.length),0)
theorem made_ok (p:List Coin) (t:Tx) (hp:p.length≤48) (hto:t.outs.length≤3) (hd:(p.any fun c=>decide (c.inn.tx=idOf t))=false→Apart (p++newN (idOf t) t.outs t.outs.length)):TellsM P 237 (.row 228 coinT p) [.own 0,.val txT t] (.tup2 (.fresh 228 coinT (madeOf p t).1) (.val i64T (madeOf p t).2)) (.none_):=by
 refine zd6 trivial Tryz.func237 rfl rfl ⟨Nat.one_pos,⟨trivial,trivial⟩⟩ (fun ext pg w hext hgr=>?_)
 refine aw_factrow (n:=0) rfl (fun hrl=>?_)
 refine qaf ?_;refine A0 aL ?_;refine qar ?_;refine qbH ?_;refine A0 (oCl (id_ok t) rfl fn_162 ⟨(zd rfl),trivial⟩) ?_;refine qaD ?_;refine zh rfl rfl rfl rfl rfl (Lens.self _) zI rfl ?_;refine CNQQR ?_;refine A0 mO ?_;refine A0 (g_mkf (caps:=[_]) rfl rfl) ?_
 refine A0 (oCl (containsFuncCoin _ _) rfl fn_286 ⟨(zG rfl rfl),(by first|exact zcH (Cs:=[_]) rfl fn_287 (by intro n hn;simp only [List.mem_cons,List.not_mem_nil,or_false] at hn;rcases hn with rfl<;>exact ⟨_,_,_,_,rfl⟩) ⟨(by exact za5 rfl),trivial⟩ rfl (fun x=>made1_ok _ x)|exact zcG (Cs:=[_]) rfl fn_287 (by intro n hn;simp only [List.mem_cons,List.not_mem_nil,or_false] at hn;rcases hn with rfl<;>exact ⟨_,_,_,_,rfl⟩) ⟨(by exact za5 rfl),trivial⟩ rfl (fun x y=>made1_ok _ x)|exact zcI rfl),trivial⟩) ?_;refine CN ?_
 refine zr (p:=(p.any fun c=>decide (c.inn.tx=idOf t))=true) rfl (Bool.decide_eq_true.symm) (fun ht13=>?_) (fun ht13=>?_)
 ·
  refine qaZ ?_
  exact aw_retm2 rfl rfl rfl rfl rfl zbK (by unfold madeOf;rw [if_pos ht13];exact retm_fresh_nil rfl) (zet zbK rfl (by unfold madeOf;rw [if_pos ht13]))
 ·
  have hnot:(p.any fun c=>decide (c.inn.tx=idOf t))=false:=by simpa using ht13
  refine CSQQR ?_;refine A0 (oFp zbG) ?_;refine A0 (oLb zcJ zek) ?_;refine A0 (zR rfl rfl zds) ?_;refine qa8 ?_;refine zaG 0 3 4 rfl rfl rfl rfl rfl rfl ?_;refine zA (n:=3) (y:=p++newN (idOf t) t.outs 0) rfl (by simp [newN]) ?_
  refine Lp (ι:=Nat) 4 (fun (k:Nat)=>((((((Fr.none).set 0 (.own 3)).set 3 (.ptr 1 0)).set 6 (.ptr 2 0)).set 15 (.val (sl outT) t.outs)).set 16 (.val i64T (t.outs.length:Int))).set 17 (.val i64T (k:Int))) (fun (k:Nat)=>(((Hp.none).set 1 (.box 133 txT t)).set 2 (.box 46 idT (idOf t))).set 3 (.row 228 coinT (p++newN (idOf t) t.outs k))) (fun (k:Nat)=>k≤t.outs.length) (fun (k:Nat)=>t.outs.length-k) (0) (Nat.zero_le _) ?_
  intro k hinv
  refine qaj ?_;refine Cf (p:=k<t.outs.length) (fun ht18=>?_) (fun ht18=>?_)
  ·
   obtain ⟨o,ho⟩:∃o,t.outs[k]?=some o:=⟨_,List.getElem?_eq_getElem ht18⟩
   have hnl:=newN_len (id:=idOf t) hinv
   refine qaP ?_;refine qb8 ?_;refine A0 aV ?_;refine zh rfl rfl rfl rfl rfl (Lens.self _) zdY rfl ?_;refine CNR ?_;refine A0 mO ?_;refine A0 (oLs rfl rfl rfl zI) ?_;refine qaw ?_;refine A0 (zC rfl ze_218 bd_218 (.cons zcD L_In_tx zI rfl (.cons zbu L_In_i ty_3 rfl .nil)) rfl) ?_;refine A0 (oLs rfl rfl rfl zdY) ?_;refine A0 (zC rfl ze_228 bd_228 (.cons zdJ zb1 zbD rfl (.cons fd_228_1 zdW zdY rfl .nil)) rfl) ?_;refine A0 (zt (T:=coinT) (xs:=[_]) rfl sl_63 row_63 ⟨rfl,rfl,trivial⟩ rfl rfl) ?_
   refine zD rfl rfl rfl rfl rfl rfl rfl row_63 (by simp only [List.length_append,List.length_cons,List.length_nil,hnl];omega) ?_;refine A0 aO ?_;refine qaW ?_;refine zaG 5 3 6 rfl rfl rfl rfl rfl rfl ?_;refine zA (n:=3) rfl (newN_succ ho p) ?_
   exact Nx (k+1) (by omega) (by omega)
  ·
   obtain rfl:k=t.outs.length:=(by omega)
   refine CE ?_;refine qb1 ?_;refine zfh (sort_ok _ (hd hnot) (by rw [List.length_append,newN_len (Nat.le_refl _)];omega)) rfl fn_288 rfl trivial trivial rfl ⟨(by first|exact zaN rfl|exact zaM rfl|exact zat rfl|exact zaQ rfl|exact zaO rfl|exact zaP rfl|exact zaL rfl rfl (by decide)),(by first|exact zaN rfl|exact zaM rfl|exact zat rfl|exact zaQ rfl|exact zaO rfl|exact zaP rfl|exact zaL rfl rfl (by decide)),trivial⟩ rfl rfl rfl ?_;refine CNQR ?_;refine A0 mO ?_;refine qbP ?_
   exact aw_retm2 rfl rfl rfl rfl rfl zbK (retm_fresh zbK (fun h=>False.elim h) rfl rfl (by unfold madeOf;rw [if_neg ht13])) (zet zbK rfl (by unfold madeOf;rw [if_neg ht13]))
set_option maxRecDepth 20000
def Sorted (p:List Coin):Prop:=p.Pairwise fun a b=>ordIn a.inn b.inn<0
theorem coinAt_iff {p:List Coin} {k:Nat} {c:Coin} (h:p[k]?=some c):coinAt p k=true↔coinOk c=true∧∀j b,k=j+1→p[j]?=some b→ordIn b.inn c.inn<0:=by
  unfold coinAt
  rw [h]
  simp only [Bool.and_eq_true]
  cases k with
  | zero=>simp
  | succ k =>
    constructor
    · rintro ⟨h1,h2⟩
      refine ⟨h1,fun j b e hb=>?_⟩
      obtain rfl:k=j:=by omega
      simp only [hb] at h2
      exact of_decide_eq_true h2
    · rintro ⟨h1,h2⟩
      refine ⟨h1,?_⟩
      simp only []
      cases hb:p[k]? with
      | none=>rfl
      | some b=>exact decide_eq_true (h2 k b rfl hb)
theorem zaC {p:List Coin}:mayCoins p=true↔(∀c∈p,coinOk c=true)∧Sorted p∧p.length≤48:=by
  unfold mayCoins
  simp only [Bool.and_eq_true,decide_eq_true_eq,List.all_eq_true,List.mem_range]
  constructor
  · rintro ⟨h1,h2⟩
    have hat:∀k c,p[k]?=some c→coinOk c=true∧∀j b,k=j+1→p[j]?=some b→ordIn b.inn c.inn<0:=fun k c hc=>(coinAt_iff hc).1 (h1 k (List.getElem?_eq_some_iff.1 hc).1)
    refine ⟨fun c hc=>?_,?_,h2⟩
    · obtain ⟨k,hk⟩:=List.mem_iff_getElem?.1 hc
      exact (hat k c hk).1
    · have key : ∀ (k i : Nat) (a b : Coin), i < k → p[i]? = some a → p[k]? = some b → ordIn a.inn b.inn < 0 := fun k => by
        induction k with
        | zero=>intro i a b h;omega
        | succ k ih =>
          intro i a b h ha hb
          obtain ⟨m,hm⟩:∃m,p[k]?=some m:=⟨_,List.getElem?_eq_getElem (by have:=(List.getElem?_eq_some_iff.1 hb).1;omega)⟩
          have hlast:=(hat (k+1) b hb).2 k m rfl hm
          by_cases e:i=k
          · subst e;rw [ha] at hm;injection hm with hm;subst hm;exact hlast
          · exact zd1 (ih i a m (by omega) ha hm) hlast
      unfold Sorted
      rw [List.pairwise_iff_getElem]
      intro i j hi hj hij
      exact key j i _ _ hij (List.getElem?_eq_getElem hi) (List.getElem?_eq_getElem hj)
  · rintro ⟨h1,h2,h3⟩
    refine ⟨fun k hk=>?_,h3⟩
    refine (coinAt_iff (List.getElem?_eq_getElem hk)).2 ⟨h1 _ (List.getElem_mem hk),fun j b e hb=>?_⟩
    subst e
    have hj:=(List.getElem?_eq_some_iff.1 hb).1
    have:=List.pairwise_iff_getElem.1 h2 j (j+1) hj hk (by omega)
    rw [List.getElem?_eq_getElem hj] at hb
    injection hb with hb
    rw [←hb];exact this
theorem Sorted.apart {p:List Coin} (h:Sorted p):Apart p:=List.Pairwise.imp (fun h=>by omega) h
theorem apart_new {p:List Coin} {id:Ab.Id} {outs:List Out} {k:Nat} (h:Apart p) (hn:(p.any fun c=>decide (c.inn.tx=id))=false):Apart (p++newN id outs k):=by
  unfold Apart
  rw [List.pairwise_append]
  refine ⟨h,?_,fun a ha b hb e=>?_⟩
  · unfold newN
    rw [List.pairwise_map,List.pairwise_iff_getElem]
    intro i j hi hj hij e
    have:=zbW.1 e
    injection this with _ h2
    simp at h2
    omega
  · have:=zbW.1 e
    unfold newN at hb
    obtain ⟨x,_,rfl⟩:=List.mem_map.1 hb
    have h2:=List.any_eq_false.1 hn a ha
    rw [this] at h2
    simp at h2
set_option maxRecDepth 20000
theorem del_sorted {l:List Coin} (i:Nat) (h:Sorted l):Sorted (l.take i++l.drop (i+1)):=by
  rw [←List.eraseIdx_eq_take_drop_succ]
  exact List.Pairwise.sublist (List.eraseIdx_sublist _ _) h
def takeIns:List Coin→Int→List In→Option (List Coin×Int)
  | p,n,[]=>some (p,n)
  | p,n,x::l=>match p[placeOf p x]? with
    | none=>none
    | some c=>if ordIn c.inn x=0 then takeIns (p.take (placeOf p x)++p.drop (placeOf p x+1)) (IntKind.i64.wrap (n+c.out.v)) l else none
def spendOf (p:List Coin) (t:Tx):List Coin×Int×Int :=
  if ¬(mayCoins p=true∧mayTx t=true∧t.ins≠[]) then (p,0,1) else
  match takeIns p 0 t.ins with
  | none=>(p,0,8)
  | some (rest,n) =>
    if IntKind.i64.wrap (n-worthF (·.v) t.outs)<0 then (p,0,8)
    else if (madeOf rest t).2=0 then (if 48<(madeOf rest t).1.length then (p,0,11) else ((madeOf rest t).1,IntKind.i64.wrap (n-worthF (·.v) t.outs),0))
    else (p,0,(madeOf rest t).2)
theorem zda {p:List Coin} (h:mayCoins p=true):p.length≤48:=by
  unfold mayCoins at h
  simp only [Bool.and_eq_true,decide_eq_true_eq] at h
  exact h.2
theorem takeIns_step {p:List Coin} {n:Int} {ins:List In} {k:Nat} {x:In} {c:Coin} (hx:ins[k]?=some x) (hc:p[placeOf p x]?=some c) (h0:ordIn c.inn x=0):takeIns p n (ins.drop k)=takeIns (p.take (placeOf p x)++p.drop (placeOf p x+1)) (IntKind.i64.wrap (n+c.out.v)) (ins.drop (k+1)):=by
  obtain ⟨hk,rfl⟩:=List.getElem?_eq_some_iff.1 hx
  rw [List.drop_eq_getElem_cons hk]
  rw [takeIns.eq_2]
  simp only [hc,if_pos h0]
theorem takeIns_stop {p:List Coin} {n:Int} {ins:List In} {k:Nat} {x:In} (hx:ins[k]?=some x) (h:¬isThere p x=true):takeIns p n (ins.drop k)=none:=by
  obtain ⟨hk,rfl⟩:=List.getElem?_eq_some_iff.1 hx
  rw [List.drop_eq_getElem_cons hk]
  rw [takeIns.eq_2]
  unfold isThere foundAt at h
  split
  · rfl
  · rename_i c hc
    rw [hc] at h
    simp only [decide_eq_true_eq] at h
    rw [if_neg h]
theorem isThere_at {p:List Coin} {x:In} (h:isThere p x=true):∃c,p[placeOf p x]?=some c∧ordIn c.inn x=0:=by
  unfold isThere foundAt at h
  split at h
  · cases h
  · rename_i c hc
    exact ⟨c,hc,by simpa using h⟩
theorem spendFail (p:List Coin) (e:Int) (hp:p.length≤2000000000000):Tells P 280 [.val i64T e,.rptr (bsl coinT) p] (.tup3 (.fresh 228 coinT p) (.val i64T 0) (.val i64T e)):=by
 refine zc Tryz.func280 rfl rfl rfl (fun ext w hext=>?_)
 refine ze (d:=0) rfl zn (fun hin0=>?_)
 refine qao ?_;refine A0 aV ?_;refine qar ?_;refine A0 (zg rfl rfl ty_63) ?_;refine zaA (cloneCoin p (by constructor<;>omega)) rfl fn_174 ⟨(zd rfl),trivial⟩ rfl rfl rfl ?_;refine qaw ?_;refine A0 aO ?_;refine qbo ?_
 exact zdw rfl rfl (zf rfl rfl rfl) (zbJ rfl) (zbJ rfl)
theorem spend_ok (p:List Coin) (t:Tx) (hp:p.length≤2000000000000):Tells P 235 [.val (bsl coinT) p,.val txT t] (.tup3 (.fresh 228 coinT (spendOf p t).1) (.val i64T (spendOf p t).2.1) (.val i64T (spendOf p t).2.2)):=by
 refine zc Tryz.func235 rfl rfl rfl (fun ext w hext=>?_)
 refine ze (d:=0) rfl zk (fun hsl0=>?_)
 refine qa6 ?_;refine A0 aL ?_;refine A0 aV ?_;refine qar ?_;refine A0 (g_mkf (caps:=[_]) rfl rfl) ?_;refine A0 aC ?_;refine CNQQR ?_;refine A0 (oLs rfl rfl rfl ty_63) ?_;refine A0 (oCl (may_ok _) rfl fn_234 ⟨(zd rfl),trivial⟩) ?_;refine A0 oN ?_;refine qaw ?_;refine zL (d:=21) (p:=¬mayCoins p=true) rfl (by simp) (fun g21=>?_) (fun g21=>?_)
 ·
  refine qab ?_;refine qaM ?_;refine A2 ?_;refine qat ?_;refine Ct ?_;refine qbQ ?_;refine zee (As:=[_]) (Cs:=[_]) (spendFail p _ hp) rfl rfl fn_280 ⟨(zd rfl),trivial⟩ (by intro n hn;simp only [List.mem_cons,List.not_mem_nil,or_false] at hn;rcases hn with rfl<;>exact ⟨_,_,_,_,rfl⟩) ⟨(by exact za5 rfl),trivial⟩ zak zak rfl rfl rfl ?_;refine A0 (by first|exact zN rfl rfl|exact zM rfl rfl) ?_;refine A0 (by first|exact zQ rfl rfl|exact zP rfl rfl) ?_;refine qbt ?_
  have hS:spendOf p t=(p,0,1):=by unfold spendOf;rw [if_pos (fun h=>g21 h.1)]
  exact zdw rfl rfl (zf rfl rfl (by rw [hS])) (za rfl (by rw [hS])) (za rfl (by rw [hS]))
 ·
  refine A1 (oLs rfl rfl rfl zc7) ?_;refine A1 (oCl (mayTx_ok _) rfl fn_236 ⟨(zd rfl),trivial⟩) ?_;refine A1 oN ?_;refine qae ?_;refine zL (d:=26) (p:=¬mayTx t=true) rfl (by simp) (fun g26=>?_) (fun g26=>?_)
  ·
   refine qab ?_;refine A2 ?_;refine qat ?_;refine Ct ?_;refine qbQ ?_;refine zee (As:=[_]) (Cs:=[_]) (spendFail p _ hp) rfl rfl fn_280 ⟨(zd rfl),trivial⟩ (by intro n hn;simp only [List.mem_cons,List.not_mem_nil,or_false] at hn;rcases hn with rfl<;>exact ⟨_,_,_,_,rfl⟩) ⟨(by exact za5 rfl),trivial⟩ zak zak rfl rfl rfl ?_;refine A0 (by first|exact zN rfl rfl|exact zM rfl rfl) ?_;refine A0 (by first|exact zQ rfl rfl|exact zP rfl rfl) ?_;refine qbt ?_
   have hS:spendOf p t=(p,0,1):=by unfold spendOf;rw [if_pos (fun h=>g26 h.2.1)]
   exact zdw rfl rfl (zf rfl rfl (by rw [hS])) (za rfl (by rw [hS])) (za rfl (by rw [hS]))
  ·
   refine A1 (oFp zbv) ?_;refine A1 (oLb zc4 zdZ) ?_;refine A1 (zR rfl rfl zeu) ?_;refine A1 zbf ?_;refine A0 oK ?_;refine Sp (d:=31) (p:=t.ins.length=0) (fun g31=>?_) (fun g31=>?_)
   ·
    refine CN ?_;refine Ct ?_;refine qbQ ?_;refine zee (As:=[_]) (Cs:=[_]) (spendFail p _ hp) rfl rfl fn_280 ⟨(zd rfl),trivial⟩ (by intro n hn;simp only [List.mem_cons,List.not_mem_nil,or_false] at hn;rcases hn with rfl<;>exact ⟨_,_,_,_,rfl⟩) ⟨(by exact za5 rfl),trivial⟩ zak zak rfl rfl rfl ?_;refine A0 (by first|exact zN rfl rfl|exact zM rfl rfl) ?_;refine A0 (by first|exact zQ rfl rfl|exact zP rfl rfl) ?_;refine qbt ?_
    have hS:spendOf p t=(p,0,1):=by unfold spendOf;rw [if_pos (fun h=>h.2.2 (List.length_eq_zero_iff.1 g31))]
    exact zdw rfl rfl (zf rfl rfl (by rw [hS])) (za rfl (by rw [hS])) (za rfl (by rw [hS]))
   ·
    have hmp:=Classical.not_not.1 g21
    have hmt:=Classical.not_not.1 g26
    have hpl:=zda hmp
    have hne:t.ins≠[]:=fun e=>g31 (by rw [e];rfl)
    refine CN ?_;refine Cg ?_;refine CSQR ?_;refine A0 (oLs rfl rfl rfl ty_63) ?_;refine zaA (cloneCoin p (by constructor<;>omega)) rfl fn_174 ⟨(zd rfl),trivial⟩ rfl rfl rfl ?_;refine A0 aO ?_;refine CNQR ?_;refine A0 aV ?_;refine CNQQR ?_;refine qaU ?_;refine qa8 ?_
    refine Lp (ι:=Nat×List Coin×Int) 3 (fun (i:Nat×List Coin×Int)=>match i with|(k,rest,n)=>((((((((Fr.none).set 2 (.ptr 0 0)).set 3 (.ptr 1 0)).set 7 (.clo 280 [0])).set 8 (.own 2)).set 9 (.val i64T n)).set 40 (.val (sl inT) t.ins)).set 41 (.val i64T (t.ins.length:Int))).set 42 (.val i64T (k:Int))) (fun (i:Nat×List Coin×Int)=>match i with|(k,rest,n)=>(((Hp.none).set 0 (.box 63 (bsl coinT) p)).set 1 (.box 133 txT t)).set 2 (.row 228 coinT rest)) (fun (i:Nat×List Coin×Int)=>match i with|(k,rest,n)=>k≤t.ins.length∧Sorted rest∧rest.length≤48∧takeIns p 0 t.ins=takeIns rest n (t.ins.drop k)) (fun (i:Nat×List Coin×Int)=>match i with|(k,rest,n)=>t.ins.length-k) ((0,p,0)) (⟨Nat.zero_le _,(zaC.1 hmp).2.1,hpl,rfl⟩) ?_
    intro ⟨k,rest,n⟩ hinv
    dsimp only at hinv
    refine ze (d:=40) rfl zk (fun hsi=>?_)
    refine qaj ?_;refine Cf (p:=k<t.ins.length) (fun ht43=>?_) (fun ht43=>?_)
    ·
     obtain ⟨x,hx⟩:∃x,t.ins[k]?=some x:=⟨_,List.getElem?_eq_getElem ht43⟩
     refine CSQBQR ?_;refine qb9 ?_;refine zh rfl rfl rfl rfl rfl (Lens.self _) zbD rfl ?_;refine CNQR ?_;refine A0 mO ?_;refine A0 (oLs rfl rfl rfl zbD) ?_;refine A0 (oCl (place_ok rest x (by omega)) rfl fn_281 ⟨(zG rfl rfl),(zd rfl),trivial⟩) ?_;refine A0 mX ?_;refine A0 (by first|exact zN rfl rfl|exact zM rfl rfl) ?_;refine A0 (by first|exact zQ rfl rfl|exact zP rfl rfl) ?_;refine A0 aV ?_;refine qai ?_;refine qaN ?_;refine zr (p:=¬isThere rest x=true) rfl (by simp) (fun ht53=>?_) (fun ht53=>?_)
     ·
      refine qbQ ?_;refine zee (As:=[_]) (Cs:=[_]) (spendFail p _ hp) rfl rfl fn_280 ⟨(zd rfl),trivial⟩ (by intro n hn;simp only [List.mem_cons,List.not_mem_nil,or_false] at hn;rcases hn with rfl<;>exact ⟨_,_,_,_,rfl⟩) ⟨(by exact za5 rfl),trivial⟩ zak zak rfl rfl rfl ?_;refine A0 (by first|exact zN rfl rfl|exact zM rfl rfl) ?_;refine A0 (by first|exact zQ rfl rfl|exact zP rfl rfl) ?_;refine qbt ?_
      have hS:spendOf p t=(p,0,8):=by unfold spendOf;rw [if_neg (Classical.not_not.2 ⟨hmp,hmt,hne⟩)];rw [hinv.2.2.2,takeIns_stop hx ht53]
      exact zdw rfl rfl (zf rfl rfl (by rw [hS])) (za rfl (by rw [hS])) (za rfl (by rw [hS]))
     ·
      obtain ⟨c,hc,h0⟩:=isThere_at (Classical.not_not.1 ht53)
      have hlt:placeOf rest x<rest.length:=(List.getElem?_eq_some_iff.1 hc).1
      refine qbF ?_;refine A0 mO ?_;refine qaw ?_;refine A0 (zde (i:=placeOf rest x) rfl rfl rfl rfl (by first|omega|rfl) sl_63 (by first|assumption|omega|(simp;omega))) ?_;refine A0 (g_fa_e rfl rfl fd_228_1 rfl) ?_;refine A0 (g_fa_e rfl rfl zbX rfl) ?_;refine A0 (zbF rfl rfl rfl rfl (by assumption) (zdW.comp L_Out_v) ty_3) ?_;refine A0 zby ?_;refine qbG ?_;refine A0 mO ?_;refine qak ?_;refine A0 zby ?_
      refine aw_callc (delete_ok rest (placeOf rest x) hlt) rfl fn_282 rfl trivial ⟨(by first|exact zaN rfl|exact zaM rfl|exact zat rfl|exact zaQ rfl|exact zaO rfl|exact zaP rfl|exact zaL rfl rfl (by decide)),(by first|exact zaN rfl|exact zaM rfl|exact zat rfl|exact zaQ rfl|exact zaO rfl|exact zaP rfl|exact zaL rfl rfl (by decide)),(by first|exact zaN rfl|exact zaM rfl|exact zat rfl|exact zaQ rfl|exact zaO rfl|exact zaP rfl|exact zaL rfl rfl (by decide)),trivial⟩ rfl rfl rfl ?_;refine A0 aO ?_
      refine qaW ?_;refine zaG 4 2 5 rfl rfl rfl rfl rfl rfl ?_
      exact Nx ((k+1,rest.take (placeOf rest x)++rest.drop (placeOf rest x+1),IntKind.i64.wrap (n+c.out.v))) (⟨by omega,del_sorted _ hinv.2.1,by simp;omega,hinv.2.2.2.trans (takeIns_step hx hc h0)⟩) (by show _<t.ins.length-k;simp only [];omega)
    ·
     obtain rfl:k=t.ins.length:=(by omega)
     have htk:takeIns p 0 t.ins=some (rest,n):=by rw [hinv.2.2.2,List.drop_of_length_le (Nat.le_refl _)];rfl
     refine CE ?_;refine qa1 ?_;refine qbH ?_;refine A0 (oCl (outs_ok _) rfl fn_238 ⟨(zd rfl),trivial⟩) ?_;refine A0 zaT ?_;refine qai ?_;refine qaG ?_;refine Cf (p:=IntKind.i64.wrap (n-worthF (·.v) t.outs)<0) (fun ht78=>?_) (fun ht78=>?_)
     ·
      refine qbQ ?_;refine zee (As:=[_]) (Cs:=[_]) (spendFail p _ hp) rfl rfl fn_280 ⟨(zd rfl),trivial⟩ (by intro n hn;simp only [List.mem_cons,List.not_mem_nil,or_false] at hn;rcases hn with rfl<;>exact ⟨_,_,_,_,rfl⟩) ⟨(by exact za5 rfl),trivial⟩ zak zak rfl rfl rfl ?_;refine A0 (by first|exact zN rfl rfl|exact zM rfl rfl) ?_;refine A0 (by first|exact zQ rfl rfl|exact zP rfl rfl) ?_;refine qbt ?_
      have hS:spendOf p t=(p,0,8):=by unfold spendOf;rw [if_neg (Classical.not_not.2 ⟨hmp,hmt,hne⟩)];rw [htk];exact if_pos ht78
      exact zdw rfl rfl (zf rfl rfl (by rw [hS])) (za rfl (by rw [hS])) (za rfl (by rw [hS]))
     ·
      refine CSQR ?_;refine A0 mO ?_;refine qbH ?_;refine aw_callc2 (made_ok rest t (by omega) (zdQ hmt).2.2 (apart_new (Sorted.apart hinv.2.1))) rfl fn_237 rfl trivial zak ⟨(by first|exact zaN rfl|exact zaM rfl|exact zat rfl|exact zaQ rfl|exact zaO rfl|exact zaP rfl|exact zaL rfl rfl (by decide)),(by first|exact zaN rfl|exact zaM rfl|exact zat rfl|exact zaQ rfl|exact zaO rfl|exact zaP rfl|exact zaL rfl rfl (by decide)),trivial⟩ rfl rfl rfl ?_
      refine A0 (by first|exact zdd (.inl rfl) rfl|exact zdc (.inl rfl) rfl) ?_;refine A0 (by first|exact zN rfl rfl|exact zM rfl rfl) ?_;refine A0 (by first|exact zQ rfl rfl|exact zP rfl rfl) ?_;refine A0 aO ?_;refine A0 aX ?_;refine CNQQR ?_;refine A0 mX ?_;refine A0 zbf ?_;refine qaw ?_;refine Sp (d:=92) (p:=(madeOf rest t).2=0) (fun g92=>?_) (fun g92=>?_)
      ·
       refine A1 mO ?_;refine A1 (zan rfl rfl rfl isl_63) ?_;refine A1 zaI ?_;refine A0 oK ?_;refine Sp (d:=96) (p:=48<(madeOf rest t).1.length) (fun g96=>?_) (fun g96=>?_)
       ·
        refine CN ?_;refine Ct ?_;refine CR ?_;refine qai ?_;refine qaS ?_;refine Ct ?_;refine qbQ ?_;refine qaw ?_;refine zee (As:=[_]) (Cs:=[_]) (spendFail p _ hp) rfl rfl fn_280 ⟨(zd rfl),trivial⟩ (by intro n hn;simp only [List.mem_cons,List.not_mem_nil,or_false] at hn;rcases hn with rfl<;>exact ⟨_,_,_,_,rfl⟩) ⟨(by exact za5 rfl),trivial⟩ zak zak rfl rfl rfl ?_;refine A0 (by first|exact zN rfl rfl|exact zM rfl rfl) ?_;refine A0 (by first|exact zQ rfl rfl|exact zP rfl rfl) ?_;refine qbt ?_
        have hS:spendOf p t=(p,0,11):=by unfold spendOf;rw [if_neg (Classical.not_not.2 ⟨hmp,hmt,hne⟩)];rw [htk];simp only [if_neg ht78,if_pos g92,if_pos g96]
        exact zdw rfl rfl (zf rfl rfl (by rw [hS])) (za rfl (by rw [hS])) (za rfl (by rw [hS]))
       ·
        refine CN ?_;refine Cg ?_;refine CSQQR ?_;refine A0 mX ?_;refine qaS ?_;refine zdx rfl (by simp [IntL.toI,g92]) ?_;refine CSQR ?_;refine A0 mO ?_;refine qaw ?_;refine A0 aO ?_;refine qbo ?_
        have hS:spendOf p t=((madeOf rest t).1,IntKind.i64.wrap (n-worthF (·.v) t.outs),0):=by unfold spendOf;rw [if_neg (Classical.not_not.2 ⟨hmp,hmt,hne⟩)];rw [htk];simp only [if_neg ht78,if_pos g92,if_neg g96]
        exact zdw rfl rfl (zf rfl rfl (by rw [hS])) (za rfl (by rw [hS])) (za rfl (by rw [hS]))
      ·
       refine qab ?_;refine qat ?_;refine Cg ?_;refine CSQQR ?_;refine A0 mX ?_;refine qaS ?_;refine aw_if_t rfl (by simp [IntL.toI,g92]) ?_;refine qbQ ?_;refine A0 mX ?_;refine zee (As:=[_]) (Cs:=[_]) (spendFail p _ hp) rfl rfl fn_280 ⟨(by first|exact zB rfl|exact zZ rfl|exact zG rfl rfl|exact zX rfl|exact zx rfl|exact zag rfl rfl|exact zY rfl),trivial⟩ (by intro n hn;simp only [List.mem_cons,List.not_mem_nil,or_false] at hn;rcases hn with rfl<;>exact ⟨_,_,_,_,rfl⟩) ⟨(by exact za5 rfl),trivial⟩ zak zak rfl rfl rfl ?_
       refine A0 (by first|exact zN rfl rfl|exact zM rfl rfl) ?_;refine A0 (by first|exact zQ rfl rfl|exact zP rfl rfl) ?_;refine qbt ?_
       have hS:spendOf p t=(p,0,(madeOf rest t).2):=by unfold spendOf;rw [if_neg (Classical.not_not.2 ⟨hmp,hmt,hne⟩)];rw [htk];simp only [if_neg ht78,if_neg g92]
       exact zdw rfl rfl (zf rfl rfl (by rw [hS])) (za rfl (by rw [hS])) (za rfl (by rw [hS]))
set_option maxRecDepth 20000
theorem leC_trans (a b c:Coin) (h:decide (ordIn a.inn b.inn≤0)=true) (k:decide (ordIn b.inn c.inn≤0)=true):decide (ordIn a.inn c.inn≤0)=true:=by
  simp only [decide_eq_true_eq] at *
  by_cases h0:ordIn a.inn b.inn=0
  · rw [zbW.1 h0];exact k
  · by_cases k0:ordIn b.inn c.inn=0
    · rw [←zbW.1 k0];exact h
    · have:=zd1 (a:=a.inn) (b:=b.inn) (c:=c.inn) (by omega) (by omega)
      omega
theorem leC_total (a b:Coin):(decide (ordIn a.inn b.inn≤0)||decide (ordIn b.inn a.inn≤0))=true:=by
  have:=zb8 a.inn b.inn
  simp only [Bool.or_eq_true,decide_eq_true_eq]
  omega
theorem sortC_perm (l:List Coin):(sortC l).Perm l:=List.mergeSort_perm l _
theorem sortC_sorted {l:List Coin} (h:Apart l):Sorted (sortC l):=by
  have h1:(sortC l).Pairwise fun a b=>decide (ordIn a.inn b.inn≤0)=true:=List.pairwise_mergeSort leC_trans leC_total l
  have h2:Apart (sortC l):=((sortC_perm l).pairwise_iff (R:=fun a b:Coin=>ordIn a.inn b.inn≠0) (fun {a b} h=>by have:=zb8 a.inn b.inn;omega)).2 h
  unfold Sorted Apart at *
  refine List.Pairwise.imp₂ (fun a b h1 h2=>?_) h1 h2
  have:=of_decide_eq_true h1
  omega
theorem txOuts_ok {t:Tx} (h:mayTx t=true):∀o∈t.outs,outOdd o=false:=fun o ho=>by
  unfold mayTx at h
  simp only [Bool.and_eq_true,Bool.not_eq_true'] at h
  have:=List.any_eq_false.1 h.2.2.2.2 o ho
  simpa using this
theorem newN_ok {t:Tx} {id:Ab.Id} {k:Nat} (h:mayTx t=true):∀c∈newN id t.outs k,coinOk c=true:=fun c hc=>by
  unfold newN at hc
  obtain ⟨⟨o,i⟩,hx,rfl⟩:=List.mem_map.1 hc
  have hi:=List.mk_mem_zipIdx_iff_getElem?.1 hx
  have hlt:=(List.getElem?_eq_some_iff.1 hi).1
  have ho:o∈t.outs:=List.mem_of_mem_take (List.mem_of_getElem? hi)
  have h1:=txOuts_ok h o ho
  have h3:=(zdQ h).2.2
  rw [List.length_take] at hlt
  unfold outOdd at h1
  have h1:=of_decide_eq_false h1
  unfold coinOk
  apply decide_eq_true
  simp only []
  omega
theorem madeOf_good {p:List Coin} {t:Tx} (hp:∀c∈p,coinOk c=true) (hs:Sorted p) (ht:mayTx t=true):(∀c∈(madeOf p t).1,coinOk c=true)∧Sorted (madeOf p t).1:=by
  unfold madeOf
  split
  · exact ⟨fun c hc=>absurd hc (List.not_mem_nil),List.Pairwise.nil⟩
  · rename_i h
    have h:(p.any fun c=>decide (c.inn.tx=idOf t))=false:=by simpa using h
    refine ⟨fun c hc=>?_,sortC_sorted (apart_new (Sorted.apart hs) h)⟩
    have:=(sortC_perm _).mem_iff.1 hc
    rcases List.mem_append.1 this with h|h
    · exact hp c h
    · exact newN_ok ht c h
theorem takeIns_good:∀{ins:List In} {p rest:List Coin} {n m:Int},takeIns p n ins=some (rest,m)→rest.Sublist p
  | [],p,rest,n,m,h=>by
    rw [takeIns.eq_1] at h
    injection h with h;injection h with h _;subst h;exact List.Sublist.refl _
  | x::ins,p,rest,n,m,h=>by
    rw [takeIns.eq_2] at h
    split at h
    · cases h
    · split at h
      · have:=takeIns_good h
        refine this.trans ?_
        rw [←List.eraseIdx_eq_take_drop_succ]
        exact List.eraseIdx_sublist _ _
      · cases h
theorem zeY {p:List Coin} {t:Tx} (h:mayCoins p=true):mayCoins (spendOf p t).1=true:=by
  obtain ⟨h1,h2,h3⟩:=zaC.1 h
  unfold spendOf
  split
  · exact h
  · rename_i hn
    have hn:=Classical.not_not.1 hn
    split
    · exact h
    · rename_i rest n hrest
      have hsub:=takeIns_good hrest
      split
      · exact h
      · split
        · split
          · exact h
          · rename_i hl
            have hg:=madeOf_good (p:=rest) (fun c hc=>h1 c (hsub.subset hc)) (h2.sublist hsub) hn.2.1
            exact zaC.2 ⟨hg.1,hg.2,Nat.le_of_not_lt hl⟩
        · exact h
set_option maxRecDepth 20000
def runTxs:List Coin→Int→List Tx→Sum Int (List Coin×Int)
  | out,room,[]=>.inr (out,room)
  | out,room,t::l=>if (spendOf out t).2.2=0 then runTxs (spendOf out t).1 (IntKind.i64.wrap (room+(spendOf out t).2.1)) l else .inl (spendOf out t).2.2
def isFirst (l:List Tx):Bool:=match l with | []=>false|t::_=>decide (t.ins.length=0)
theorem isFirst_at {l:List Tx} {t:Tx} (h:l[0]?=some t):isFirst l=decide (t.ins.length=0):=by
  cases l with
  | nil=>simp at h
  | cons a m=>simp at h;subst h;rfl
theorem isFirst_nil {l:List Tx} (h:¬0<l.length):isFirst l=false:=by
  cases l with
  | nil=>rfl
  | cons a m=>simp at h
def remTxs (l:List Tx) (k:Nat):List Tx:=if isFirst l=true∧k=0 then l.drop 1 else l.drop k
def applyOf (p:List Coin) (l:List Tx):List Coin×Int :=
  if ¬mayCoins p=true then (p,1) else if 4<l.length then (p,3) else
  match runTxs p 50 (remTxs l 0) with
  | .inl e=>(p,e)
  | .inr (out,room)=>match (if isFirst l=true then l[0]? else none) with
    | none=>(out,0)
    | some t=>if ¬mayTx t=true then (p,1) else if ¬(madeOf out t).2=0 then (p,(madeOf out t).2) else if room<worthF (·.v) t.outs then (p,8) else if 48<(madeOf out t).1.length then (p,11) else ((madeOf out t).1,0)
theorem runTxs_step {out:List Coin} {room:Int} {l:List Tx} {k:Nat} {t:Tx} (hk:¬(isFirst l=true∧k=0)) (hx:l[k]?=some t) (h:(spendOf out t).2.2=0):runTxs out room (remTxs l k)=runTxs (spendOf out t).1 (IntKind.i64.wrap (room+(spendOf out t).2.1)) (remTxs l (k+1)):=by
  obtain ⟨hlt,rfl⟩:=List.getElem?_eq_some_iff.1 hx
  unfold remTxs
  rw [if_neg hk,if_neg (by omega),List.drop_eq_getElem_cons hlt,runTxs.eq_2,if_pos h]
theorem runTxs_stop {out:List Coin} {room:Int} {l:List Tx} {k:Nat} {t:Tx} (hk:¬(isFirst l=true∧k=0)) (hx:l[k]?=some t) (h:¬(spendOf out t).2.2=0):runTxs out room (remTxs l k) = .inl (spendOf out t).2.2:=by
  obtain ⟨hlt,rfl⟩:=List.getElem?_eq_some_iff.1 hx
  unfold remTxs
  rw [if_neg hk,List.drop_eq_getElem_cons hlt,runTxs.eq_2,if_neg h]
theorem remTxs_first {l:List Tx} (h:isFirst l=true):remTxs l 0=remTxs l 1:=by
  unfold remTxs
  rw [if_pos ⟨h,rfl⟩,if_neg (by omega)]
theorem remTxs_end {l:List Tx} (k:Nat) (h:l.length≤k):remTxs l k=[]:=by
  unfold remTxs
  split
  · exact List.drop_of_length_le (by omega)
  · exact List.drop_of_length_le h
theorem applyFail (p:List Coin) (e:Int) (hp:p.length≤2000000000000):Tells P 233 [.val i64T e,.rptr (bsl coinT) p] (.tup2 (.fresh 228 coinT p) (.val i64T e)):=by
 refine zc Tryz.func233 rfl rfl rfl (fun ext w hext=>?_)
 refine ze (d:=0) rfl zn (fun hin0=>?_)
 refine qao ?_;refine qar ?_;refine A0 (zg rfl rfl ty_63) ?_;refine zaA (cloneCoin p (by constructor<;>omega)) rfl fn_174 ⟨(zd rfl),trivial⟩ rfl rfl rfl ?_;refine qaw ?_;refine qbP ?_
 exact zT rfl rfl (zf rfl rfl rfl) (zbJ rfl)
theorem apply_ok (p:List Coin) (l:List Tx) (hp:p.length≤2000000000000):Tells P 173 [.val (bsl coinT) p,.val (bsl txT) l] (.tup2 (.fresh 228 coinT (applyOf p l).1) (.val i64T (applyOf p l).2)):=by
 refine zc Tryz.func173 rfl rfl rfl (fun ext w hext=>?_)
 refine ze (d:=0) rfl zk (fun hsl0=>?_)
 refine ze (d:=1) rfl zk (fun hsl1=>?_)
 refine qaf ?_;refine A0 aL ?_;refine qar ?_;refine A0 (g_mkf (caps:=[_]) rfl rfl) ?_;refine A0 aC ?_;refine CNQ ?_;refine CB ?_;refine CQR ?_;refine A0 (oLs rfl rfl rfl ty_63) ?_;refine A0 (oCl (may_ok _) rfl fn_234 ⟨(zd rfl),trivial⟩) ?_;refine A0 oN ?_;refine qac ?_;refine zr (p:=¬mayCoins p=true) rfl (by simp) (fun ht17=>?_) (fun ht17=>?_)
 ·
  refine qbQ ?_;refine zdn (As:=[_]) (Cs:=[_]) (applyFail p _ hp) rfl rfl fn_233 ⟨(zd rfl),trivial⟩ (by intro n hn;simp only [List.mem_cons,List.not_mem_nil,or_false] at hn;rcases hn with rfl<;>exact ⟨_,_,_,_,rfl⟩) ⟨(by exact za5 rfl),trivial⟩ zak rfl rfl rfl ?_;refine A0 (by first|exact zN rfl rfl|exact zM rfl rfl) ?_;refine A0 (by first|exact zQ rfl rfl|exact zP rfl rfl) ?_;refine A0 aO ?_;refine qaK ?_
  have hS:applyOf p l=(p,1):=by unfold applyOf;rw [if_pos ht17]
  exact zT rfl rfl (zf rfl rfl (by rw [hS])) (za rfl (by rw [hS]))
 ·
  have hmp:=Classical.not_not.1 ht17
  have hpl:=zda hmp
  refine qa1 ?_;refine qbS ?_;refine A0 zaI ?_;refine qac ?_;refine Cf (p:=4<l.length) (fun ht25=>?_) (fun ht25=>?_)
  ·
   refine qbQ ?_;refine zdn (As:=[_]) (Cs:=[_]) (applyFail p _ hp) rfl rfl fn_233 ⟨(zd rfl),trivial⟩ (by intro n hn;simp only [List.mem_cons,List.not_mem_nil,or_false] at hn;rcases hn with rfl<;>exact ⟨_,_,_,_,rfl⟩) ⟨(by exact za5 rfl),trivial⟩ zak rfl rfl rfl ?_;refine A0 (by first|exact zN rfl rfl|exact zM rfl rfl) ?_;refine A0 (by first|exact zQ rfl rfl|exact zP rfl rfl) ?_;refine A0 aO ?_;refine qaK ?_
   have hS:applyOf p l=(p,3):=by unfold applyOf;rw [if_neg (Classical.not_not.2 hmp),if_pos ht25]
   exact zT rfl rfl (zf rfl rfl (by rw [hS])) (za rfl (by rw [hS]))
  ·
   refine CS ?_;refine CI ?_;refine CQR ?_;refine A0 (oLs rfl rfl rfl ty_63) ?_;refine zaA (cloneCoin p (by constructor<;>omega)) rfl fn_174 ⟨(zd rfl),trivial⟩ rfl rfl rfl ?_;refine A0 aO ?_;refine qad ?_;refine qbS ?_;refine A0 zaI ?_;refine qaw ?_;refine Sp (d:=38) (p:=0<l.length) (fun g38=>?_) (fun g38=>?_)
   ·
    obtain ⟨t0,ht0⟩:∃t0,l[0]?=some t0:=⟨_,List.getElem?_eq_getElem g38⟩
    refine A1 mV ?_;refine A1 (zu (i:=0) rfl rfl rfl (by omega) sl_56 (by assumption)) ?_;refine A1 (oFr zbv zc4) ?_;refine A1 (zg rfl rfl zdZ) ?_;refine A1 (by first|exact zR rfl rfl zeu|exact zan rfl rfl rfl zeu|exact zaz rfl rfl zeu) ?_;refine A1 zbf ?_;refine A0 oK ?_;refine zi (d:=45) (y:=isFirst l) rfl (by first|(rw [isFirst_at ht0,decide_eq_decide];simp only [IntL.toI,id_eq];omega)|exact (isFirst_nil g38).symm) ?_;refine qai ?_;refine qbS ?_;refine qa8 ?_
    refine Lp (ι:=Nat×List Coin×Int) 2 (fun (i:Nat×List Coin×Int)=>match i with|(k,out,room)=>(((((((((Fr.none).set 1 (.val (bsl txT) l)).set 2 (.ptr 0 0)).set 6 (.clo 233 [0])).set 7 (.own 1)).set 8 (.val i64T room)).set 9 (.val boolT (isFirst l))).set 46 (.val (bsl txT) l)).set 47 (.val i64T (l.length:Int))).set 48 (.val i64T (k:Int))) (fun (i:Nat×List Coin×Int)=>match i with|(k,out,room)=>((Hp.none).set 0 (.box 63 (bsl coinT) p)).set 1 (.row 228 coinT out)) (fun (i:Nat×List Coin×Int)=>match i with|(k,out,room)=>k≤l.length∧mayCoins out=true∧runTxs p 50 (remTxs l 0)=runTxs out room (remTxs l k)) (fun (i:Nat×List Coin×Int)=>match i with|(k,out,room)=>l.length-k) ((0,p,50)) (⟨Nat.zero_le _,hmp,rfl⟩) ?_
    intro ⟨k,out,room⟩ hinv
    dsimp only at hinv
    have hol:=zda hinv.2.1
    refine qaj ?_;refine Cf (p:=k<l.length) (fun ht49=>?_) (fun ht49=>?_)
    ·
     obtain ⟨t,hx⟩:∃t,l[k]?=some t:=⟨_,List.getElem?_eq_getElem ht49⟩
     refine qaP ?_;refine qaQ ?_;refine A0 aV ?_;refine qbz ?_;refine qaT ?_;refine A0 zbf ?_;refine qaw ?_;refine Sp (d:=55) (p:=k=0) (fun g55=>?_) (fun g55=>?_)
     ·
      refine A1 mV ?_;refine A0 oK ?_;refine zL (d:=57) (p:=isFirst l=true) rfl (by simp) (fun g57=>?_) (fun g57=>?_)
      ·
       refine CN ?_;refine Ct ?_;refine CE ?_;refine CR ?_;refine qag ?_
       exact Nx ((k+1,out,room)) (by first|exact ⟨by omega,hinv.2.1,by rw [hinv.2.2,g55,remTxs_first g57]⟩|exact ⟨by omega,zeY hinv.2.1,hinv.2.2.trans (runTxs_step (fun h=>by first|exact g57 h.1|exact g55 h.2) hx (Classical.not_not.1 ht66))⟩) (by show _<l.length-k;simp only [];omega)
      ·
       refine CN ?_;refine Cg ?_;refine CSQR ?_;refine A0 mO ?_;refine qbH ?_;refine aw_callf3 (spend_ok out t (by omega)) rfl fn_235 ⟨(zG rfl rfl),(zd rfl),trivial⟩ zak zak rfl rfl rfl ?_;refine A0 (by first|exact zdd (.inl rfl) rfl|exact zdc (.inl rfl) rfl) ?_;refine A0 (by first|exact zN rfl rfl|exact zM rfl rfl) ?_;refine A0 (by first|exact zQ rfl rfl|exact zP rfl rfl) ?_;refine A0 e32 ?_;refine A0 aO ?_;refine qav ?_;refine zr (p:=¬(spendOf out t).2.2=0) rfl (by simp [IntL.toI]) (fun ht66=>?_) (fun ht66=>?_)
       ·
        refine qbQ ?_;refine A0 mX ?_;refine zdn (As:=[_]) (Cs:=[_]) (applyFail p _ hp) rfl rfl fn_233 ⟨(by first|exact zB rfl|exact zZ rfl|exact zG rfl rfl|exact zX rfl|exact zx rfl|exact zag rfl rfl|exact zY rfl),trivial⟩ (by intro n hn;simp only [List.mem_cons,List.not_mem_nil,or_false] at hn;rcases hn with rfl<;>exact ⟨_,_,_,_,rfl⟩) ⟨(by exact za5 rfl),trivial⟩ zak rfl rfl rfl ?_;refine A0 (by first|exact zN rfl rfl|exact zM rfl rfl) ?_;refine A0 (by first|exact zQ rfl rfl|exact zP rfl rfl) ?_;refine A0 aO ?_;refine qaK ?_
        have hS:applyOf p l=(p,(spendOf out t).2.2):=by unfold applyOf;rw [if_neg (Classical.not_not.2 hmp),if_neg (show ¬4<l.length by omega)];rw [hinv.2.2,runTxs_stop (fun h=>by first|exact g57 h.1|exact g55 h.2) hx ht66]
        exact zT rfl rfl (zf rfl rfl (by rw [hS])) (za rfl (by rw [hS]))
       ·
        refine CSQR ?_;refine A0 mO ?_;refine A0 aO ?_;refine CNR ?_;refine qaw ?_;refine A0 mX ?_;refine A0 zby ?_;refine A0 aV ?_;refine qaW ?_;refine aw_drop 1 ?_;refine zaG 3 1 4 rfl rfl rfl rfl rfl rfl ?_
        exact Nx ((k+1,(spendOf out t).1,IntKind.i64.wrap (room+(spendOf out t).2.1))) (by first|exact ⟨by omega,hinv.2.1,by rw [hinv.2.2,g55,remTxs_first g57]⟩|exact ⟨by omega,zeY hinv.2.1,hinv.2.2.trans (runTxs_step (fun h=>by first|exact g57 h.1|exact g55 h.2) hx (Classical.not_not.1 ht66))⟩) (by show _<l.length-k;simp only [];omega)
     ·
      refine A2 ?_;refine qat ?_;refine Cg ?_;refine CSQR ?_;refine A0 mO ?_;refine qbH ?_;refine aw_callf3 (spend_ok out t (by omega)) rfl fn_235 ⟨(zG rfl rfl),(zd rfl),trivial⟩ zak zak rfl rfl rfl ?_;refine A0 (by first|exact zdd (.inl rfl) rfl|exact zdc (.inl rfl) rfl) ?_;refine A0 (by first|exact zN rfl rfl|exact zM rfl rfl) ?_;refine A0 (by first|exact zQ rfl rfl|exact zP rfl rfl) ?_;refine A0 e32 ?_;refine A0 aO ?_;refine qav ?_;refine zr (p:=¬(spendOf out t).2.2=0) rfl (by simp [IntL.toI]) (fun ht66=>?_) (fun ht66=>?_)
      ·
       refine qbQ ?_;refine A0 mX ?_;refine zdn (As:=[_]) (Cs:=[_]) (applyFail p _ hp) rfl rfl fn_233 ⟨(by first|exact zB rfl|exact zZ rfl|exact zG rfl rfl|exact zX rfl|exact zx rfl|exact zag rfl rfl|exact zY rfl),trivial⟩ (by intro n hn;simp only [List.mem_cons,List.not_mem_nil,or_false] at hn;rcases hn with rfl<;>exact ⟨_,_,_,_,rfl⟩) ⟨(by exact za5 rfl),trivial⟩ zak rfl rfl rfl ?_;refine A0 (by first|exact zN rfl rfl|exact zM rfl rfl) ?_;refine A0 (by first|exact zQ rfl rfl|exact zP rfl rfl) ?_;refine A0 aO ?_;refine qaK ?_
       have hS:applyOf p l=(p,(spendOf out t).2.2):=by unfold applyOf;rw [if_neg (Classical.not_not.2 hmp),if_neg (show ¬4<l.length by omega)];rw [hinv.2.2,runTxs_stop (fun h=>by first|exact g57 h.1|exact g55 h.2) hx ht66]
       exact zT rfl rfl (zf rfl rfl (by rw [hS])) (za rfl (by rw [hS]))
      ·
       refine CSQR ?_;refine A0 mO ?_;refine A0 aO ?_;refine CNR ?_;refine qaw ?_;refine A0 mX ?_;refine A0 zby ?_;refine A0 aV ?_;refine qaW ?_;refine aw_drop 1 ?_;refine zaG 3 1 4 rfl rfl rfl rfl rfl rfl ?_
       exact Nx ((k+1,(spendOf out t).1,IntKind.i64.wrap (room+(spendOf out t).2.1))) (by first|exact ⟨by omega,hinv.2.1,by rw [hinv.2.2,g55,remTxs_first g57]⟩|exact ⟨by omega,zeY hinv.2.1,hinv.2.2.trans (runTxs_step (fun h=>by first|exact g57 h.1|exact g55 h.2) hx (Classical.not_not.1 ht66))⟩) (by show _<l.length-k;simp only [];omega)
    ·
     have hrun:runTxs p 50 (remTxs l 0) = .inr (out,room):=by rw [hinv.2.2,remTxs_end k (by omega)];rfl
     refine CE ?_;refine qbb ?_;refine qaN ?_;refine zr (p:=¬isFirst l=true) rfl (by simp) (fun ht78=>?_) (fun ht78=>?_)
     ·
      have hnf:=ht78
      refine qb1 ?_;refine qbP ?_
      have hS:applyOf p l=(out,0):=by unfold applyOf;rw [if_neg (Classical.not_not.2 hmp),if_neg (show ¬4<l.length by omega)];rw [hrun];simp only [if_neg ht78]
      exact zT rfl rfl (zf rfl rfl (by rw [hS])) (za rfl (by rw [hS]))
     ·
      have hf:=Classical.not_not.1 ht78
      refine qbv ?_;refine A0 (zu (i:=0) rfl rfl rfl (by omega) sl_56 (by assumption)) ?_;refine A0 (zg rfl rfl zc7) ?_;refine A0 (oCl (mayTx_ok _) rfl fn_236 ⟨(by first|exact zB rfl|exact zZ rfl|exact zG rfl rfl|exact zX rfl|exact zx rfl|exact zag rfl rfl|exact zY rfl),trivial⟩) ?_;refine qaN ?_;refine zr (p:=¬mayTx t0=true) rfl (by simp) (fun ht84=>?_) (fun ht84=>?_)
      ·
       refine qbQ ?_;refine zdn (As:=[_]) (Cs:=[_]) (applyFail p _ hp) rfl rfl fn_233 ⟨(zd rfl),trivial⟩ (by intro n hn;simp only [List.mem_cons,List.not_mem_nil,or_false] at hn;rcases hn with rfl<;>exact ⟨_,_,_,_,rfl⟩) ⟨(by exact za5 rfl),trivial⟩ zak rfl rfl rfl ?_;refine A0 (by first|exact zN rfl rfl|exact zM rfl rfl) ?_;refine A0 (by first|exact zQ rfl rfl|exact zP rfl rfl) ?_;refine A0 aO ?_;refine qaK ?_
       have hS:applyOf p l=(p,1):=by unfold applyOf;rw [if_neg (Classical.not_not.2 hmp),if_neg (show ¬4<l.length by omega)];rw [hrun];simp only [if_pos hf,ht0];rw [if_pos ht84]
       exact zT rfl rfl (zf rfl rfl (by rw [hS])) (za rfl (by rw [hS]))
      ·
       have hmt:=Classical.not_not.1 ht84
       refine CSQR ?_;refine A0 mO ?_;refine qaw ?_;refine A0 (zu (i:=0) rfl rfl rfl (by omega) sl_56 (by assumption)) ?_;refine A0 (zg rfl rfl zc7) ?_
       refine aw_callc2 (made_ok out t0 (by omega) (zdQ hmt).2.2 (apart_new (Sorted.apart (zaC.1 hinv.2.1).2.1))) rfl fn_237 rfl trivial zak ⟨(by first|exact zaN rfl|exact zaM rfl|exact zat rfl|exact zaQ rfl|exact zaO rfl|exact zaP rfl|exact zaL rfl rfl (by decide)),(by first|exact zaN rfl|exact zaM rfl|exact zat rfl|exact zaQ rfl|exact zaO rfl|exact zaP rfl|exact zaL rfl rfl (by decide)),trivial⟩ rfl rfl rfl ?_;refine A0 (by first|exact zdd (.inl rfl) rfl|exact zdc (.inl rfl) rfl) ?_
       refine A0 (by first|exact zN rfl rfl|exact zM rfl rfl) ?_;refine A0 (by first|exact zQ rfl rfl|exact zP rfl rfl) ?_;refine A0 aO ?_;refine A0 aX ?_;refine CNQ ?_;refine CB ?_;refine CQR ?_;refine A0 mX ?_;refine A0 zdr ?_;refine qac ?_;refine zr (p:=¬(madeOf out t0).2=0) rfl (by simp [IntL.toI]) (fun ht97=>?_) (fun ht97=>?_)
       ·
        refine qbQ ?_;refine A0 mX ?_;refine zdn (As:=[_]) (Cs:=[_]) (applyFail p _ hp) rfl rfl fn_233 ⟨(by first|exact zB rfl|exact zZ rfl|exact zG rfl rfl|exact zX rfl|exact zx rfl|exact zag rfl rfl|exact zY rfl),trivial⟩ (by intro n hn;simp only [List.mem_cons,List.not_mem_nil,or_false] at hn;rcases hn with rfl<;>exact ⟨_,_,_,_,rfl⟩) ⟨(by exact za5 rfl),trivial⟩ zak rfl rfl rfl ?_;refine A0 (by first|exact zN rfl rfl|exact zM rfl rfl) ?_;refine A0 (by first|exact zQ rfl rfl|exact zP rfl rfl) ?_;refine A0 aO ?_;refine qaK ?_
        have hS:applyOf p l=(p,(madeOf out t0).2):=by unfold applyOf;rw [if_neg (Classical.not_not.2 hmp),if_neg (show ¬4<l.length by omega)];rw [hrun];simp only [if_pos hf,ht0];rw [if_neg (Classical.not_not.2 hmt),if_pos ht97]
        exact zT rfl rfl (zf rfl rfl (by rw [hS])) (za rfl (by rw [hS]))
       ·
        refine qa1 ?_;refine A0 (zu (i:=0) rfl rfl rfl (by omega) sl_56 (by assumption)) ?_;refine A0 (zg rfl rfl zc7) ?_;refine A0 (oCl (outs_ok _) rfl fn_238 ⟨(by first|exact zB rfl|exact zZ rfl|exact zG rfl rfl|exact zX rfl|exact zx rfl|exact zag rfl rfl|exact zY rfl),trivial⟩) ?_;refine qaw ?_;refine A0 zaI ?_;refine qac ?_;refine Cf (p:=room<worthF (·.v) t0.outs) (fun ht105=>?_) (fun ht105=>?_)
        ·
         refine qbQ ?_;refine zdn (As:=[_]) (Cs:=[_]) (applyFail p _ hp) rfl rfl fn_233 ⟨(zd rfl),trivial⟩ (by intro n hn;simp only [List.mem_cons,List.not_mem_nil,or_false] at hn;rcases hn with rfl<;>exact ⟨_,_,_,_,rfl⟩) ⟨(by exact za5 rfl),trivial⟩ zak rfl rfl rfl ?_;refine A0 (by first|exact zN rfl rfl|exact zM rfl rfl) ?_;refine A0 (by first|exact zQ rfl rfl|exact zP rfl rfl) ?_;refine A0 aO ?_;refine qaK ?_
         have hS:applyOf p l=(p,8):=by unfold applyOf;rw [if_neg (Classical.not_not.2 hmp),if_neg (show ¬4<l.length by omega)];rw [hrun];simp only [if_pos hf,ht0];rw [if_neg (Classical.not_not.2 hmt),if_neg ht97,if_pos ht105]
         exact zT rfl rfl (zf rfl rfl (by rw [hS])) (za rfl (by rw [hS]))
        ·
         refine qb1 ?_;refine A0 (zan rfl rfl rfl isl_63) ?_;refine A0 zaI ?_;refine qac ?_;refine Cf (p:=48<(madeOf out t0).1.length) (fun ht116=>?_) (fun ht116=>?_)
         ·
          refine qbQ ?_;refine zdn (As:=[_]) (Cs:=[_]) (applyFail p _ hp) rfl rfl fn_233 ⟨(zd rfl),trivial⟩ (by intro n hn;simp only [List.mem_cons,List.not_mem_nil,or_false] at hn;rcases hn with rfl<;>exact ⟨_,_,_,_,rfl⟩) ⟨(by exact za5 rfl),trivial⟩ zak rfl rfl rfl ?_;refine A0 (by first|exact zN rfl rfl|exact zM rfl rfl) ?_;refine A0 (by first|exact zQ rfl rfl|exact zP rfl rfl) ?_;refine A0 aO ?_;refine qaK ?_
          have hS:applyOf p l=(p,11):=by unfold applyOf;rw [if_neg (Classical.not_not.2 hmp),if_neg (show ¬4<l.length by omega)];rw [hrun];simp only [if_pos hf,ht0];rw [if_neg (Classical.not_not.2 hmt),if_neg ht97,if_neg ht105,if_pos ht116]
          exact zT rfl rfl (zf rfl rfl (by rw [hS])) (za rfl (by rw [hS]))
         ·
          refine CS ?_;refine CI ?_;refine qb1 ?_;refine qbP ?_
          have hS:applyOf p l=((madeOf out t0).1,0):=by unfold applyOf;rw [if_neg (Classical.not_not.2 hmp),if_neg (show ¬4<l.length by omega)];rw [hrun];simp only [if_pos hf,ht0];rw [if_neg (Classical.not_not.2 hmt),if_neg ht97,if_neg ht105,if_neg ht116]
          exact zT rfl rfl (zf rfl rfl (by rw [hS])) (za rfl (by rw [hS]))
   ·
    refine qab ?_;refine qab ?_;refine A0 oK ?_;refine zi (d:=45) (y:=isFirst l) rfl (by first|(rw [isFirst_at ht0,decide_eq_decide];simp only [IntL.toI,id_eq];omega)|exact (isFirst_nil g38).symm) ?_;refine qai ?_;refine qbS ?_;refine qa8 ?_
    refine Lp (ι:=Nat×List Coin×Int) 2 (fun (i:Nat×List Coin×Int)=>match i with|(k,out,room)=>(((((((((Fr.none).set 1 (.val (bsl txT) l)).set 2 (.ptr 0 0)).set 6 (.clo 233 [0])).set 7 (.own 1)).set 8 (.val i64T room)).set 9 (.val boolT (isFirst l))).set 46 (.val (bsl txT) l)).set 47 (.val i64T (l.length:Int))).set 48 (.val i64T (k:Int))) (fun (i:Nat×List Coin×Int)=>match i with|(k,out,room)=>((Hp.none).set 0 (.box 63 (bsl coinT) p)).set 1 (.row 228 coinT out)) (fun (i:Nat×List Coin×Int)=>match i with|(k,out,room)=>k≤l.length∧mayCoins out=true∧runTxs p 50 (remTxs l 0)=runTxs out room (remTxs l k)) (fun (i:Nat×List Coin×Int)=>match i with|(k,out,room)=>l.length-k) ((0,p,50)) (⟨Nat.zero_le _,hmp,rfl⟩) ?_
    intro ⟨k,out,room⟩ hinv
    dsimp only at hinv
    have hol:=zda hinv.2.1
    refine qaj ?_;refine Cf (p:=k<l.length) (fun ht49=>?_) (fun ht49=>?_)
    ·
     exfalso
     omega
    ·
     have hrun:runTxs p 50 (remTxs l 0) = .inr (out,room):=by rw [hinv.2.2,remTxs_end k (by omega)];rfl
     refine CE ?_;refine qbb ?_;refine qaN ?_;refine zr (p:=¬isFirst l=true) rfl (by simp) (fun ht78=>?_) (fun ht78=>?_)
     ·
      have hnf:=ht78
      refine qb1 ?_;refine qbP ?_
      have hS:applyOf p l=(out,0):=by unfold applyOf;rw [if_neg (Classical.not_not.2 hmp),if_neg (show ¬4<l.length by omega)];rw [hrun];simp only [if_neg ht78]
      exact zT rfl rfl (zf rfl rfl (by rw [hS])) (za rfl (by rw [hS]))
     ·
      exact absurd (Classical.not_not.1 ht78) (by rw [isFirst_nil g38];simp)
set_option maxRecDepth 20000
def tot {α:Type} (f:α→Int):List α→Int
  | []=>0
  | x::l=>f x+tot f l
theorem tot_append {α:Type} {f:α→Int}:∀{l m:List α},tot f (l++m)=tot f l+tot f m
  | [],m=>by simp [tot]
  | x::l,m=>by rw [List.cons_append,tot,tot,tot_append];omega
theorem tot_perm {α:Type} {f:α→Int} {l m:List α} (h:l.Perm m):tot f l=tot f m:=by
  induction h with
  | nil=>rfl
  | cons x _ ih=>rw [tot,tot,ih]
  | swap x y l=>simp only [tot];omega
  | trans _ _ h1 h2=>exact h1.trans h2
theorem tot_del {α:Type} {f:α→Int} {x:α}:∀{l:List α} {i:Nat},l[i]?=some x→tot f (l.take i++l.drop (i+1))+f x=tot f l
  | [],i,h=>by simp at h
  | y::l,0,h=>by simp at h;subst h;simp [tot];omega
  | y::l,i+1,h=>by
    have:=tot_del (f:=f) (l:=l) (i:=i) (by simpa using h)
    simp only [List.take_succ_cons,List.drop_succ_cons,List.cons_append,tot]
    omega
theorem tot_pos {α:Type} {f:α→Int}:∀{l:List α},(∀x∈l,0≤f x)→0≤tot f l
  | [],_=>Int.le_refl _
  | x::l,h=>by
    have:=tot_pos (f:=f) (l:=l) fun y hy=>h y (List.mem_cons_of_mem _ hy)
    have:=h x List.mem_cons_self
    rw [tot];omega
theorem tot_le {α:Type} {f:α→Int} {M:Int}:∀{l:List α},(∀x∈l,f x≤M)→tot f l≤M*l.length
  | [],_=>by simp [tot]
  | x::l,h=>by
    have:=tot_le (f:=f) (M:=M) (l:=l) fun y hy=>h y (List.mem_cons_of_mem _ hy)
    have:=h x List.mem_cons_self
    rw [tot,List.length_cons,Int.natCast_add,Int.mul_add];omega
theorem fold_tot {α:Type} {f:α→Int} {M:Int} (hM:0≤M):∀{l:List α} {n:Int},(∀x∈l,0≤f x∧f x≤M)→0≤n→n+M*l.length≤9223372036854775807→l.foldl (fun n x=>IntKind.i64.wrap (n+f x)) n=n+tot f l
  | [],n,_,_,_=>by simp [tot]
  | x::l,n,h,h0,h1=>by
    have hx:=h x List.mem_cons_self
    rw [List.length_cons,Int.natCast_add,Int.mul_add] at h1
    have h2:0≤M*l.length:=Int.mul_nonneg hM (Int.natCast_nonneg _)
    have e:IntKind.i64.wrap (n+f x)=n+f x:=zaa (by omega)
    rw [List.foldl_cons,e,fold_tot hM (fun y hy=>h y (List.mem_cons_of_mem _ hy)) (by omega) (by omega),tot]
    omega
theorem worth_tot {α:Type} {f:α→Int} {l:List α} (h:∀x∈l,0≤f x∧f x≤2199023255552) (hl:l.length≤60):worthF f l=tot f l:=by
  have:=fold_tot (f:=f) (M:=2199023255552) (by decide) (n:=0) h (Int.le_refl _) (by omega)
  unfold worthF
  rw [this];omega
theorem coins_pos {p:List Coin} (h:∀c∈p,coinOk c=true):∀c∈p,0≤c.out.v∧c.out.v≤1099511627776:=fun c hc=>by
  have:=of_decide_eq_true (h c hc)
  omega
theorem coins_tot {p:List Coin} (h:∀c∈p,coinOk c=true) (hl:p.length≤48):0≤tot (·.out.v) p∧tot (·.out.v) p≤52776558133248:=by
  have h:=coins_pos h
  refine ⟨tot_pos fun x hx=>(h x hx).1,?_⟩
  have:=tot_le (f:=fun c:Coin=>c.out.v) (M:=1099511627776) (l:=p) fun x hx=>(h x hx).2
  omega
theorem outs_pos {t:Tx} (h:mayTx t=true):∀o∈t.outs,0≤o.v∧o.v≤1099511627776:=fun o ho=>by
  have h1:=txOuts_ok h o ho
  unfold outOdd at h1
  have:=of_decide_eq_false h1
  omega
theorem outs_tot {t:Tx} (h:mayTx t=true):worthF (·.v) t.outs=tot (·.v) t.outs∧0≤tot (·.v) t.outs∧tot (·.v) t.outs≤3298534883328:=by
  have h1:=outs_pos h
  have h3:=(zdQ h).2.2
  refine ⟨worth_tot (fun x hx=>by have:=h1 x hx;omega) (by omega),tot_pos fun x hx=>(h1 x hx).1,?_⟩
  have:=tot_le (f:=fun o:Out=>o.v) (M:=1099511627776) (l:=t.outs) fun x hx=>(h1 x hx).2
  omega
theorem zip_tot {id:Ab.Id}:∀{outs:List Out} {k:Nat},tot (·.out.v) ((outs.zipIdx k).map fun x=>(⟨⟨id,(x.2:Int)⟩,x.1⟩:Coin))=tot (·.v) outs
  | [],_=>rfl
  | o::outs,k=>by rw [List.zipIdx_cons,List.map_cons,tot,tot,zip_tot]
theorem newN_tot {id:Ab.Id} {outs:List Out}:tot (·.out.v) (newN id outs outs.length)=tot (·.v) outs:=by
  unfold newN
  rw [List.take_length]
  exact zip_tot
theorem madeOf_tot {p:List Coin} {t:Tx} (h:(madeOf p t).2=0):tot (·.out.v) (madeOf p t).1=tot (·.out.v) p+tot (·.v) t.outs∧(madeOf p t).1.length=p.length+t.outs.length:=by
  unfold madeOf at h ⊢
  split
  · rename_i e;rw [if_pos e] at h;exact absurd h (by decide)
  · refine ⟨?_,?_⟩
    · rw [tot_perm (sortC_perm _),tot_append,newN_tot]
    · rw [(sortC_perm _).length_eq,List.length_append,newN_len (Nat.le_refl _)]
theorem takeIns_tot:∀{ins:List In} {p rest:List Coin} {n m:Int},takeIns p n ins=some (rest,m)→(∀c∈p,coinOk c=true)→p.length≤48→0≤n→n+tot (·.out.v) p≤52776558133248→m+tot (·.out.v) rest=n+tot (·.out.v) p∧n≤m∧rest.length+ins.length=p.length
  | [],p,rest,n,m,h,_,_,_,_=>by
    rw [takeIns.eq_1] at h
    injection h with h;injection h with h1 h2;subst h1;subst h2;exact ⟨rfl,Int.le_refl _,rfl⟩
  | x::ins,p,rest,n,m,h,ho,hl,h0,h1=>by
    rw [takeIns.eq_2] at h
    split at h
    · cases h
    · rename_i c hc
      split at h
      · have hd:=tot_del (f:=fun c:Coin=>c.out.v) hc
        have hcm:=coins_pos ho c (List.mem_of_getElem? hc)
        have hlt:=(List.getElem?_eq_some_iff.1 hc).1
        have hsub:(p.take (placeOf p x)++p.drop (placeOf p x+1)).Sublist p:=by
          rw [←List.eraseIdx_eq_take_drop_succ]
          exact List.eraseIdx_sublist _ _
        have hp:=tot_pos (f:=fun c:Coin=>c.out.v) (l:=p.take (placeOf p x)++p.drop (placeOf p x+1)) fun y hy=>(coins_pos ho y (hsub.subset hy)).1
        have hll:(p.take (placeOf p x)++p.drop (placeOf p x+1)).length+1=p.length:=by simp;omega
        have e:IntKind.i64.wrap (n+c.out.v)=n+c.out.v:=zaa (by omega)
        rw [e] at h
        have:=takeIns_tot h (fun y hy=>ho y (hsub.subset hy)) (by omega) (by omega) (by omega)
        rw [List.length_cons]
        omega
      · cases h
theorem spendOf_tot {p:List Coin} {t:Tx} (h:mayCoins p=true):0≤(spendOf p t).2.1∧tot (·.out.v) (spendOf p t).1+(spendOf p t).2.1=tot (·.out.v) p∧((spendOf p t).2.2≠0→(spendOf p t).1=p∧(spendOf p t).2.1=0):=by
  obtain ⟨h1,h2,h3⟩:=zaC.1 h
  have hT:=coins_tot h1 h3
  unfold spendOf
  split
  · exact ⟨Int.le_refl _,by simp,fun _=>⟨rfl,rfl⟩⟩
  · rename_i hn
    have hn:=Classical.not_not.1 hn
    split
    · exact ⟨Int.le_refl _,by simp,fun _=>⟨rfl,rfl⟩⟩
    · rename_i rest n hrest
      have ht:=takeIns_tot hrest h1 h3 (Int.le_refl _) (by omega)
      have ho:=outs_tot hn.2.1
      have hsub:=takeIns_good hrest
      have hr:=tot_pos (f:=fun c:Coin=>c.out.v) (l:=rest) fun c hc=>(coins_pos h1 c (hsub.subset hc)).1
      split
      · exact ⟨Int.le_refl _,by simp,fun _=>⟨rfl,rfl⟩⟩
      · rename_i hw
        rw [ho.1] at hw ⊢
        have e:IntKind.i64.wrap (n-tot (·.v) t.outs)=n-tot (·.v) t.outs:=zaa (by omega)
        rw [e] at hw ⊢
        split
        · rename_i hm
          have hmt:=(madeOf_tot hm).1
          split
          · exact ⟨Int.le_refl _,by simp,fun _=>⟨rfl,rfl⟩⟩
          · exact ⟨by simp only [];omega,by simp only [];omega,fun h=>absurd rfl h⟩
        · exact ⟨Int.le_refl _,by simp,fun _=>⟨rfl,rfl⟩⟩
theorem runTxs_tot:∀{l:List Tx} {p out:List Coin} {r r':Int},runTxs p r l = .inr (out,r')→mayCoins p=true→0≤r→tot (·.out.v) p+r≤52776558133398→mayCoins out=true∧r≤r'∧tot (·.out.v) out+r'=tot (·.out.v) p+r
  | [],p,out,r,r',h,hp,_,_=>by
    rw [runTxs.eq_1] at h
    injection h with h;injection h with h1 h2;subst h1;subst h2;exact ⟨hp,Int.le_refl _,rfl⟩
  | t::l,p,out,r,r',h,hp,h0,h1=>by
    rw [runTxs.eq_2] at h
    split at h
    · have hs:=spendOf_tot (t:=t) hp
      have hm:=zeY (t:=t) hp
      have hT:=coins_tot (zaC.1 hm).1 (zaC.1 hm).2.2
      have e:IntKind.i64.wrap (r+(spendOf p t).2.1)=r+(spendOf p t).2.1:=zaa (by omega)
      rw [e] at h
      have:=runTxs_tot h hm (by omega) (by omega)
      exact ⟨this.1,by omega,by omega⟩
    · cases h
theorem applyOf_tot {p:List Coin} {l:List Tx} (h:mayCoins p=true):mayCoins (applyOf p l).1=true∧tot (·.out.v) (applyOf p l).1≤tot (·.out.v) p+50∧((applyOf p l).2≠0→(applyOf p l).1=p):=by
  have hT:=coins_tot (zaC.1 h).1 (zaC.1 h).2.2
  have same:∀e:Int,mayCoins p=true∧tot (·.out.v) p≤tot (·.out.v) p+50∧(e≠0→p=p):=fun _=>⟨h,by omega,fun _=>rfl⟩
  unfold applyOf
  rw [if_neg (Classical.not_not.2 h)]
  split
  · exact same _
  · split
    · exact same _
    · rename_i out room hr
      have hrt:=runTxs_tot hr h (by decide) (by omega)
      split
      · exact ⟨hrt.1,by simp only [];omega,fun h=>absurd rfl h⟩
      · rename_i t _
        split
        · exact same _
        · rename_i hmt
          have hmt:=Classical.not_not.1 hmt
          have ho:=outs_tot hmt
          split
          · exact same _
          · rename_i hm
            have hm:=Classical.not_not.1 hm
            split
            · exact same _
            · rename_i hw
              rw [ho.1] at hw
              split
              · exact same _
              · rename_i hl
                have hg:=madeOf_good (p:=out) (zaC.1 hrt.1).1 (zaC.1 hrt.1).2.1 hmt
                have hmt:=(madeOf_tot hm).1
                exact ⟨zaC.2 ⟨hg.1,hg.2,Nat.le_of_not_lt hl⟩,by simp only [];omega,fun h=>absurd rfl h⟩
set_option maxRecDepth 20000
theorem zd0 (x:UInt64) {m:Nat} (h:m≤64):(shr64 x m).toNat=x.toNat/2^m:=by
  have hx:x.toNat<18446744073709551616:=x.toNat_lt
  unfold shr64
  rw [UInt64.toNat_ofNat_of_lt' (Nat.lt_of_le_of_lt (Nat.div_le_self _ _) hx),Nat.min_eq_left h]
theorem shr_zero (x:UInt64):x=shr64 x (8*0):=by
  apply UInt64.toNat_inj.1
  rw [zd0 x (by decide)];simp
set_option maxRecDepth 20000
def setN {α:Type} (f:Nat→α) (z:List α) (k:Nat):List α:=(List.range k).foldl (fun l i=>l.set i (f i)) z
theorem setN_succ {α:Type} {f:Nat→α} {z:List α} {k:Nat}:(setN f z k).set k (f k)=setN f z (k+1):=(zdf (f:=fun (l:List α) i=>l.set i (f i))).symm
theorem setN_all {α:Type} {f:Nat→α} {z:List α} {k:Nat} (h:z.length=k):setN f z k=(List.range k).map f:=by
  apply List.ext_getElem?
  intro j
  unfold setN
  rw [fold_set_get,List.getElem?_map]
  by_cases c:j<k
  · rw [if_pos ⟨c,by omega⟩,List.getElem?_range c];rfl
  · rw [if_neg (by omega),List.getElem?_eq_none (by omega),List.getElem?_eq_none (by simp;omega)];rfl
theorem fact_idL {a:Ab.Id} {ρ:Nat→Value} {B:Nat→Prop} {U N:Nat→Prop} {w:World} {v:Value} (h:(AV.val idT a).rel ρ B U N w v):a.length=32:=by
  obtain ⟨cs,h,_⟩:=h
  exact h.1
theorem zdg {a:Wide} {ρ:Nat→Value} {B:Nat→Prop} {U N:Nat→Prop} {w:World} {v:Value} (h:(AV.val wideT a).rel ρ B U N w v):a.length=4:=by
  obtain ⟨cs,h,_⟩:=h
  exact h.1
def cmpU (x y:UInt64):Int:=if x<y then -1 else if y<x then 1 else 0
def atW (a:Wide) (i:Int):UInt64:=if i<0∨4≤i then 0 else a.getD i.toNat default
def upF (a:Wide) (n:Int) (i:Nat):UInt64:=shl64 (atW a ((i:Int)-n/64)) (n%64).toNat|||shr64 (shr64 (atW a ((i:Int)-n/64-1)) 1) (63-n%64).toNat
def upW (a:Wide) (n:Int):Wide:=if n<0 then a else if 256≤n then zWide else (List.range 4).map (upF a n)
def downF (a:Wide) (n:Int) (i:Nat):UInt64:=shr64 (atW a ((i:Int)+n/64)) (n%64).toNat|||shl64 (shl64 (atW a ((i:Int)+n/64+1)) 1) (63-n%64).toNat
def downW (a:Wide) (n:Int):Wide:=if n<0 then a else if 256≤n then zWide else (List.range 4).map (downF a n)
def byteF (a:Wide) (i:Nat):UInt8:=u8OfI (IntL.toI u64T (shr64 (a.getD (3-i/8) default) (56-8*((i:Int)%8)).toNat))
def bytesW (a:Wide):Ab.Id:=(List.range 32).map (byteF a)
def of32S (b:Ab.Id) (w:Wide) (i:Nat):Wide:=w.set (3-i/8) (shl64 (w.getD (3-i/8) default) 8|||u64OfI (IntL.toI u8T (b.getD i default)))
def of32N (b:Ab.Id) (k:Nat):Wide:=(List.range k).foldl (of32S b) zWide
def of32W (b:Ab.Id):Wide:=of32N b 32
def cmpW (a b:Wide):Int:=orL [cmpU (a.getD 3 default) (b.getD 3 default),cmpU (a.getD 2 default) (b.getD 2 default),cmpU (a.getD 1 default) (b.getD 1 default),cmpU (a.getD 0 default) (b.getD 0 default)]
theorem isNaNU_ok (x:UInt64):Tells P 308 [.val u64T x] (.val boolT false):=by
 refine zc Tryz.func308 rfl rfl rfl (fun ext w hext=>?_)
 refine qbI ?_;refine qaw ?_;refine A0 zdr ?_;refine qac ?_
 exact zb rfl rfl (zbJ (by simp [Fr.set]))
theorem cmpU_ok (x y:UInt64):Tells P 269 [.val u64T x,.val u64T y] (.val i64T (cmpU x y)):=by
 refine zc Tryz.func269 rfl rfl rfl (fun ext w hext=>?_)
 refine qbI ?_;refine A0 (oCl (isNaNU_ok _) rfl fn_308 ⟨(zd rfl),trivial⟩) ?_;refine qad ?_;refine A0 (oCl (isNaNU_ok _) rfl fn_308 ⟨(zd rfl),trivial⟩) ?_;refine qai ?_;refine CN ?_;refine Cg ?_;refine qbv ?_;refine CN ?_;refine Cg ?_;refine CSQQR ?_;refine qak ?_;refine qaG ?_;refine zr (p:=x<y) rfl (by simp [IntL.toI,UInt64.lt_iff_toNat_lt]) (fun ht16=>?_) (fun ht16=>?_)
 ·
  refine qa5 ?_
  exact zb rfl rfl (za rfl (by unfold cmpU;first|rw [if_neg (by assumption),if_neg (by assumption)]|rw [if_neg (by assumption),if_pos (by assumption)]|rw [if_pos (by assumption)]))
 ·
  refine CSQQR ?_;refine qak ?_;refine A0 zaI ?_;refine CN ?_;refine zr (p:=y<x) rfl (by simp [IntL.toI,UInt64.lt_iff_toNat_lt]) (fun ht19=>?_) (fun ht19=>?_)
  ·
   refine qa5 ?_
   exact zb rfl rfl (za rfl (by unfold cmpU;first|rw [if_neg (by assumption),if_neg (by assumption)]|rw [if_neg (by assumption),if_pos (by assumption)]|rw [if_pos (by assumption)]))
  ·
   refine CSQR ?_;refine qac ?_
   exact zb rfl rfl (za rfl (by unfold cmpU;first|rw [if_neg (by assumption),if_neg (by assumption)]|rw [if_neg (by assumption),if_pos (by assumption)]|rw [if_pos (by assumption)]))
theorem atW_ok (a:Wide) (i:Int):Tells P 220 [.val wideT a,.val i64T i] (.val u64T (atW a i)):=by
 refine zc Tryz.func220 rfl rfl rfl (fun ext w hext=>?_)
 refine ze (d:=1) rfl zn (fun hin1=>?_)
 refine ze (d:=0) rfl zdg (fun ha=>?_)
 refine qaf ?_;refine qai ?_;refine A0 zbx ?_;refine Sp (d:=6) (p:=i<0) (fun g6=>?_) (fun g6=>?_)
 ·
  refine qaw ?_;refine qaC ?_;refine qat ?_;refine Ct ?_;refine qa5 ?_
  exact zb rfl rfl (za rfl (by unfold atW;rw [if_pos (.inl g6)];rfl))
 ·
  refine qbr ?_;refine A1 zcU ?_;refine Sp (d:=9) (p:=4≤i) (fun g9=>?_) (fun g9=>?_)
  ·
   refine qat ?_;refine Ct ?_;refine qa5 ?_
   exact zb rfl rfl (za rfl (by unfold atW;rw [if_pos (.inr g9)];rfl))
  ·
   refine qat ?_;refine Cg ?_;refine qbF ?_;refine A0 (zJ (i:=i.toNat) rfl rfl rfl (by first|omega|rfl) za1 (by omega)) ?_;refine A0 (zq rfl rfl rfl (Lens.elem (i:=i.toNat) (by omega) u64T) zbi) ?_;refine qac ?_
   exact zb rfl rfl (za rfl (by unfold atW;rw [if_neg (by omega)]))
theorem upW_ok (a:Wide) (n:Int):Tells P 157 [.val wideT a,.val i64T n] (.val wideT (upW a n)):=by
 refine zc Tryz.func157 rfl rfl rfl (fun ext w hext=>?_)
 refine ze (d:=1) rfl zn (fun hin1=>?_)
 refine ze (d:=0) rfl zdg (fun ha=>?_)
 refine qaf ?_;refine qaB ?_;refine qaT ?_;refine qaG ?_;refine Cf (p:=n<0) (fun ht10=>?_) (fun ht10=>?_)
 ·
  refine qbB ?_
  exact z6 rfl rfl rfl rfl zam (by unfold upW;rw [if_pos ht10])
 ·
  refine qbv ?_;refine qbK ?_;refine Cf (p:=256≤n) (fun ht13=>?_) (fun ht13=>?_)
  ·
   refine CQR ?_;refine A0 (zcf rfl za1 ze_49 rfl) ?_;refine qal ?_;refine CN ?_
   exact z6 rfl rfl rfl rfl zam (by unfold upW;rw [if_neg ht10,if_pos ht13])
  ·
   refine CSQR ?_;refine qaB ?_;refine CNQR ?_;refine qaw ?_;refine A0 (g_quo rfl rfl rfl (by first|omega|assumption) (by first|decide|omega) rfl) ?_;refine qaw ?_;refine A0 (g_rem rfl rfl rfl (by first|omega|assumption) (by first|decide|omega) rfl) ?_;refine A0 aV ?_;refine qai ?_;refine CNB ?_
   refine Lp (ι:=Nat) 3 (fun (k:Nat)=>((((((Fr.none).set 2 (.ptr 0 0)).set 4 (.ptr 1 0)).set 5 (.ptr 2 0)).set 6 (.val i64T (n/64))).set 7 (.val i64T (n%64))).set 19 (.val i64T (k:Int))) (fun (k:Nat)=>(((Hp.none).set 0 (.box 49 wideT a)).set 1 (.box 49 wideT zWide)).set 2 (.box 49 wideT (setN (upF a n) zWide k))) (fun (k:Nat)=>k≤4) (fun (k:Nat)=>4-k) (0) (Nat.zero_le _) ?_
   intro k hinv
   refine qaj ?_;refine Cf (p:=k<4) (fun ht20=>?_) (fun ht20=>?_)
   ·
    refine qaP ?_;refine qac ?_;refine zE [some 1,some 1,some 1,some 1,some 1,some 1,some 1,some 1,some 1,some 1,some 1,some 1,some 1,some 1,some 1,some 1,some 1,some 1,some 1,some 1,none] mixed (by decide +kernel) ?_;refine X0 mV ?_;refine X0 (oLs rfl rfl rfl zam) ?_;refine qbT ?_;refine X0 zaT ?_;refine X0 (oCl (atW_ok _ _) rfl fn_220 ⟨(zd rfl),(zd rfl),trivial⟩) ?_;refine X0 mV ?_;refine X0 (g_shl64 rfl rfl rfl (by first|decide|(simp [IntL.toI];done)|(simp [IntL.toI];omega)) rfl) ?_;refine X0 (oLs rfl rfl rfl zam) ?_;refine qbT ?_;refine X0 zaT ?_;refine X0 zaT ?_
    refine X0 (oCl (atW_ok _ _) rfl fn_220 ⟨(zd rfl),(zd rfl),trivial⟩) ?_;refine X0 (zbg rfl rfl rfl (by first|decide|(simp [IntL.toI];done)|(simp [IntL.toI];omega)) rfl) ?_;refine X0 mV ?_;refine X0 zaT ?_;refine X0 (zbg rfl rfl rfl (by first|decide|(simp [IntL.toI];done)|(simp [IntL.toI];omega)) rfl) ?_;refine X0 (g_or64 rfl rfl rfl) ?_;refine X0 (zJ (i:=k) rfl rfl rfl (by first|omega|rfl) za1 (by omega)) ?_
    refine XK.e (x:=.idk) (fun fr' hfr kk H=>by exact zh rfl rfl rfl ((hfr 41 (by decide +kernel)).trans rfl) rfl (Lens.elem (i:=k) (by omega) u64T) zbi ((hfr 40 (by decide +kernel)).trans rfl) (zK H)) ?_;refine qaJ ?_;refine zS (n:=2) (y:=setN (upF a n) zWide (k+1)) rfl setN_succ ?_
    exact Nx (k+1) (by omega) (by omega)
   ·
    obtain rfl:k=4:=(by omega)
    refine CE ?_;refine qbB ?_
    exact z6 rfl rfl rfl rfl zam (by unfold upW;rw [if_neg ht10,if_neg ht13];exact setN_all rfl)
theorem downW_ok (a:Wide) (n:Int):Tells P 218 [.val wideT a,.val i64T n] (.val wideT (downW a n)):=by
 refine zc Tryz.func218 rfl rfl rfl (fun ext w hext=>?_)
 refine ze (d:=1) rfl zn (fun hin1=>?_)
 refine ze (d:=0) rfl zdg (fun ha=>?_)
 refine qaf ?_;refine qaB ?_;refine qaT ?_;refine qaG ?_;refine Cf (p:=n<0) (fun ht10=>?_) (fun ht10=>?_)
 ·
  refine qbB ?_
  exact z6 rfl rfl rfl rfl zam (by unfold downW;rw [if_pos ht10])
 ·
  refine qbv ?_;refine qbK ?_;refine Cf (p:=256≤n) (fun ht13=>?_) (fun ht13=>?_)
  ·
   refine CQR ?_;refine A0 (zcf rfl za1 ze_49 rfl) ?_;refine qal ?_;refine CN ?_
   exact z6 rfl rfl rfl rfl zam (by unfold downW;rw [if_neg ht10,if_pos ht13])
  ·
   refine CSQR ?_;refine qaB ?_;refine CNQR ?_;refine qaw ?_;refine A0 (g_quo rfl rfl rfl (by first|omega|assumption) (by first|decide|omega) rfl) ?_;refine qaw ?_;refine A0 (g_rem rfl rfl rfl (by first|omega|assumption) (by first|decide|omega) rfl) ?_;refine A0 aV ?_;refine qai ?_;refine CNB ?_
   refine Lp (ι:=Nat) 3 (fun (k:Nat)=>((((((Fr.none).set 2 (.ptr 0 0)).set 4 (.ptr 1 0)).set 5 (.ptr 2 0)).set 6 (.val i64T (n/64))).set 7 (.val i64T (n%64))).set 19 (.val i64T (k:Int))) (fun (k:Nat)=>(((Hp.none).set 0 (.box 49 wideT a)).set 1 (.box 49 wideT zWide)).set 2 (.box 49 wideT (setN (downF a n) zWide k))) (fun (k:Nat)=>k≤4) (fun (k:Nat)=>4-k) (0) (Nat.zero_le _) ?_
   intro k hinv
   refine qaj ?_;refine Cf (p:=k<4) (fun ht20=>?_) (fun ht20=>?_)
   ·
    refine qaP ?_;refine qac ?_;refine zE [some 1,some 1,some 1,some 1,some 1,some 1,some 1,some 1,some 1,some 1,some 1,some 1,some 1,some 1,some 1,some 1,some 1,some 1,some 1,some 1,none] mixed (by decide +kernel) ?_;refine X0 mV ?_;refine X0 (oLs rfl rfl rfl zam) ?_;refine qbT ?_;refine X0 zby ?_;refine X0 (oCl (atW_ok _ _) rfl fn_220 ⟨(zd rfl),(zd rfl),trivial⟩) ?_;refine X0 mV ?_;refine X0 (zbg rfl rfl rfl (by first|decide|(simp [IntL.toI];done)|(simp [IntL.toI];omega)) rfl) ?_;refine X0 (oLs rfl rfl rfl zam) ?_;refine qbT ?_;refine X0 zby ?_;refine X0 zby ?_
    refine X0 (oCl (atW_ok _ _) rfl fn_220 ⟨(zd rfl),(zd rfl),trivial⟩) ?_;refine X0 (g_shl64 rfl rfl rfl (by first|decide|(simp [IntL.toI];done)|(simp [IntL.toI];omega)) rfl) ?_;refine X0 mV ?_;refine X0 zaT ?_;refine X0 (g_shl64 rfl rfl rfl (by first|decide|(simp [IntL.toI];done)|(simp [IntL.toI];omega)) rfl) ?_;refine X0 (g_or64 rfl rfl rfl) ?_;refine X0 (zJ (i:=k) rfl rfl rfl (by first|omega|rfl) za1 (by omega)) ?_
    refine XK.e (x:=.idk) (fun fr' hfr kk H=>by exact zh rfl rfl rfl ((hfr 41 (by decide +kernel)).trans rfl) rfl (Lens.elem (i:=k) (by omega) u64T) zbi ((hfr 40 (by decide +kernel)).trans rfl) (zK H)) ?_;refine qaJ ?_;refine zS (n:=2) (y:=setN (downF a n) zWide (k+1)) rfl setN_succ ?_
    exact Nx (k+1) (by omega) (by omega)
   ·
    obtain rfl:k=4:=(by omega)
    refine CE ?_;refine qbB ?_
    exact z6 rfl rfl rfl rfl zam (by unfold downW;rw [if_neg ht10,if_neg ht13];exact setN_all rfl)
theorem bytesW_ok (a:Wide):Tells P 142 [.val wideT a] (.val idT (bytesW a)):=by
 refine zc Tryz.func142 rfl rfl rfl (fun ext w hext=>?_)
 refine ze (d:=0) rfl zdg (fun ha=>?_)
 refine qaf ?_;refine qaD ?_;refine CNQR ?_;refine qaD ?_;refine CNQQR ?_;refine qa8 ?_;refine Lp (ι:=Nat) 3 (fun (k:Nat)=>((((Fr.none).set 1 (.ptr 0 0)).set 2 (.ptr 1 0)).set 3 (.ptr 2 0)).set 5 (.val i64T (k:Int))) (fun (k:Nat)=>(((Hp.none).set 0 (.box 49 wideT a)).set 1 (.box 46 idT zId)).set 2 (.box 46 idT (setN (byteF a) zId k))) (fun (k:Nat)=>k≤32) (fun (k:Nat)=>32-k) (0) (Nat.zero_le _) ?_
 intro k hinv
 refine qaj ?_;refine Cf (p:=k<32) (fun ht6=>?_) (fun ht6=>?_)
 ·
  refine qaP ?_;refine qbG ?_;refine qak ?_;refine A0 (g_quo rfl rfl rfl (by first|omega|assumption) (by first|decide|omega) rfl) ?_;refine A0 zaT ?_;refine A0 (zJ (i:=3-k/8) rfl rfl rfl (by first|omega|rfl) za1 (by omega)) ?_;refine A0 (zq rfl rfl rfl (Lens.elem (i:=3-k/8) (by omega) u64T) zbi) ?_;refine qaw ?_;refine A0 (g_rem rfl rfl rfl (by first|omega|assumption) (by first|decide|omega) rfl) ?_;refine A0 o_mul ?_;refine A0 zaT ?_;refine A0 (zbg rfl rfl rfl (by first|decide|(simp [IntL.toI];done)|(simp [IntL.toI];omega)) rfl) ?_
  refine A0 (zew rfl (ui_5) (us_47) rfl) ?_;refine A0 (zJ (i:=k) rfl rfl rfl (by first|omega|rfl) zdp (by omega)) ?_;refine zh rfl rfl rfl rfl rfl (Lens.elem (i:=k) (by omega) u8T) ty_5 rfl ?_;refine qaW ?_;refine zS (n:=2) (y:=setN (byteF a) zId (k+1)) rfl setN_succ ?_
  exact Nx (k+1) (by omega) (by omega)
 ·
  obtain rfl:k=32:=(by omega)
  refine CE ?_;refine CQR ?_;refine A0 (oLs rfl rfl rfl zI) ?_;refine qaq ?_
  exact z6 rfl rfl rfl rfl zI (setN_all rfl)
theorem of32W_ok (b:Ab.Id):Tells P 150 [.val idT b] (.val wideT (of32W b)):=by
 refine zc Tryz.func150 rfl rfl rfl (fun ext w hext=>?_)
 refine ze (d:=0) rfl fact_idL (fun hb=>?_)
 refine qaf ?_;refine qaB ?_;refine CNQR ?_;refine qaB ?_;refine CNQQR ?_;refine A0 (oLs rfl rfl rfl zI) ?_;refine qa8 ?_;refine Lp (ι:=Nat) 3 (fun (k:Nat)=>((((Fr.none).set 2 (.ptr 1 0)).set 3 (.ptr 2 0)).set 7 (.val idT b)).set 8 (.val i64T (k:Int))) (fun (k:Nat)=>((Hp.none).set 1 (.box 49 wideT zWide)).set 2 (.box 49 wideT (of32N b k))) (fun (k:Nat)=>k≤32) (fun (k:Nat)=>32-k) (0) (Nat.zero_le _) ?_
 intro k hinv
 refine qaj ?_;refine Cf (p:=k<32) (fun ht9=>?_) (fun ht9=>?_)
 ·
  obtain ⟨x,hx⟩:∃x,b[k]?=some x:=⟨_,List.getElem?_eq_getElem (by omega)⟩
  refine qaP ?_;refine A0 (g_index rfl rfl rfl rfl zdp ty_5 (by assumption)) ?_;refine qbw ?_;refine A0 (g_quo rfl rfl rfl (by first|omega|assumption) (by first|decide|omega) rfl) ?_;refine A0 zaT ?_;refine qbG ?_;refine qak ?_;refine A0 (zJ (i:=3-k/8) rfl rfl rfl (by first|omega|rfl) za1 (by omega)) ?_;refine A0 (zq rfl rfl rfl (Lens.elem (i:=3-k/8) (by omega) u64T) zbi) ?_;refine A0 (g_shl64 rfl rfl rfl (by first|decide|(simp [IntL.toI];done)|(simp [IntL.toI];omega)) rfl) ?_;refine qaw ?_;refine A0 (zdH rfl (ui_47) (us_5) rfl) ?_;refine A0 (g_or64 rfl rfl rfl) ?_
  refine A0 (zJ (i:=3-k/8) rfl rfl rfl (by first|omega|rfl) za1 (by omega)) ?_;refine zh rfl rfl rfl rfl rfl (Lens.elem (i:=3-k/8) (by omega) u64T) zbi rfl ?_;refine qaW ?_;refine zS (n:=2) (y:=of32N b (k+1)) rfl (by unfold of32N;rw [zdf];unfold of32S;rw [List.getD_eq_getElem?_getD (l:=b),hx];rfl) ?_
  exact Nx (k+1) (by omega) (by omega)
 ·
  obtain rfl:k=32:=(by omega)
  refine CE ?_;refine qbB ?_
  exact z6 rfl rfl rfl rfl zam (rfl)
theorem cmpW_ok (a b:Wide):Tells P 217 [.val wideT a,.val wideT b] (.val i64T (cmpW a b)):=by
 refine zc Tryz.func217 rfl rfl rfl (fun ext w hext=>?_)
 refine qa6 ?_;refine qbN ?_;refine G0 (zJ (i:=3) rfl rfl rfl (by first|omega|rfl) za1 (by omega)) ?_;refine G0 (zq rfl rfl rfl (Lens.elem (i:=3) (by omega) u64T) zbi) ?_;refine G0 (zJ (i:=3) rfl rfl rfl (by first|omega|rfl) za1 (by omega)) ?_;refine G0 (zq rfl rfl rfl (Lens.elem (i:=3) (by omega) u64T) zbi) ?_;refine G0 (oCl (cmpU_ok _ _) rfl fn_269 ⟨(zd rfl),(zd rfl),trivial⟩) ?_;refine G0 (zJ (i:=2) rfl rfl rfl (by first|omega|rfl) za1 (by omega)) ?_;refine G0 (zq rfl rfl rfl (Lens.elem (i:=2) (by omega) u64T) zbi) ?_
 refine G0 (zJ (i:=2) rfl rfl rfl (by first|omega|rfl) za1 (by omega)) ?_;refine G0 (zq rfl rfl rfl (Lens.elem (i:=2) (by omega) u64T) zbi) ?_;refine G0 (oCl (cmpU_ok _ _) rfl fn_269 ⟨(zd rfl),(zd rfl),trivial⟩) ?_;refine G0 (zJ (i:=1) rfl rfl rfl (by first|omega|rfl) za1 (by omega)) ?_;refine G0 (zq rfl rfl rfl (Lens.elem (i:=1) (by omega) u64T) zbi) ?_;refine G0 (zJ (i:=1) rfl rfl rfl (by first|omega|rfl) za1 (by omega)) ?_;refine G0 (zq rfl rfl rfl (Lens.elem (i:=1) (by omega) u64T) zbi) ?_
 refine G0 (oCl (cmpU_ok _ _) rfl fn_269 ⟨(zd rfl),(zd rfl),trivial⟩) ?_;refine G0 (zJ (i:=0) rfl rfl rfl (by first|omega|rfl) za1 (by omega)) ?_;refine G0 (zq rfl rfl rfl (Lens.elem (i:=0) (by omega) u64T) zbi) ?_;refine G0 (zJ (i:=0) rfl rfl rfl (by first|omega|rfl) za1 (by omega)) ?_;refine G0 (zq rfl rfl rfl (Lens.elem (i:=0) (by omega) u64T) zbi) ?_;refine G0 (oCl (cmpU_ok _ _) rfl fn_269 ⟨(zd rfl),(zd rfl),trivial⟩) ?_;refine G0 (zt (T:=i64T) (xs:=[_,_,_,_]) rfl zbm zcP ⟨rfl,rfl,rfl,rfl,rfl,rfl,rfl,rfl,trivial⟩ rfl rfl) ?_
 refine G0 (oCl (orInt _) rfl fn_268 ⟨(zd rfl),trivial⟩) ?_;refine qbn ?_
 exact zb rfl rfl (za rfl rfl)
def ofW (n:UInt64):Wide:=[n,0,0,0]
def tgtM (bits:UInt32):UInt64:=u64OfI (IntL.toI u32T (bits&&&16777215))
def tgtE (bits:UInt32):Int:=IntL.toI u32T (shr32 bits 24)
def tgtOk (bits:UInt32):Bool:=decide (3≤tgtE bits∧tgtE bits≤32∧32768≤(tgtM bits).toNat∧(tgtM bits).toNat<8388608)
def tgtW (bits:UInt32):Wide:=if tgtOk bits=true then upW (ofW (tgtM bits)) (8*(tgtE bits-3)) else zWide
theorem ofW_ok (n:UInt64):Tells P 158 [.val u64T n] (.val wideT (ofW n)):=by
 refine zc Tryz.func158 rfl rfl rfl (fun ext w hext=>?_)
 refine CQR ?_;refine qaB ?_;refine CNQR ?_;refine qaw ?_;refine A0 (g_buildP (T:=u64T) (xs:=[_]) rfl za1 ze_49 ⟨rfl,rfl,trivial⟩ rfl rfl) ?_;refine qal ?_;refine CN ?_
 exact z6 rfl rfl rfl rfl zam (rfl)
theorem target_ok (bits:UInt32):Tells P 105 [.val u32T bits] (.tup2 (.val wideT (tgtW bits)) (.val boolT (tgtOk bits))):=by
 have he0:0≤tgtE bits:=Int.natCast_nonneg _
 have heL:tgtE bits<4294967296:=by have:(shr32 bits 24).toNat<4294967296:=(shr32 bits 24).toNat_lt;show ((shr32 bits 24).toNat:Int)<4294967296;omega
 refine zc Tryz.func105 rfl rfl rfl (fun ext w hext=>?_)
 refine CQR ?_;refine qaB ?_;refine qad ?_;refine A0 (g_shr32 rfl rfl rfl (by first|decide|(simp [IntL.toI];done)|(simp [IntL.toI];omega)) rfl) ?_;refine A0 (zev rfl (ui_3) (us_50) rfl (zaa (by show -9223372036854775808≤tgtE bits∧tgtE bits≤9223372036854775807;omega))) ?_;refine zi (d:=8) (y:=tgtE bits) rfl rfl ?_;refine qaw ?_;refine A0 (g_and32 rfl rfl rfl) ?_;refine A0 (zdH rfl (ui_47) (us_50) rfl) ?_;refine zi (d:=11) (y:=tgtM bits) rfl rfl ?_;refine A0 aV ?_;refine qai ?_;refine A0 zbx ?_;refine Sp (d:=13) (p:=tgtE bits<3) (fun g13=>?_) (fun g13=>?_)
 ·
  refine qaw ?_;refine qaC ?_;refine qae ?_;refine qaC ?_;refine qb5 ?_;refine Ct ?_;refine CQR ?_;refine A0 (zcf rfl za1 ze_49 rfl) ?_;refine qal ?_;refine qac ?_
  exact zz rfl rfl (zF rfl rfl zam (by unfold tgtW;rw [if_neg (by unfold tgtOk;rw [decide_eq_true_eq];omega)])) (zaf (za rfl (by unfold tgtOk;symm;apply decide_eq_false;omega)))
 ·
  refine qbr ?_;refine A1 zaI ?_;refine Sp (d:=16) (p:=32<tgtE bits) (fun g16=>?_) (fun g16=>?_)
  ·
   refine qae ?_;refine qaC ?_;refine qb5 ?_;refine Ct ?_;refine CQR ?_;refine A0 (zcf rfl za1 ze_49 rfl) ?_;refine qal ?_;refine qac ?_
   exact zz rfl rfl (zF rfl rfl zam (by unfold tgtW;rw [if_neg (by unfold tgtOk;rw [decide_eq_true_eq];omega)])) (zaf (za rfl (by unfold tgtOk;symm;apply decide_eq_false;omega)))
  ·
   refine qbs ?_;refine A1 zbx ?_;refine zL (d:=20) (p:=(tgtM bits).toNat<32768) rfl (by rw [decide_eq_decide];show ((tgtM bits).toNat:Int)<(32768:Int)↔_;omega) (fun g20=>?_) (fun g20=>?_)
   ·
    refine qb5 ?_;refine Ct ?_;refine CQR ?_;refine A0 (zcf rfl za1 ze_49 rfl) ?_;refine qal ?_;refine qac ?_
    exact zz rfl rfl (zF rfl rfl zam (by unfold tgtW;rw [if_neg (by unfold tgtOk;rw [decide_eq_true_eq];omega)])) (zaf (za rfl (by unfold tgtOk;symm;apply decide_eq_false;omega)))
   ·
    refine qbs ?_;refine A1 zcU ?_;refine zL (d:=24) (p:=8388608≤(tgtM bits).toNat) rfl (by rw [decide_eq_decide];show (8388608:Int)≤((tgtM bits).toNat:Int)↔_;omega) (fun g24=>?_) (fun g24=>?_)
    ·
     refine qat ?_;refine Ct ?_;refine CQR ?_;refine A0 (zcf rfl za1 ze_49 rfl) ?_;refine qal ?_;refine qac ?_
     exact zz rfl rfl (zF rfl rfl zam (by unfold tgtW;rw [if_neg (by unfold tgtOk;rw [decide_eq_true_eq];omega)])) (zaf (za rfl (by unfold tgtOk;symm;apply decide_eq_false;omega)))
    ·
     refine qat ?_;refine Cg ?_;refine qbF ?_;refine A0 (oCl (ofW_ok _) rfl fn_158 ⟨(zd rfl),trivial⟩) ?_;refine qbA ?_;refine A0 o_mul ?_;refine A0 (oCl (upW_ok _ _) rfl fn_157 ⟨(zd rfl),(zd rfl),trivial⟩) ?_;refine qal ?_;refine qac ?_
     exact zz rfl rfl (zF rfl rfl zam (by unfold tgtW;rw [if_pos (by unfold tgtOk;rw [decide_eq_true_eq];omega)])) (zaf (za rfl (by unfold tgtOk;symm;apply decide_eq_true;omega)))
set_option maxRecDepth 20000
theorem ext_Add64:ExtAt P 275 add64E:=⟨_,rfl,rfl,rfl,rfl,rfl⟩
theorem ext_Sub64:ExtAt P 327 sub64E:=⟨_,rfl,rfl,rfl,rfl,rfl⟩
def carryN (f g:UInt64→UInt64→UInt64→UInt64) (a b:Wide) (k:Nat):Wide×UInt64:=(List.range k).foldl (fun x i=>(x.1.set i (f (x.1.getD i default) (b.getD i default) x.2),g (x.1.getD i default) (b.getD i default) x.2)) (a,0)
theorem zc0 {f g:UInt64→UInt64→UInt64→UInt64} {a b:Wide} {k:Nat}:carryN f g a b (k+1)=((carryN f g a b k).1.set k (f ((carryN f g a b k).1.getD k default) (b.getD k default) (carryN f g a b k).2),g ((carryN f g a b k).1.getD k default) (b.getD k default) (carryN f g a b k).2):=by unfold carryN;rw [zdf]
def addW (a b:Wide):Wide:=(carryN addS addC a b 4).1
def addOk (a b:Wide):Bool:=decide ((carryN addS addC a b 4).2.toNat=0)
def subW (a b:Wide):Wide:=(carryN subS subC a b 4).1
def subOk (a b:Wide):Bool:=decide ((carryN subS subC a b 4).2.toNat=0)
theorem carryAdd_ok (a b:Wide):Tells P 274 [.val wideT a,.val wideT b,.clo 275 []] (.tup2 (.val wideT (carryN addS addC a b 4).1) (.val boolT (decide ((carryN addS addC a b 4).2.toNat=0)))):=by
 refine zc Tryz.func274 rfl rfl rfl (fun ext w hext=>?_)
 refine qa6 ?_;refine qaB ?_;refine qar ?_;refine qai ?_;refine CNB ?_;refine Lp (ι:=Nat) 3 (fun (k:Nat)=>((((((Fr.none).set 2 (.clo 275 [])).set 3 (.ptr 0 0)).set 4 (.ptr 1 0)).set 6 (.ptr 2 0)).set 8 (.val u64T (carryN addS addC a b k).2)).set 10 (.val i64T (k:Int))) (fun (k:Nat)=>(((Hp.none).set 0 (.box 49 wideT (carryN addS addC a b k).1)).set 1 (.box 49 wideT b)).set 2 (.box 49 wideT zWide)) (fun (k:Nat)=>k≤4∧(carryN addS addC a b k).2.toNat≤1) (fun (k:Nat)=>4-k) (0) (⟨Nat.zero_le _,Nat.zero_le 1⟩) ?_
 intro k hinv
 refine qaj ?_;refine Cf (p:=k<4) (fun ht11=>?_) (fun ht11=>?_)
 ·
  refine qaP ?_;refine qac ?_;refine zE [some 1,some 1,some 1,some 1,some 1,some 1,some 1,some 1,some 1,some 1,some 1,some 1,some 1000001,some 1,none,some 1] mixed (by decide +kernel) ?_;refine X0 mV ?_;refine X0 mC ?_;refine X0 mV ?_;refine X0 (zJ (i:=k) rfl rfl rfl (by first|omega|rfl) za1 (by omega)) ?_;refine X0 (zq rfl rfl rfl (Lens.elem (i:=k) (by omega) u64T) zbi) ?_;refine X0 mV ?_;refine X0 (zJ (i:=k) rfl rfl rfl (by first|omega|rfl) za1 (by omega)) ?_;refine X0 (zq rfl rfl rfl (Lens.elem (i:=k) (by omega) u64T) zbi) ?_;refine X0 mV ?_
  refine X0 (g_ext3 rfl ext_Add64 rfl rfl rfl rfl (fun P w=>Go.Ab.run_add64 P w _ _ hinv.2)) ?_;refine X0 mX ?_;refine X0 (by first|exact zN rfl rfl|exact zM rfl rfl) ?_;refine XK.ga (fun _=>by first|exact zQ rfl rfl|exact zP rfl rfl) rfl rfl rfl ?_;refine X0 (zJ (i:=k) rfl rfl rfl (by first|omega|rfl) za1 (by omega)) ?_;refine XK.e (x:=.idk) (fun fr' hfr kk H=>by exact zh rfl rfl rfl ((hfr 26 (by decide +kernel)).trans rfl) rfl (Lens.elem (i:=k) (by omega) u64T) zbi ((hfr 24 (by decide +kernel)).trans rfl) (zK H)) ?_;refine X0 aX ?_;refine qaJ ?_
  refine zS (n:=0) (y:=(carryN addS addC a b (k+1)).1) rfl (by rw [zc0]) ?_;refine zi (d:=8) (y:=(carryN addS addC a b (k+1)).2) rfl (by rw [zc0]) ?_
  exact Nx (k+1) (⟨by omega,by rw [zc0];exact addC_le _ _ hinv.2⟩) (by omega)
 ·
  obtain rfl:k=4:=(by omega)
  refine CE ?_;refine CQR ?_;refine qba ?_;refine qaw ?_;refine A0 zbf ?_;refine qal ?_;refine qac ?_
  exact zz rfl rfl (zF rfl rfl zam (rfl)) (zaf (za rfl (by rw [decide_eq_decide];show ((_:Nat):Int)=(0:Int)↔_;omega)))
theorem carrySub_ok (a b:Wide):Tells P 274 [.val wideT a,.val wideT b,.clo 327 []] (.tup2 (.val wideT (carryN subS subC a b 4).1) (.val boolT (decide ((carryN subS subC a b 4).2.toNat=0)))):=by
 refine zc Tryz.func274 rfl rfl rfl (fun ext w hext=>?_)
 refine qa6 ?_;refine qaB ?_;refine qar ?_;refine qai ?_;refine CNB ?_;refine Lp (ι:=Nat) 3 (fun (k:Nat)=>((((((Fr.none).set 2 (.clo 327 [])).set 3 (.ptr 0 0)).set 4 (.ptr 1 0)).set 6 (.ptr 2 0)).set 8 (.val u64T (carryN subS subC a b k).2)).set 10 (.val i64T (k:Int))) (fun (k:Nat)=>(((Hp.none).set 0 (.box 49 wideT (carryN subS subC a b k).1)).set 1 (.box 49 wideT b)).set 2 (.box 49 wideT zWide)) (fun (k:Nat)=>k≤4∧(carryN subS subC a b k).2.toNat≤1) (fun (k:Nat)=>4-k) (0) (⟨Nat.zero_le _,Nat.zero_le 1⟩) ?_
 intro k hinv
 refine qaj ?_;refine Cf (p:=k<4) (fun ht11=>?_) (fun ht11=>?_)
 ·
  refine qaP ?_;refine qac ?_;refine zE [some 1,some 1,some 1,some 1,some 1,some 1,some 1,some 1,some 1,some 1,some 1,some 1,some 1000001,some 1,none,some 1] mixed (by decide +kernel) ?_;refine X0 mV ?_;refine X0 mC ?_;refine X0 mV ?_;refine X0 (zJ (i:=k) rfl rfl rfl (by first|omega|rfl) za1 (by omega)) ?_;refine X0 (zq rfl rfl rfl (Lens.elem (i:=k) (by omega) u64T) zbi) ?_;refine X0 mV ?_;refine X0 (zJ (i:=k) rfl rfl rfl (by first|omega|rfl) za1 (by omega)) ?_;refine X0 (zq rfl rfl rfl (Lens.elem (i:=k) (by omega) u64T) zbi) ?_;refine X0 mV ?_
  refine X0 (g_ext3 rfl ext_Sub64 rfl rfl rfl rfl (fun P w=>Go.Ab.run_sub64 P w _ _ hinv.2)) ?_;refine X0 mX ?_;refine X0 (by first|exact zN rfl rfl|exact zM rfl rfl) ?_;refine XK.ga (fun _=>by first|exact zQ rfl rfl|exact zP rfl rfl) rfl rfl rfl ?_;refine X0 (zJ (i:=k) rfl rfl rfl (by first|omega|rfl) za1 (by omega)) ?_;refine XK.e (x:=.idk) (fun fr' hfr kk H=>by exact zh rfl rfl rfl ((hfr 26 (by decide +kernel)).trans rfl) rfl (Lens.elem (i:=k) (by omega) u64T) zbi ((hfr 24 (by decide +kernel)).trans rfl) (zK H)) ?_;refine X0 aX ?_;refine qaJ ?_
  refine zS (n:=0) (y:=(carryN subS subC a b (k+1)).1) rfl (by rw [zc0]) ?_;refine zi (d:=8) (y:=(carryN subS subC a b (k+1)).2) rfl (by rw [zc0]) ?_
  exact Nx (k+1) (⟨by omega,by rw [zc0];exact subC_le _ _ _⟩) (by omega)
 ·
  obtain rfl:k=4:=(by omega)
  refine CE ?_;refine CQR ?_;refine qba ?_;refine qaw ?_;refine A0 zbf ?_;refine qal ?_;refine qac ?_
  exact zz rfl rfl (zF rfl rfl zam (rfl)) (zaf (za rfl (by rw [decide_eq_decide];show ((_:Nat):Int)=(0:Int)↔_;omega)))
theorem addW_ok (a b:Wide):Tells P 229 [.val wideT a,.val wideT b] (.tup2 (.val wideT (addW a b)) (.val boolT (addOk a b))):=by
 refine zc Tryz.func229 rfl rfl rfl (fun ext w hext=>?_)
 refine qa6 ?_;refine qaB ?_;refine qar ?_;refine qba ?_;refine qba ?_;refine A0 (oCl (carryAdd_ok a b) rfl fn_274 ⟨(zd rfl),(zd rfl),(by first|exact zcH (Cs:=[]) rfl fn_275 (by intro n hn;cases hn) trivial rfl (fun x=>no_contract_of_math_bits_Add64)|exact zcG (Cs:=[]) rfl fn_275 (by intro n hn;cases hn) trivial rfl (fun x y=>no_contract_of_math_bits_Add64)|exact zcI rfl),trivial⟩) ?_;refine A0 (by first|exact zN rfl rfl|exact zM rfl rfl) ?_;refine A0 (by first|exact zQ rfl rfl|exact zP rfl rfl) ?_;refine qal ?_;refine qac ?_
 exact zz rfl rfl (zF rfl rfl zam (rfl)) (zaf (za rfl (rfl)))
theorem subW_ok (a b:Wide):Tells P 311 [.val wideT a,.val wideT b] (.tup2 (.val wideT (subW a b)) (.val boolT (subOk a b))):=by
 refine zc Tryz.func311 rfl rfl rfl (fun ext w hext=>?_)
 refine qa6 ?_;refine qaB ?_;refine qar ?_;refine qba ?_;refine qba ?_;refine A0 (oCl (carrySub_ok a b) rfl fn_274 ⟨(zd rfl),(zd rfl),(by first|exact zcH (Cs:=[]) rfl fn_327 (by intro n hn;cases hn) trivial rfl (fun x=>no_contract_of_math_bits_Sub64)|exact zcG (Cs:=[]) rfl fn_327 (by intro n hn;cases hn) trivial rfl (fun x y=>no_contract_of_math_bits_Sub64)|exact zcI rfl),trivial⟩) ?_;refine A0 (by first|exact zN rfl rfl|exact zM rfl rfl) ?_;refine A0 (by first|exact zQ rfl rfl|exact zP rfl rfl) ?_;refine qal ?_;refine qac ?_
 exact zz rfl rfl (zF rfl rfl zam (rfl)) (zaf (za rfl (rfl)))
set_option maxRecDepth 20000
def bitLen (n:Nat):Nat:=if n=0 then 0 else Nat.log2 n+1
theorem bitLen_shift {n s:Nat} (h:2^s≤n):bitLen n=s+bitLen (n/2^s):=by
  have hp:=Nat.two_pow_pos s
  have h1:1≤n/2^s:=(Nat.le_div_iff_mul_le hp).2 (by omega)
  unfold bitLen
  rw [if_neg (by omega),if_neg (by omega)]
  obtain ⟨k,hk⟩:∃k,k=Nat.log2 (n/2^s):=⟨_,rfl⟩
  have h2:=(Nat.log2_eq_iff (n:=n/2^s) (k:=k) (by omega)).1 hk.symm
  have h3:Nat.log2 n=k+s:=by
    rw [Nat.log2_eq_iff (by omega)]
    constructor
    · rw [Nat.pow_add];exact (Nat.le_div_iff_mul_le hp).1 h2.1
    · rw [show k+s+1=k+1+s by omega,Nat.pow_add];exact (Nat.div_lt_iff_lt_mul hp).1 h2.2
  rw [h3,←hk];omega
theorem zeN {n s:Nat} (h:n<2^s):bitLen n≤s:=by
  unfold bitLen
  split
  · omega
  · rename_i h0
    have:=(Nat.log2_lt h0).2 h
    omega
theorem zaF (x:UInt64) {m:Nat} (h:m≤64):(shr64 x m).toNat=x.toNat/2^m:=by
  have hx:x.toNat<18446744073709551616:=x.toNat_lt
  unfold shr64
  rw [UInt64.toNat_ofNat_of_lt' (Nat.lt_of_le_of_lt (Nat.div_le_self _ _) hx),Nat.min_eq_left h]
theorem u8_small {x:UInt64} (h:x.toNat<256):(u8OfI (IntL.toI u64T x)).toNat=x.toNat:=by
  unfold u8OfI
  show (UInt8.ofNat ((x.toNat:Int)%256).toNat).toNat=x.toNat
  rw [UInt8.toNat_ofNat_of_lt' (by show _<256;omega)];omega
theorem len_small {x:UInt64} (h:x.toNat<256):IntL.toI u8T (UInt8.ofNat (bitLen (u8OfI (IntL.toI u64T x)).toNat))=bitLen x.toNat:=by
  have:=zeN (s:=8) (n:=x.toNat) (by omega)
  rw [u8_small h]
  show ((UInt8.ofNat (bitLen x.toNat)).toNat:Int)=_
  rw [UInt8.toNat_ofNat_of_lt' (by show _<256;omega)]
theorem len_fin {x y:UInt64} {b:Int} {s:Nat} (hy:y.toNat<256) (hx:bitLen x.toNat=s+bitLen y.toNat) (hs:s≤64) (hb:b=(s:Int)):IntKind.i64.wrap (b+IntKind.i64.wrap (IntL.toI u8T (UInt8.ofNat (bitLen (u8OfI (IntL.toI u64T y)).toNat))))=(bitLen x.toNat:Nat):=by
  have:=zeN (s:=8) (n:=y.toNat) (by omega)
  rw [len_small hy,zaa (n:=((bitLen y.toNat:Nat):Int)) (by omega),zaa (by omega),hx,hb];omega
theorem zcd {x:UInt64} {s:Nat} (hs:s≤64) (h:2^s≤x.toNat):bitLen x.toNat=s+bitLen (shr64 x s).toNat:=by
  rw [zaF x hs];exact bitLen_shift h
theorem len64_ok (x:UInt64):Tells P 215 [.val u64T x] (.val i64T (bitLen x.toNat:Nat)):=by
 refine zc Tryz.func215 rfl rfl rfl (fun ext w hext=>?_)
 refine CQR ?_;refine qai ?_;refine qbK ?_;refine zr (p:=4294967296≤(x).toNat) rfl (by rw [decide_eq_decide];show (4294967296:Int)≤((x).toNat:Int)↔_;omega) (fun ht4=>?_) (fun ht4=>?_)
 ·
  refine qa1 ?_;refine A0 (zbg rfl rfl rfl (by first|decide|(simp [IntL.toI];done)|(simp [IntL.toI];omega)) rfl) ?_;refine qbG ?_;refine qai ?_;refine qbK ?_;refine zr (p:=65536≤(shr64 x 32).toNat) rfl (by rw [decide_eq_decide];show (65536:Int)≤((shr64 x 32).toNat:Int)↔_;omega) (fun ht8=>?_) (fun ht8=>?_)
  ·
   refine qa1 ?_;refine A0 (zbg rfl rfl rfl (by first|decide|(simp [IntL.toI];done)|(simp [IntL.toI];omega)) rfl) ?_;refine qbG ?_;refine qaY ?_;refine qai ?_;refine qbK ?_;refine zr (p:=256≤(shr64 (shr64 x 32) 16).toNat) rfl (by rw [decide_eq_decide];show (256:Int)≤((shr64 (shr64 x 32) 16).toNat:Int)↔_;omega) (fun ht14=>?_) (fun ht14=>?_)
   ·
    refine qa1 ?_;refine A0 (zbg rfl rfl rfl (by first|decide|(simp [IntL.toI];done)|(simp [IntL.toI];omega)) rfl) ?_;refine qbG ?_;refine qaY ?_;refine qad ?_;refine qaw ?_;refine A0 (zew rfl (ui_5) (us_47) rfl) ?_;refine A0 (zco (fun n=>UInt8.ofNat (bitLen n)) rfl rfl st_9 (by decide +kernel)) ?_;refine A0 (zev rfl (ui_3) (us_5) rfl (by first|exact zaa (by omega)|rfl)) ?_;refine A0 zby ?_;refine qac ?_
    exact zb rfl rfl (za rfl (len_fin (y:=shr64 (shr64 (shr64 x 32) 16) 8) (s:=56) (by have hlt:x.toNat<18446744073709551616:=x.toNat_lt;(try simp only [zaF _ (show 32≤64 by decide),zaF _ (show 16≤64 by decide),zaF _ (show 8≤64 by decide)] at *);omega) (by rw [zcd (s:=32) (by decide) ht4,zcd (s:=16) (by decide) ht8,zcd (s:=8) (by decide) ht14];omega) (by decide) (by rfl)))
   ·
    refine CSQR ?_;refine qak ?_;refine A0 (zew rfl (ui_5) (us_47) rfl) ?_;refine A0 (zco (fun n=>UInt8.ofNat (bitLen n)) rfl rfl st_9 (by decide +kernel)) ?_;refine A0 (zev rfl (ui_3) (us_5) rfl (by first|exact zaa (by omega)|rfl)) ?_;refine A0 zby ?_;refine qac ?_
    exact zb rfl rfl (za rfl (len_fin (y:=shr64 (shr64 x 32) 16) (s:=48) (by have hlt:x.toNat<18446744073709551616:=x.toNat_lt;(try simp only [zaF _ (show 32≤64 by decide),zaF _ (show 16≤64 by decide),zaF _ (show 8≤64 by decide)] at *);omega) (by rw [zcd (s:=32) (by decide) ht4,zcd (s:=16) (by decide) ht8];omega) (by decide) (by rfl)))
  ·
   refine qbv ?_;refine qbK ?_;refine zr (p:=256≤(shr64 x 32).toNat) rfl (by rw [decide_eq_decide];show (256:Int)≤((shr64 x 32).toNat:Int)↔_;omega) (fun ht14=>?_) (fun ht14=>?_)
   ·
    refine qa1 ?_;refine A0 (zbg rfl rfl rfl (by first|decide|(simp [IntL.toI];done)|(simp [IntL.toI];omega)) rfl) ?_;refine qbG ?_;refine qaY ?_;refine qad ?_;refine qaw ?_;refine A0 (zew rfl (ui_5) (us_47) rfl) ?_;refine A0 (zco (fun n=>UInt8.ofNat (bitLen n)) rfl rfl st_9 (by decide +kernel)) ?_;refine A0 (zev rfl (ui_3) (us_5) rfl (by first|exact zaa (by omega)|rfl)) ?_;refine A0 zby ?_;refine qac ?_
    exact zb rfl rfl (za rfl (len_fin (y:=shr64 (shr64 x 32) 8) (s:=40) (by have hlt:x.toNat<18446744073709551616:=x.toNat_lt;(try simp only [zaF _ (show 32≤64 by decide),zaF _ (show 16≤64 by decide),zaF _ (show 8≤64 by decide)] at *);omega) (by rw [zcd (s:=32) (by decide) ht4,zcd (s:=8) (by decide) ht14];omega) (by decide) (by rfl)))
   ·
    refine CSQR ?_;refine qak ?_;refine A0 (zew rfl (ui_5) (us_47) rfl) ?_;refine A0 (zco (fun n=>UInt8.ofNat (bitLen n)) rfl rfl st_9 (by decide +kernel)) ?_;refine A0 (zev rfl (ui_3) (us_5) rfl (by first|exact zaa (by omega)|rfl)) ?_;refine A0 zby ?_;refine qac ?_
    exact zb rfl rfl (za rfl (len_fin (y:=shr64 x 32) (s:=32) (by have hlt:x.toNat<18446744073709551616:=x.toNat_lt;(try simp only [zaF _ (show 32≤64 by decide),zaF _ (show 16≤64 by decide),zaF _ (show 8≤64 by decide)] at *);omega) (zcd (s:=32) (by decide) ht4) (by decide) (by rfl)))
 ·
  refine qbv ?_;refine qbK ?_;refine zr (p:=65536≤(x).toNat) rfl (by rw [decide_eq_decide];show (65536:Int)≤((x).toNat:Int)↔_;omega) (fun ht8=>?_) (fun ht8=>?_)
  ·
   refine qa1 ?_;refine A0 (zbg rfl rfl rfl (by first|decide|(simp [IntL.toI];done)|(simp [IntL.toI];omega)) rfl) ?_;refine qbG ?_;refine qaY ?_;refine qai ?_;refine qbK ?_;refine zr (p:=256≤(shr64 x 16).toNat) rfl (by rw [decide_eq_decide];show (256:Int)≤((shr64 x 16).toNat:Int)↔_;omega) (fun ht14=>?_) (fun ht14=>?_)
   ·
    refine qa1 ?_;refine A0 (zbg rfl rfl rfl (by first|decide|(simp [IntL.toI];done)|(simp [IntL.toI];omega)) rfl) ?_;refine qbG ?_;refine qaY ?_;refine qad ?_;refine qaw ?_;refine A0 (zew rfl (ui_5) (us_47) rfl) ?_;refine A0 (zco (fun n=>UInt8.ofNat (bitLen n)) rfl rfl st_9 (by decide +kernel)) ?_;refine A0 (zev rfl (ui_3) (us_5) rfl (by first|exact zaa (by omega)|rfl)) ?_;refine A0 zby ?_;refine qac ?_
    exact zb rfl rfl (za rfl (len_fin (y:=shr64 (shr64 x 16) 8) (s:=24) (by have hlt:x.toNat<18446744073709551616:=x.toNat_lt;(try simp only [zaF _ (show 32≤64 by decide),zaF _ (show 16≤64 by decide),zaF _ (show 8≤64 by decide)] at *);omega) (by rw [zcd (s:=16) (by decide) ht8,zcd (s:=8) (by decide) ht14];omega) (by decide) (by rfl)))
   ·
    refine CSQR ?_;refine qak ?_;refine A0 (zew rfl (ui_5) (us_47) rfl) ?_;refine A0 (zco (fun n=>UInt8.ofNat (bitLen n)) rfl rfl st_9 (by decide +kernel)) ?_;refine A0 (zev rfl (ui_3) (us_5) rfl (by first|exact zaa (by omega)|rfl)) ?_;refine A0 zby ?_;refine qac ?_
    exact zb rfl rfl (za rfl (len_fin (y:=shr64 x 16) (s:=16) (by have hlt:x.toNat<18446744073709551616:=x.toNat_lt;(try simp only [zaF _ (show 32≤64 by decide),zaF _ (show 16≤64 by decide),zaF _ (show 8≤64 by decide)] at *);omega) (zcd (s:=16) (by decide) ht8) (by decide) (by rfl)))
  ·
   refine qbv ?_;refine qbK ?_;refine zr (p:=256≤(x).toNat) rfl (by rw [decide_eq_decide];show (256:Int)≤((x).toNat:Int)↔_;omega) (fun ht14=>?_) (fun ht14=>?_)
   ·
    refine qa1 ?_;refine A0 (zbg rfl rfl rfl (by first|decide|(simp [IntL.toI];done)|(simp [IntL.toI];omega)) rfl) ?_;refine qbG ?_;refine qaY ?_;refine qad ?_;refine qaw ?_;refine A0 (zew rfl (ui_5) (us_47) rfl) ?_;refine A0 (zco (fun n=>UInt8.ofNat (bitLen n)) rfl rfl st_9 (by decide +kernel)) ?_;refine A0 (zev rfl (ui_3) (us_5) rfl (by first|exact zaa (by omega)|rfl)) ?_;refine A0 zby ?_;refine qac ?_
    exact zb rfl rfl (za rfl (len_fin (y:=shr64 x 8) (s:=8) (by have hlt:x.toNat<18446744073709551616:=x.toNat_lt;(try simp only [zaF _ (show 32≤64 by decide),zaF _ (show 16≤64 by decide),zaF _ (show 8≤64 by decide)] at *);omega) (zcd (s:=8) (by decide) ht14) (by decide) (by rfl)))
   ·
    refine CSQR ?_;refine qak ?_;refine A0 (zew rfl (ui_5) (us_47) rfl) ?_;refine A0 (zco (fun n=>UInt8.ofNat (bitLen n)) rfl rfl st_9 (by decide +kernel)) ?_;refine A0 (zev rfl (ui_3) (us_5) rfl (by first|exact zaa (by omega)|rfl)) ?_;refine A0 zby ?_;refine qac ?_
    exact zb rfl rfl (za rfl (len_fin (y:=x) (s:=0) (by have hlt:x.toNat<18446744073709551616:=x.toNat_lt;(try simp only [zaF _ (show 32≤64 by decide),zaF _ (show 16≤64 by decide),zaF _ (show 8≤64 by decide)] at *);omega) ((Nat.zero_add _).symm) (by decide) (by rfl)))
theorem lenU_ok (x:UInt64):Tells P 155 [.val u64T x] (.val i64T (bitLen x.toNat:Nat)):=by
 refine zc Tryz.func155 rfl rfl rfl (fun ext w hext=>?_)
 refine CQR ?_;refine qaL ?_;refine Cg ?_;refine qbF ?_;refine A0 (oCl (len64_ok _) rfl fn_215 ⟨(zd rfl),trivial⟩) ?_;refine qac ?_
 exact zb rfl rfl (za rfl rfl)
set_option maxRecDepth 20000
def longN (a:Wide):Nat→Nat
  | 0=>0
  | k+1=>if 0<(a.getD k default).toNat then k*64+bitLen (a.getD k default).toNat else longN a k
def longW (a:Wide):Nat:=longN a 4
theorem longN_yes {a:Wide} {k:Nat} (hk:0<k) (h:0<(a.getD (k-1) default).toNat):longN a k=(k-1)*64+bitLen (a.getD (k-1) default).toNat:=by
  obtain ⟨j,rfl⟩:∃j,k=j+1:=⟨k-1,by omega⟩
  rw [Nat.add_sub_cancel] at *
  rw [longN,if_pos h]
theorem longN_no {a:Wide} {k:Nat} (hk:0<k) (h:¬0<(a.getD (k-1) default).toNat):longN a k=longN a (k-1):=by
  obtain ⟨j,rfl⟩:∃j,k=j+1:=⟨k-1,by omega⟩
  rw [Nat.add_sub_cancel] at *
  rw [longN,if_neg h]
theorem longN_le (a:Wide):∀k,longN a k≤k*64
  | 0=>Nat.le_refl _
  | k+1=>by
    have:=longN_le a k
    have hb:=zeN (s:=64) (n:=(a.getD k default).toNat) (UInt64.toNat_lt _)
    rw [longN]
    split<;>omega
theorem longW_le (a:Wide):longW a≤256:=longN_le a 4
theorem bitLen_pos {n:Nat} (h:0<n):1≤bitLen n:=by unfold bitLen;rw [if_neg (by omega)];omega
theorem longW_pos {a:Wide} (hl:a.length=4) (h:a≠zWide):1≤longW a:=by
  match a,hl with
  | [a0,a1,a2,a3],_ =>
    unfold longW
    simp only [longN,List.getD_cons_succ,List.getD_cons_zero]
    have hp:∀x:UInt64,0<x.toNat→1≤bitLen x.toNat:=fun x hx=>bitLen_pos hx
    have hz:∀x:UInt64,¬0<x.toNat→x=0:=fun x hx=>UInt64.toNat_inj.1 (by simp;omega)
    split
    · have:=hp _ ‹_›;omega
    · split
      · have:=hp _ ‹_›;omega
      · split
        · have:=hp _ ‹_›;omega
        · split
          · have:=hp _ ‹_›;omega
          · exact absurd (by rw [hz a0 ‹_›,hz a1 ‹_›,hz a2 ‹_›,hz a3 ‹_›];rfl) h
def orBit (out:Wide) (n:Nat):Wide:=out.set (n/64) (out.getD (n/64) default|||shl64 1 (n%64))
def divStep (b:Wide) (x:Wide×Wide) (n:Nat):Wide×Wide:=if subOk x.1 (upW b n)=true then (subW x.1 (upW b n),orBit x.2 n) else x
def divN (b:Wide):Nat→Wide×Wide→Wide×Wide
  | 0,x=>x
  | n+1,x=>divN b n (divStep b x n)
theorem divN_at {b:Wide} {n:Int} (h:0≤n) (x:Wide×Wide):divN b (n+1).toNat x=divN b (n-1+1).toNat (divStep b x n.toNat):=by
  rw [show (n+1).toNat=n.toNat+1 by omega,show (n-1+1).toNat=n.toNat by omega,divN]
def divP (a b:Wide):Wide×Wide:=if b=zWide then (zWide,zWide) else ((divN b (longW a+1-longW b) (a,zWide)).2,(divN b (longW a+1-longW b) (a,zWide)).1)
def divW (a b:Wide):Wide:=(divP a b).1
def remW (a b:Wide):Wide:=(divP a b).2
def divOk (b:Wide):Bool:=decide (b≠zWide)
theorem longW_ok (a:Wide):Tells P 310 [.val wideT a] (.val i64T (longW a:Nat)):=by
 refine zc Tryz.func310 rfl rfl rfl (fun ext w hext=>?_)
 refine ze (d:=0) rfl zdg (fun ha=>?_)
 refine qaf ?_;refine qbu ?_;refine Lp (ι:=Nat) 1 (fun (k:Nat)=>((Fr.none).set 1 (.ptr 0 0)).set 3 (.val i64T ((k:Int)-1))) (fun (k:Nat)=>(Hp.none).set 0 (.box 49 wideT a)) (fun (k:Nat)=>k≤4∧longW a=longN a k) (fun (k:Nat)=>k) (4) (⟨Nat.le_refl _,rfl⟩) ?_
 intro k hinv
 refine qbb ?_;refine qbK ?_;refine Cf (p:=0<k) (fun ht5=>?_) (fun ht5=>?_)
 ·
  refine qaP ?_;refine A0 (zJ (i:=k-1) rfl rfl rfl (by first|omega|rfl) za1 (by omega)) ?_;refine A0 (zq rfl rfl rfl (Lens.elem (i:=k-1) (by omega) u64T) zbi) ?_;refine A0 zaI ?_;refine CN ?_;refine zr (p:=0<(a.getD (k-1) default).toNat) rfl (by rw [decide_eq_decide];show (0:Int)<((a.getD (k-1) default).toNat:Int)↔_;omega) (fun ht11=>?_) (fun ht11=>?_)
  ·
   have hb:=zeN (s:=64) (n:=(a.getD (k-1) default).toNat) (UInt64.toNat_lt _)
   refine qa1 ?_;refine A0 o_mul ?_;refine qaw ?_;refine A0 (zJ (i:=k-1) rfl rfl rfl (by first|omega|rfl) za1 (by omega)) ?_;refine A0 (zq rfl rfl rfl (Lens.elem (i:=k-1) (by omega) u64T) zbi) ?_;refine A0 (oCl (len64_ok _) rfl fn_215 ⟨(zd rfl),trivial⟩) ?_;refine A0 zby ?_;refine qac ?_
   exact zb rfl rfl (za rfl (by rw [hinv.2,longN_yes ht5 ht11];omega))
  ·
   refine CSIR ?_;refine qbA ?_;refine qac ?_;refine zi (d:=3) (y:=((k-1:Nat):Int)-1) rfl (by omega) ?_
   exact Nx (k-1) (⟨by omega,by rw [hinv.2,longN_no ht5 ht11]⟩) (by omega)
 ·
  obtain rfl:k=0:=(by omega)
  refine CE ?_;refine qa5 ?_
  exact zb rfl rfl (za rfl (by rw [hinv.2];rfl))
theorem divW_ok (a b:Wide):Tells P 276 [.val wideT a,.val wideT b] (.tup3 (.val wideT (divW a b)) (.val wideT (remW a b)) (.val boolT (divOk b))):=by
 refine zc Tryz.func276 rfl rfl rfl (fun ext w hext=>?_)
 refine ze (d:=0) rfl zdg (fun ha=>?_)
 refine ze (d:=1) rfl zdg (fun hb=>?_)
 refine qa6 ?_;refine qaB ?_;refine qaB ?_;refine A0 aV ?_;refine CNQQR ?_;refine qba ?_;refine A0 (zcf rfl za1 ze_49 rfl) ?_;refine A0 (g_eqlS rfl rfl rfl (eqt_49)) ?_;refine CN ?_;refine zr (p:=b=zWide) rfl (by simp) (fun ht13=>?_) (fun ht13=>?_)
 ·
  refine CQR ?_;refine A0 (zcf rfl za1 ze_49 rfl) ?_;refine A0 (zcf rfl za1 ze_49 rfl) ?_;refine qal ?_;refine qal ?_;refine qac ?_
  exact aw_retr3 rfl rfl (zF rfl rfl zam (by unfold divW divP;rw [if_pos ht13])) (zF rfl rfl zam (by unfold remW divP;rw [if_pos ht13])) (zaf (za rfl (by unfold divOk;symm;exact decide_eq_false (fun h=>h ht13))))
 ·
  have hz:=longW_pos hb ht13
  have hla:=longW_le a
  have hlb:=longW_le b
  refine CSQR ?_;refine qaB ?_;refine CNQ ?_;refine qbc ?_;refine G0 (oLs rfl rfl rfl zam) ?_;refine G0 (oCl (longW_ok _) rfl fn_310 ⟨(zd rfl),trivial⟩) ?_;refine G0 (oLs rfl rfl rfl zam) ?_;refine G0 (oCl (longW_ok _) rfl fn_310 ⟨(zd rfl),trivial⟩) ?_;refine G0 zaT ?_;refine qbn ?_;refine CB ?_
  refine Lp (ι:=Int×Wide×Wide) 5 (fun (i:Int×Wide×Wide)=>match i with|(n,x)=>((((((Fr.none).set 2 (.ptr 0 0)).set 3 (.ptr 1 0)).set 4 (.ptr 2 0)).set 5 (.ptr 3 0)).set 7 (.ptr 4 0)).set 8 (.val i64T n)) (fun (i:Int×Wide×Wide)=>match i with|(n,x)=>(((((Hp.none).set 0 (.box 49 wideT x.1)).set 1 (.box 49 wideT b)).set 2 (.box 49 wideT zWide)).set 3 (.box 49 wideT zWide)).set 4 (.box 49 wideT x.2)) (fun (i:Int×Wide×Wide)=>match i with|(n,x)=>n≤255∧-256≤n∧x.2.length=4∧divN b (n+1).toNat x=divN b (longW a+1-longW b) (a,zWide)) (fun (i:Int×Wide×Wide)=>match i with|(n,x)=>(n+1).toNat) (((longW a:Int)-(longW b:Int),a,zWide)) (⟨by omega,by omega,rfl,by rw [show ((longW a:Int)-(longW b:Int)+1).toNat=longW a+1-longW b by omega]⟩) ?_
  intro ⟨n,x⟩ hinv
  dsimp only at hinv
  refine qbb ?_;refine qbK ?_;refine Cf (p:=0≤n) (fun ht22=>?_) (fun ht22=>?_)
  ·
   refine CS ?_;refine CQ ?_;refine CB ?_;refine CQ ?_;refine zE [some 1000001,some 1000001,some 1000001,some 1000001,some 1000001,some 1000001,some 1000001,some 1000001,none,none,some 1] mixed (by decide +kernel) ?_;refine XK.gf (t:=2) rfl rfl (fun _ he=>zq rfl rfl he (Lens.self _) zam) ⟨rfl,trivial⟩ rfl rfl rfl ?_;refine XK.gf (t:=3) rfl rfl (fun _ he=>zq rfl rfl he (Lens.self _) zam) ⟨rfl,trivial⟩ rfl rfl rfl ?_;refine XK.ga (fun _=>g_mv (.inl rfl) rfl) rfl rfl rfl ?_;refine XK.ga (fun _=>zeo (upW_ok _ _) rfl fn_157 ⟨(zd rfl),(zd rfl),trivial⟩ rfl) rfl rfl rfl ?_
   refine XK.ga (fun _=>zeo (subW_ok _ _) rfl fn_311 ⟨(zd rfl),(zd rfl),trivial⟩ rfl) rfl rfl rfl ?_;refine XK.ga (fun _=>by first|exact g_mv (.inl rfl) rfl|exact g_mp (.inl rfl) rfl|exact g_mo (.inl rfl) rfl|exact g_ml (.inl rfl) rfl|exact g_mc (.inl rfl) rfl|exact g_mr (.inl rfl) rfl|exact g_mf1 (.inl rfl) rfl|exact g_mf2 (.inl rfl) rfl|exact g_mw (.inl rfl) rfl|exact g_me (.inl rfl) rfl|exact g_ms (.inl rfl) rfl|exact zdd (.inl rfl) rfl|exact zdc (.inl rfl) rfl|exact g_mi (.inl rfl) rfl) rfl rfl rfl ?_
   refine XK.ga (fun _=>by first|exact zN rfl rfl|exact zM rfl rfl) rfl rfl rfl ?_;refine XK.ga (fun _=>by first|exact zQ rfl rfl|exact zP rfl rfl) rfl rfl rfl ?_;refine XK.e (fun fr' hfr kk H=>by exact zw ze_49 rfl rfl rfl rfl (zK H)) ?_;refine XK.e (x:=.idk) (fun fr' hfr kk H=>by exact zh rfl rfl rfl ((hfr 9 (by decide +kernel)).trans rfl) rfl (Lens.self _) zam ((hfr 31 (by decide +kernel)).trans rfl) (zK H)) ?_;refine X0 aV ?_;refine XK.nilp ⟨⟨rfl,rfl,trivial⟩,⟨rfl,rfl,trivial⟩,trivial⟩ ?_;refine qa1 ?_;refine CN ?_
   refine zr (p:=subOk x.1 (upW b n)=true) rfl (by simp) (fun ht33=>?_) (fun ht33=>?_)
   ·
    refine qbB ?_;refine zE [some 1,some 1,some 1,some 1,some 1,some 1,some 1,some 1,some 1,none] mixed (by decide +kernel) ?_;refine X0 mV ?_;refine X0 (g_quo rfl rfl rfl (by first|omega|assumption) (by first|decide|omega) rfl) ?_;refine X0 (zJ (i:=n.toNat/64) rfl rfl rfl (by first|omega|rfl) za1 (by omega)) ?_;refine X0 (zq rfl rfl rfl (Lens.elem (i:=n.toNat/64) (by omega) u64T) zbi) ?_;refine X0 mV ?_;refine X0 (g_rem rfl rfl rfl (by first|omega|assumption) (by first|decide|omega) rfl) ?_
    refine X0 (g_shl64 rfl rfl rfl (by first|decide|(simp [IntL.toI];done)|(simp [IntL.toI];omega)) rfl) ?_;refine X0 (g_or64 rfl rfl rfl) ?_;refine X0 (zJ (i:=n.toNat/64) rfl rfl rfl (by first|omega|rfl) za1 (by omega)) ?_;refine XK.e (x:=.idk) (fun fr' hfr kk H=>by exact zh rfl rfl rfl ((hfr 43 (by decide +kernel)).trans rfl) rfl (Lens.elem (i:=n.toNat/64) (by omega) u64T) zbi ((hfr 42 (by decide +kernel)).trans rfl) (zK H)) ?_;refine XK.nil' ?_;refine CI ?_;refine CR ?_;refine qbA ?_;refine qac ?_
    refine zS (n:=4) (y:=orBit x.2 n.toNat) rfl (by unfold orBit;rw [show (IntL.toI i64T (n%64)).toNat=n.toNat%64 by simp only [IntL.toI,id_eq];omega];rfl) ?_
    exact Nx ((n-1,subW x.1 (upW b n),orBit x.2 n.toNat)) (by first|exact ⟨by omega,by omega,by unfold orBit;rw [List.length_set];exact hinv.2.2.1,by rw [←hinv.2.2.2,divN_at ht22];unfold divStep;rw [show ((n.toNat:Nat):Int)=n by omega,if_pos ht33]⟩|exact ⟨by omega,by omega,hinv.2.2.1,by rw [←hinv.2.2.2,divN_at ht22];unfold divStep;rw [show ((n.toNat:Nat):Int)=n by omega,if_neg ht33]⟩) (by show (n-1+1).toNat<(n+1).toNat;omega)
   ·
    refine CSIR ?_;refine qbA ?_;refine qac ?_
    exact Nx ((n-1,x)) (by first|exact ⟨by omega,by omega,by unfold orBit;rw [List.length_set];exact hinv.2.2.1,by rw [←hinv.2.2.2,divN_at ht22];unfold divStep;rw [show ((n.toNat:Nat):Int)=n by omega,if_pos ht33]⟩|exact ⟨by omega,by omega,hinv.2.2.1,by rw [←hinv.2.2.2,divN_at ht22];unfold divStep;rw [show ((n.toNat:Nat):Int)=n by omega,if_neg ht33]⟩) (by show (n-1+1).toNat<(n+1).toNat;omega)
  ·
   refine CE ?_;refine CQ ?_;refine zE [some 1,some 1000001,none,none,some 1] mixed (by decide +kernel) ?_;refine X0 (oLs rfl rfl rfl zam) ?_;refine XK.gf (t:=2) rfl rfl (fun _ he=>zq rfl rfl he (Lens.self _) zam) ⟨rfl,trivial⟩ rfl rfl rfl ?_;refine XK.e (x:=.idk) (fun fr' hfr kk H=>by exact zh rfl rfl rfl ((hfr 4 (by decide +kernel)).trans rfl) rfl (Lens.self _) zam ((hfr 44 (by decide +kernel)).trans rfl) (zK H)) ?_
   refine XK.e (x:=.idk) (fun fr' hfr kk H=>by exact zh rfl rfl rfl ((hfr 5 (by decide +kernel)).trans rfl) rfl (Lens.self _) zam ((hfr 45 (by decide +kernel)).trans rfl) (zK H)) ?_;refine X0 aV ?_;refine XK.nilp ⟨⟨rfl,rfl,trivial⟩,trivial⟩ ?_
   exact aw_retr3 rfl rfl (zF rfl rfl zam (by unfold divW divP;rw [if_neg ht13,←hinv.2.2.2,show (n+1).toNat=0 by omega];rfl)) (zF rfl rfl zam (by unfold remW divP;rw [if_neg ht13,←hinv.2.2.2,show (n+1).toNat=0 by omega];rfl)) (zaf (za rfl (by unfold divOk;symm;exact decide_eq_true ht13)))
set_option maxRecDepth 20000
def searchN (f:Int→Bool) (lo hi:Nat):Nat :=
  if h:lo<hi then (if f (((lo+hi)/2:Nat):Int)=true then searchN f lo ((lo+hi)/2) else searchN f ((lo+hi)/2+1) hi) else lo
termination_by hi-lo
theorem search_no {f:Int→Bool} {lo hi:Nat} (h:lo<hi) (hf:¬f (((lo+hi)/2:Nat):Int)=true):searchN f lo hi=searchN f ((lo+hi)/2+1) hi:=by
  rw [searchN,dif_pos h,if_neg hf]
theorem search_yes {f:Int→Bool} {lo hi:Nat} (h:lo<hi) (hf:f (((lo+hi)/2:Nat):Int)=true):searchN f lo hi=searchN f lo ((lo+hi)/2):=by
  conv=>lhs;rw [searchN,dif_pos h,if_pos hf]
theorem search_end {f:Int→Bool} {lo:Nat}:searchN f lo lo=lo:=by rw [searchN,dif_neg (Nat.lt_irrefl _)]
def levelF (n t:Wide) (k:Int):Bool:=decide (0<cmpW n (downW t k))
def levelW (id:Ab.Id) (t:Wide):Int:=(searchN (levelF (of32W id) t) 0 32:Nat)-1
theorem search_le {f:Int→Bool} (lo hi:Nat) (h:lo≤hi):searchN f lo hi≤hi:=by
  rw [searchN]
  split
  · split
    · have:=search_le (f:=f) lo ((lo+hi)/2) (by omega);omega
    · exact search_le _ _ (by omega)
  · exact h
termination_by hi-lo
theorem search_ok (n:Nat) (f:Int→Bool) (hn:n<4611686018427387904):Tells P 219 [.val i64T (n:Int),.fn1 P i64T boolT f] (.val i64T (searchN f 0 n:Nat)):=by
 refine zc Tryz.func219 rfl rfl rfl (fun ext w hext=>?_)
 refine ze (d:=0) rfl zn (fun hin0=>?_)
 refine qbI ?_;refine A0 aV ?_;refine qaL ?_;refine CB ?_;refine Lp (ι:=Nat×Nat) 0 (fun (i:Nat×Nat)=>match i with|(lo,hi)=>(((Fr.none).set 1 (.fn1 P i64T boolT f)).set 5 (.val i64T (lo:Int))).set 6 (.val i64T (hi:Int))) (fun (i:Nat×Nat)=>match i with|(lo,hi)=>Hp.none) (fun (i:Nat×Nat)=>match i with|(lo,hi)=>lo≤hi∧hi≤n∧searchN f 0 n=searchN f lo hi) (fun (i:Nat×Nat)=>match i with|(lo,hi)=>hi-lo) ((0,n)) (⟨Nat.zero_le _,Nat.le_refl _,rfl⟩) ?_
 intro ⟨lo,hi⟩ hinv
 dsimp only at hinv
 refine CQQR ?_;refine qak ?_;refine qaG ?_;refine Cf (p:=lo<hi) (fun ht11=>?_) (fun ht11=>?_)
 ·
  refine CS ?_;refine CB ?_;refine CQR ?_;refine qak ?_;refine A0 zby ?_;refine A0 (zdH rfl (ui_135) (us_3) rfl) ?_;refine A0 (zbg rfl rfl rfl (by first|decide|(simp [IntL.toI];done)|(simp [IntL.toI];omega)) rfl) ?_;refine A0 (zev rfl (ui_3) (us_135) rfl (mid_eq (by omega))) ?_;refine qar ?_;refine A0 mF ?_;refine qaw ?_;refine A0 (ze8 rfl rfl (zd rfl)) ?_;refine qaN ?_;refine zr (p:=¬f (((lo+hi)/2:Nat):Int)=true) rfl (by simp) (fun ht21=>?_) (fun ht21=>?_)
  ·
   refine CR ?_;refine qaY ?_;refine qac ?_;refine CI ?_
   exact Nx (((lo+hi)/2+1,hi)) (by first|exact ⟨by omega,by omega,hinv.2.2.trans (search_no ht11 ht21)⟩|exact ⟨by omega,by omega,hinv.2.2.trans (search_yes ht11 (Classical.not_not.1 ht21))⟩) (by show _<hi-lo;simp only [];omega)
  ·
   refine CR ?_;refine qaw ?_;refine qac ?_;refine CI ?_
   exact Nx ((lo,(lo+hi)/2)) (by first|exact ⟨by omega,by omega,hinv.2.2.trans (search_no ht11 ht21)⟩|exact ⟨by omega,by omega,hinv.2.2.trans (search_yes ht11 (Classical.not_not.1 ht21))⟩) (by show _<hi-lo;simp only [];omega)
 ·
  obtain rfl:hi=lo:=(by omega)
  refine CE ?_;refine qbg ?_
  exact zb rfl rfl (za rfl (by rw [hinv.2.2,search_end]))
theorem level1_ok (n t:Wide) (k:Int):Tells P 216 [.val i64T k,.rptr wideT n,.rptr wideT t] (.val boolT (levelF n t k)):=by
 refine zc Tryz.func216 rfl rfl rfl (fun ext w hext=>?_)
 refine ze (d:=0) rfl zn (fun hin0=>?_)
 refine CQR ?_;refine qbN ?_;refine G0 (zg rfl rfl zam) ?_;refine G0 (zg rfl rfl zam) ?_;refine G0 mV ?_;refine G0 (oCl (downW_ok _ _) rfl fn_218 ⟨(zd rfl),(zd rfl),trivial⟩) ?_;refine G0 (oCl (cmpW_ok _ _) rfl fn_217 ⟨(zd rfl),(zd rfl),trivial⟩) ?_;refine G0 zaI ?_;refine qbn ?_
 exact zb rfl rfl (za rfl rfl)
theorem levelW_ok (id:Ab.Id) (t:Wide):Tells P 156 [.val idT id,.val wideT t] (.val i64T (levelW id t)):=by
 refine zc Tryz.func156 rfl rfl rfl (fun ext w hext=>?_)
 have hsl:=search_le (f:=levelF (of32W id) t) 0 32 (by decide)
 refine qa6 ?_;refine qar ?_;refine A0 (oLs rfl rfl rfl zI) ?_;refine A0 (oCl (of32W_ok _) rfl fn_150 ⟨(zd rfl),trivial⟩) ?_;refine qaB ?_;refine qal ?_;refine CNQR ?_;refine A0 (g_mkf (caps:=[_,_]) rfl rfl) ?_;refine A0 aC ?_;refine CNQR ?_;refine A0 mC ?_
 refine A0 (oCl (search_ok 32 (levelF (of32W id) t) (by decide)) rfl fn_219 ⟨(zd rfl),(by first|exact zcH (Cs:=[_,_]) rfl fn_216 (by intro n hn;simp only [List.mem_cons,List.not_mem_nil,or_false] at hn;rcases hn with rfl|rfl<;>exact ⟨_,_,_,_,rfl⟩) ⟨(by exact za5 rfl),(by exact za5 rfl),trivial⟩ rfl (fun x=>level1_ok (of32W id) t x)|exact zcG (Cs:=[_,_]) rfl fn_216 (by intro n hn;simp only [List.mem_cons,List.not_mem_nil,or_false] at hn;rcases hn with rfl|rfl<;>exact ⟨_,_,_,_,rfl⟩) ⟨(by exact za5 rfl),(by exact za5 rfl),trivial⟩ rfl (fun x y=>level1_ok (of32W id) t x)|exact zcI rfl),trivial⟩) ?_
 refine A0 zaT ?_;refine qac ?_
 exact zb rfl rfl (za rfl rfl)
set_option maxRecDepth 20000
def workW (t:Wide):Wide:=if addOk t (ofW 1)=true then addW (divW [~~~ t.getD 0 default,~~~ t.getD 1 default,~~~ t.getD 2 default,~~~ t.getD 3 default] (addW t (ofW 1))) (ofW 1) else ofW 1
theorem workW_ok (t:Wide):Tells P 231 [.val wideT t] (.val wideT (workW t)):=by
 refine zc Tryz.func231 rfl rfl rfl (fun ext w hext=>?_)
 refine ze (d:=0) rfl zdg (fun ha=>?_)
 refine qaf ?_;refine qaB ?_;refine CNQ ?_;refine zE [some 1000001,some 1000001,some 1000001,some 1000001,some 1000001,some 1000001,none,none,some 1] mixed (by decide +kernel) ?_;refine XK.gf (t:=1) rfl rfl (fun _ he=>zq rfl rfl he (Lens.self _) zam) ⟨rfl,trivial⟩ rfl rfl rfl ?_;refine XK.ga (fun _=>zeo (ofW_ok 1) rfl fn_158 ⟨(zd rfl),trivial⟩ rfl) rfl rfl rfl ?_;refine XK.ga (fun _=>zeo (addW_ok _ _) rfl fn_229 ⟨(zd rfl),(zd rfl),trivial⟩ rfl) rfl rfl rfl ?_
 refine XK.ga (fun _=>by first|exact g_mv (.inl rfl) rfl|exact g_mp (.inl rfl) rfl|exact g_mo (.inl rfl) rfl|exact g_ml (.inl rfl) rfl|exact g_mc (.inl rfl) rfl|exact g_mr (.inl rfl) rfl|exact g_mf1 (.inl rfl) rfl|exact g_mf2 (.inl rfl) rfl|exact g_mw (.inl rfl) rfl|exact g_me (.inl rfl) rfl|exact g_ms (.inl rfl) rfl|exact zdd (.inl rfl) rfl|exact zdc (.inl rfl) rfl|exact g_mi (.inl rfl) rfl) rfl rfl rfl ?_;refine XK.ga (fun _=>by first|exact zN rfl rfl|exact zM rfl rfl) rfl rfl rfl ?_;refine XK.ga (fun _=>by first|exact zQ rfl rfl|exact zP rfl rfl) rfl rfl rfl ?_
 refine XK.e (fun fr' hfr kk H=>by exact zw ze_49 rfl rfl rfl rfl (zK H)) ?_;refine XK.e (x:=.idk) (fun fr' hfr kk H=>by exact zh rfl rfl rfl ((hfr 3 (by decide +kernel)).trans rfl) rfl (Lens.self _) zam ((hfr 13 (by decide +kernel)).trans rfl) (zK H)) ?_;refine X0 aV ?_;refine XK.nilp ⟨⟨rfl,rfl,trivial⟩,trivial⟩ ?_;refine qbb ?_;refine qaN ?_;refine zr (p:=¬addOk t (ofW 1)=true) rfl (by cases addOk t (ofW 1)<;>rfl) (fun ht16=>?_) (fun ht16=>?_)
 ·
  refine CQR ?_;refine A0 (oCl (ofW_ok 1) rfl fn_158 ⟨(zd rfl),trivial⟩) ?_;refine qal ?_;refine CN ?_
  exact z6 rfl rfl rfl rfl zam (by unfold workW;rw [if_neg ht16]<;>rfl)
 ·
  refine CSQR ?_;refine A0 (zJ (i:=0) rfl rfl rfl (by first|omega|rfl) za1 (by omega)) ?_;refine A0 (zq rfl rfl rfl (Lens.elem (i:=0) (by omega) u64T) zbi) ?_;refine A0 (g_not64 rfl rfl) ?_;refine A0 (zJ (i:=1) rfl rfl rfl (by first|omega|rfl) za1 (by omega)) ?_;refine A0 (zq rfl rfl rfl (Lens.elem (i:=1) (by omega) u64T) zbi) ?_;refine A0 (g_not64 rfl rfl) ?_;refine A0 (zJ (i:=2) rfl rfl rfl (by first|omega|rfl) za1 (by omega)) ?_;refine A0 (zq rfl rfl rfl (Lens.elem (i:=2) (by omega) u64T) zbi) ?_;refine A0 (g_not64 rfl rfl) ?_
  refine A0 (zJ (i:=3) rfl rfl rfl (by first|omega|rfl) za1 (by omega)) ?_;refine A0 (zq rfl rfl rfl (Lens.elem (i:=3) (by omega) u64T) zbi) ?_;refine A0 (g_not64 rfl rfl) ?_;refine A0 (g_buildA (T:=u64T) (xs:=[_,_,_,_]) rfl za1 ze_49 ⟨rfl,rfl,rfl,rfl,rfl,rfl,rfl,rfl,trivial⟩ rfl) ?_;refine qaB ?_;refine qal ?_;refine CNQR ?_;refine qba ?_;refine qba ?_;refine A0 (oCl (divW_ok _ _) rfl fn_276 ⟨(zd rfl),(zd rfl),trivial⟩) ?_;refine A0 mX ?_;refine A0 (by first|exact zN rfl rfl|exact zM rfl rfl) ?_;refine A0 (by first|exact zQ rfl rfl|exact zP rfl rfl) ?_
  refine A0 e32 ?_;refine qaB ?_;refine qaB ?_;refine qal ?_;refine qal ?_;refine qaL ?_;refine zE [some 1,some 1,some 1,some 1,some 1,some 1000001,none] mixed (by decide +kernel) ?_;refine X0 (oLs rfl rfl rfl zam) ?_;refine X0 (oCl (ofW_ok 1) rfl fn_158 ⟨(zd rfl),trivial⟩) ?_;refine X0 (oCl (addW_ok _ _) rfl fn_229 ⟨(zd rfl),(zd rfl),trivial⟩) ?_;refine X0 mX ?_;refine X0 (by first|exact zN rfl rfl|exact zM rfl rfl) ?_;refine XK.ga (fun _=>by first|exact zQ rfl rfl|exact zP rfl rfl) rfl rfl rfl ?_
  refine XK.e (x:=.idk) (fun fr' hfr kk H=>by exact zh rfl rfl rfl ((hfr 6 (by decide +kernel)).trans rfl) rfl (Lens.self _) zam ((hfr 42 (by decide +kernel)).trans rfl) (zK H)) ?_;refine XK.nil' ?_;refine qbB ?_
  exact z6 rfl rfl rfl rfl zam (by unfold workW;rw [if_pos (Classical.not_not.1 ht16)]<;>rfl)
def hOk (h:Head):Bool:=decide (0≤h.height∧h.height≤1048576)
def putHead (h:Head):List UInt8:=[numBytes (u64OfI (IntL.toI i64T h.height)) 4,h.prev,h.links,h.txs,h.past,bytesW h.work,numBytes (u64OfI (IntL.toI u32T h.bits)) 4,numBytes h.nonce 8].flatten
def headBytes (h:Head):List UInt8:=if hOk h=true then putHead h else []
def headId (h:Head):Ab.Id:=if hOk h=true then shaSum ([5]++putHead h) else zId
def headLevel (h:Head):Int:=if tgtOk h.bits=true∧hOk h=true then (if h.height=0 then 31 else levelW (headId h) (tgtW h.bits)) else -1
def headWork (h:Head):Wide:=if tgtOk h.bits=true then workW (tgtW h.bits) else zWide
def headMay (h:Head):Bool:=!decide (headLevel h = -1)
theorem fact_head {h:Head} {ρ:Nat→Value} {B:Nat→Prop} {U N:Nat→Prop} {w:World} {v:Value} (hv:(AV.val headT h).rel ρ B U N w v):h.prev.length=32∧h.links.length=32∧h.txs.length=32∧h.past.length=32∧h.work.length=4:=by
  obtain ⟨cs,⟨_,_,_,_,_,_,_,h1,_,_,_,h2,_,_,_,h3,_,_,_,h4,_,_,_,h5,_⟩,_⟩:=hv
  exact ⟨h1.1,h2.1,h3.1,h4.1,h5.1⟩
theorem zc1 (a:Wide):(bytesW a).length=32:=by unfold bytesW;simp
theorem hput_ok (h:Head):Tells P 88 [.val headT h] (.tup2 (.fresh 5 u8T (headBytes h)) (.val boolT (hOk h))):=by
 refine zc Tryz.func88 rfl rfl rfl (fun ext w hext=>?_)
 refine ze (d:=0) rfl fact_head (fun hh=>?_)
 obtain ⟨hh1,hh2,hh3,hh4,hh5⟩:=hh
 refine qaf ?_;refine A0 aL ?_;refine A0 aV ?_;refine CNQQR ?_;refine qb3 ?_;refine A0 zbx ?_;refine Sp (d:=7) (p:=h.height<0) (fun g7=>?_) (fun g7=>?_)
 ·
  refine qbJ ?_;refine qat ?_;refine Ct ?_;refine qaZ ?_
  exact zT rfl rfl (by rw [show headBytes h=[] by unfold headBytes hOk;rw [if_neg (by rw [decide_eq_true_eq];omega)]];exact zm rfl) (za rfl (by unfold hOk;symm;apply decide_eq_false;omega))
 ·
  refine qaw ?_;refine A1 (oFp zbh) ?_;refine A1 (oLb zae ty_3) ?_;refine A1 zaI ?_;refine qat ?_;refine Cf (p:=1048576<h.height) (fun ht12=>?_) (fun ht12=>?_)
  ·
   refine qaZ ?_
   exact zT rfl rfl (by rw [show headBytes h=[] by unfold headBytes hOk;rw [if_neg (by rw [decide_eq_true_eq];omega)]];exact zm rfl) (za rfl (by unfold hOk;symm;apply decide_eq_false;omega))
  ·
   refine CSQR ?_;refine A0 (oFp zex) ?_;refine A0 (oLb zfi zam) ?_;refine A0 (oCl (bytesW_ok _) rfl fn_142 ⟨(zd rfl),trivial⟩) ?_;refine qaD ?_;refine zh rfl rfl rfl rfl rfl (Lens.self _) zI rfl ?_;refine CNQ ?_;refine zdm (d:=1) rfl rfl (Lens.self _) ?_;refine zdm (d:=4) rfl rfl (Lens.self _) ?_
   have hbl:=zc1 h.work
   have hn1:=zH (u64OfI (IntL.toI i64T h.height)) 4
   have hn2:=zH (u64OfI (IntL.toI u32T h.bits)) 4
   have hn3:=zH h.nonce 8
   refine zE [some 1,some 1,some 1,some 1,some 1,some 1,some 1,some 1,some 1,some 1,some 1,some 1,some 1,some 1,some 1,some 1,some 1,some 1,some 1,some 1,some 1,none,some 1,some 1] mixed (by decide +kernel) ?_;refine X0 (oFr zbh zae) ?_;refine X0 (zg rfl rfl ty_3) ?_;refine X0 (zdH rfl (ui_47) (us_3) rfl) ?_;refine X0 (g_lend (T:=sl u8T) (S:=bsl u8T) (zeo (zp (zeO _ 4 (by decide))) rfl fn_144 ⟨(zd rfl),(zd rfl),trivial⟩ rfl)) ?_;refine X0 (oFr zdv zc2) ?_;refine X0 (zbz rfl rfl zdp rfl rfl) ?_
   refine X0 (oFr zcX zbR) ?_;refine X0 (zbz rfl rfl zdp rfl rfl) ?_;refine X0 (oFr zd9 zeT) ?_;refine X0 (zbz rfl rfl zdp rfl rfl) ?_;refine X0 (oFr zd8 zeh) ?_;refine X0 (zbz rfl rfl zdp rfl rfl) ?_;refine X0 (zbz rfl rfl zdp rfl rfl) ?_;refine X0 (oFr zbM za2) ?_;refine X0 (zg rfl rfl zbe) ?_;refine X0 (zdH rfl (ui_47) (us_50) rfl) ?_;refine X0 (g_lend (T:=sl u8T) (S:=bsl u8T) (zeo (zp (zeO _ 4 (by decide))) rfl fn_144 ⟨(zd rfl),(zd rfl),trivial⟩ rfl)) ?_
   refine X0 (oFr zcW zbQ) ?_;refine X0 (zg rfl rfl zbi) ?_;refine X0 (g_lend (T:=sl u8T) (S:=bsl u8T) (zeo (zp (zeO _ 8 (by decide))) rfl fn_144 ⟨(by first|exact zB rfl|exact zZ rfl|exact zG rfl rfl|exact zX rfl|exact zx rfl|exact zag rfl rfl|exact zY rfl),(zd rfl),trivial⟩ rfl)) ?_;refine X0 (zt (T:=(bsl u8T)) (xs:=[_,_,_,_,_,_,_,_]) rfl zeF zdB ⟨rfl,rfl,rfl,rfl,rfl,rfl,rfl,rfl,rfl,rfl,rfl,rfl,rfl,rfl,rfl,rfl,trivial⟩ rfl rfl) ?_
   refine XK.e (fun fr' hfr kk H=>by exact zaA (zeL [numBytes (u64OfI (IntL.toI i64T h.height)) 4,h.prev,h.links,h.txs,h.past,bytesW h.work,numBytes (u64OfI (IntL.toI u32T h.bits)) 4,numBytes h.nonce 8] (by simp [hh1,hh2,hh3,hh4,hbl,hn1,hn2,hn3])) rfl fn_143 ⟨(zd ((hfr 36 (by decide +kernel)).trans rfl)),trivial⟩ rfl rfl rfl (zK H)) ?_;refine X0 aO ?_;refine X0 aV ?_;refine XK.nil' ?_
   exact zT rfl rfl (zf rfl rfl (by unfold headBytes;rw [if_pos (by unfold hOk;rw [decide_eq_true_eq];omega)];rfl)) (za rfl (by unfold hOk;symm;apply decide_eq_true;omega))
theorem headId_ok (h:Head):Tells P 67 [.val headT h] (.val idT (headId h)):=by
 refine zc Tryz.func67 rfl rfl rfl (fun ext w hext=>?_)
 refine ze (d:=0) rfl fact_head (fun hh=>?_)
 obtain ⟨hh1,hh2,hh3,hh4,hh5⟩:=hh
 refine qaf ?_;refine qaD ?_;refine CNQR ?_;refine qb4 ?_;refine A0 (oCl (zbT (hput_ok h)) rfl fn_88 ⟨(zd rfl),trivial⟩) ?_;refine A0 mX ?_;refine A0 (by first|exact zN rfl rfl|exact zM rfl rfl) ?_;refine A0 (by first|exact zQ rfl rfl|exact zP rfl rfl) ?_;refine A0 aV ?_;refine qai ?_;refine qaN ?_;refine zr (p:=¬hOk h=true) rfl (by cases hOk h<;>rfl) (fun ht11=>?_) (fun ht11=>?_)
 ·
  refine CQR ?_;refine A0 (zcf rfl zdp ze_46 rfl) ?_;refine qaq ?_
  exact z6 rfl rfl rfl rfl zI (by unfold headId;rw [if_neg ht11]<;>rfl)
 ·
  refine CSQR ?_;refine A0 (zt (T:=u8T) (xs:=[_]) rfl zar zaZ ⟨rfl,rfl,trivial⟩ rfl rfl) ?_;refine aw_lend (S:=bsl u8T) (d:=13) rfl ?_;refine qaw ?_;refine aw_lend (S:=bsl u8T) (d:=14) rfl ?_;refine A0 (zt (T:=(bsl u8T)) (xs:=[_,_]) rfl zeF zdB ⟨rfl,rfl,rfl,rfl,trivial⟩ rfl rfl) ?_;refine A0 (oCl (of_ok [[5],headBytes h] (by unfold headBytes;split<;>simp [putHead,hh1,hh2,hh3,hh4,zc1,zH])) rfl fn_123 ⟨(zd rfl),trivial⟩) ?_;refine qaq ?_
  exact z6 rfl rfl rfl rfl zI (by unfold headId headBytes;rw [if_pos (Classical.not_not.1 ht11),if_pos (Classical.not_not.1 ht11)];simp)
theorem headLevel_ok (h:Head):Tells P 104 [.val headT h] (.val i64T (headLevel h)):=by
 refine zc Tryz.func104 rfl rfl rfl (fun ext w hext=>?_)
 refine qaf ?_;refine qar ?_;refine A0 (oFp zbM) ?_;refine A0 (oLb za2 zbe) ?_;refine A0 (oCl (target_ok _) rfl fn_105 ⟨(zd rfl),trivial⟩) ?_;refine A0 mX ?_;refine A0 (by first|exact zN rfl rfl|exact zM rfl rfl) ?_;refine A0 (by first|exact zQ rfl rfl|exact zP rfl rfl) ?_;refine qaB ?_;refine qal ?_;refine qaL ?_;refine CB ?_;refine qbb ?_;refine A0 oN ?_;refine zL (d:=13) (p:=¬tgtOk h.bits=true) rfl (by cases tgtOk h.bits<;>rfl) (fun g13=>?_) (fun g13=>?_)
 ·
  refine qac ?_;refine Ct ?_;refine CS ?_;refine Ct ?_;refine qa5 ?_
  exact zb rfl rfl (za rfl (by unfold headLevel;rw [if_neg (by unfold hOk;rw [decide_eq_true_eq];exact fun h=>g13 h.1)]<;>rfl))
 ·
  refine qac ?_;refine Cg ?_;refine CQR ?_;refine qb3 ?_;refine A0 zbx ?_;refine Sp (d:=16) (p:=h.height<0) (fun g16=>?_) (fun g16=>?_)
  ·
   refine qac ?_;refine Ct ?_;refine CS ?_;refine Ct ?_;refine qa5 ?_
   exact zb rfl rfl (za rfl (by unfold headLevel;rw [if_neg (by unfold hOk;rw [decide_eq_true_eq];omega)]<;>rfl))
  ·
   refine qac ?_;refine Cg ?_;refine CR ?_;refine qb3 ?_;refine A0 zaI ?_;refine Sp (d:=19) (p:=1048576<h.height) (fun g19=>?_) (fun g19=>?_)
   ·
    refine qac ?_;refine Ct ?_;refine qa5 ?_
    exact zb rfl rfl (za rfl (by unfold headLevel;rw [if_neg (by unfold hOk;rw [decide_eq_true_eq];omega)]<;>rfl))
   ·
    refine qac ?_;refine Cg ?_;refine CQR ?_;refine qb3 ?_;refine A0 zbf ?_;refine qac ?_;refine Cf (p:=h.height=0) (fun ht20=>?_) (fun ht20=>?_)
    ·
     refine qa5 ?_
     exact zb rfl rfl (za rfl (by unfold headLevel;rw [if_pos ⟨Classical.not_not.1 g13,by unfold hOk;rw [decide_eq_true_eq];omega⟩,if_pos ht20]<;>rfl))
    ·
     refine CS ?_;refine CI ?_;refine qbc ?_;refine G0 (oLs rfl rfl rfl zav) ?_;refine G0 (oCl (headId_ok _) rfl fn_67 ⟨(zd rfl),trivial⟩) ?_;refine G0 (oLs rfl rfl rfl zam) ?_;refine G0 (oCl (levelW_ok _ _) rfl fn_156 ⟨(zd rfl),(zd rfl),trivial⟩) ?_;refine qbn ?_
     exact zb rfl rfl (za rfl (by unfold headLevel;rw [if_pos ⟨Classical.not_not.1 g13,by unfold hOk;rw [decide_eq_true_eq];omega⟩,if_neg ht20]))
theorem headWork_ok (h:Head):Tells P 168 [.val headT h] (.val wideT (headWork h)):=by
 refine zc Tryz.func168 rfl rfl rfl (fun ext w hext=>?_)
 refine qaf ?_;refine qaB ?_;refine CNQR ?_;refine A0 (oFp zbM) ?_;refine A0 (oLb za2 zbe) ?_;refine A0 (oCl (target_ok _) rfl fn_105 ⟨(zd rfl),trivial⟩) ?_;refine A0 mX ?_;refine A0 (by first|exact zN rfl rfl|exact zM rfl rfl) ?_;refine A0 (by first|exact zQ rfl rfl|exact zP rfl rfl) ?_;refine qaB ?_;refine qal ?_;refine qai ?_;refine qaN ?_;refine zr (p:=¬tgtOk h.bits=true) rfl (by cases tgtOk h.bits<;>rfl) (fun ht12=>?_) (fun ht12=>?_)
 ·
  refine CQR ?_;refine A0 (zcf rfl za1 ze_49 rfl) ?_;refine qal ?_;refine CN ?_
  exact z6 rfl rfl rfl rfl zam (by unfold headWork;rw [if_neg ht12]<;>rfl)
 ·
  refine CSQR ?_;refine qba ?_;refine A0 (oCl (workW_ok _) rfl fn_231 ⟨(zd rfl),trivial⟩) ?_;refine qal ?_;refine CN ?_
  exact z6 rfl rfl rfl rfl zam (by unfold headWork;rw [if_pos (Classical.not_not.1 ht12)])
theorem headMay_ok (h:Head):Tells P 125 [.val headT h] (.val boolT (headMay h)):=by
 refine zc Tryz.func125 rfl rfl rfl (fun ext w hext=>?_)
 refine qaf ?_;refine qar ?_;refine qb4 ?_;refine A0 (oCl (headLevel_ok _) rfl fn_104 ⟨(zd rfl),trivial⟩) ?_;refine A0 zdr ?_;refine qac ?_
 exact zb rfl rfl (za rfl rfl)
end Go.Proofs.YtjjlfapfjjkomaaGreat
