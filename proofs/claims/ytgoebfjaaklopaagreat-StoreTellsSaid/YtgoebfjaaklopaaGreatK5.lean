/- Parts of the proof: the layer that reads Go values as data, and what the functions of the program tell. -/
import Derived.Test.YtgoebfjaaklopaaGreatK4
set_option linter.unusedVariables false
set_option linter.unusedSimpArgs false
set_option maxRecDepth 20000
namespace Go.Proofs.YtgoebfjaaklopaaGreat
open Go.Ab Go.RowKit
def newN (id:Ab.Id) (outs:List Out) (k:Nat):List Coin:=(outs.take k).zipIdx.map fun x=>⟨⟨id,(x.2:Int)⟩,x.1⟩
theorem zob {id:Ab.Id} {outs:List Out} {k:Nat} (h:k≤outs.length):(newN id outs k).length=k:=by simp[newN];omega
theorem zlx {id:Ab.Id} {outs:List Out} {k:Nat} {o:Out} (h:outs[k]?=some o) (p:List Coin):p++newN id outs k++[⟨⟨id,(k:Int)⟩,o⟩]=p++newN id outs (k+1):=by
  have hk:=(ul.1 h).1;unfold newN;rw[un,h,List.zipIdx_append,List.map_append,List.append_assoc];simp;omega
def zaH (p:List Coin) (t:Tx):List Coin×Int:=if (p.any fun c=>decide (c.inn.tx=idOf t))=true then ([],10) else (ziv (p++newN (idOf t) t.outs t.outs.length),0)
theorem made_ok (p:List Coin) (t:Tx) (hp:p.length≤48) (hto:t.outs.length≤3) (hd:(p.any fun c=>decide (c.inn.tx=idOf t))=false→Apart (p++newN (idOf t) t.outs t.outs.length)):zfz P 186 (.row 180 zal p) [.own 0,.val txT t] (.tup2 (.fresh 180 zal (zaH p t).1) (.val i64T (zaH p t).2)) (.none_):=by
 refine zfZ trivial Tryz.func186 rfl rfl ⟨Nat.one_pos,⟨trivial,trivial⟩⟩ (fun ext pg w hext hgr=>?_);refine zjS (n:=0) rfl (fun hrl=>?_);refine qbO ?_;refine qaj ?_;refine qb0 ?_;refine A0 (oCl (id_ok t) rfl fn_146 ye) ?_;refine qaI ?_;refine qao ?_;refine CNQQR ?_;refine A0 mO ?_;refine A0 (zpT (caps:=[_]) rfl rfl) ?_;refine A0 (oCl (zkw _ _) rfl fn_222 ⟨(zG rfl rfl),(by first|exact zdY (Cs:=[_]) rfl fn_223 ym ybE rfl (fun x=>zsc _ x)|exact zdX (Cs:=[_]) rfl fn_223 ym ybE rfl (fun x y=>zsc _ x)|exact zdZ rfl),trivial⟩) ?_;refine CN ?_;refine zk (p:=(p.any fun c=>decide (c.inn.tx=idOf t))=true) rfl (Bool.decide_eq_true.symm) (fun ht13=>?_) (fun ht13=>?_)
 ·
  refine qaB ?_;refine qad ?_;exact zsS rfl rfl rfl rfl rfl zfW (by unfold zaH;rw[ut ht13];exact zmF rfl) (zfA zfW rfl (by unfold zaH;rw[ut ht13]))
 have hnot:(p.any fun c=>decide (c.inn.tx=idOf t))=false:=by simpa using ht13
 refine CSQQR ?_;refine qaP ?_;refine qbp ?_;refine zcj 0 3 4 rfl rfl rfl rfl rfl rfl ?_;refine zB (n:=3) (y:=p++newN (idOf t) t.outs 0) rfl (by simp[newN]) ?_;refine Lp (ι:=Nat) 4 (fun (k:Nat)=>((((((Fr.none).set 0 (.own 3)).set 3 (.ptr 1 0)).set 6 (.ptr 2 0)).set 15 (.val (sl outT) t.outs)).set 16 (.val i64T (t.outs.length:Int))).set 17 (.val i64T (k:Int))) (fun (k:Nat)=>(((Hp.none).set 1 (.box 112 txT t)).set 2 (.box 27 idT (idOf t))).set 3 (.row 180 zal (p++newN (idOf t) t.outs k))) (fun (k:Nat)=>k≤t.outs.length) (fun (k:Nat)=>t.outs.length-k) (0) (uf _) ?_;intro k hinv;refine qas ?_;refine Cf (p:=k<t.outs.length) (fun ht18=>?_) (fun ht18=>?_)
 ·
  obtain⟨o,ho⟩:∃o,t.outs[k]?=some o:=⟨_,ub ht18⟩;have hnl:=zob (id:=idOf t) hinv;refine qbe ?_;refine A0 (zbj rfl rfl rfl zeX yj) ?_;refine A0 (zh rfl rfl zeU) ?_;refine zP ze_123 rfl rfl rfl rfl ?_;refine A0 aV ?_;refine zg rfl rfl rfl rfl rfl (Lens.self _) zeU rfl ?_;refine CNR ?_;refine A0 mO ?_;refine qbw ?_;refine qa9 ?_;refine A0 (z7 rfl ze_120 bd_120 (.cons zcH zd0 zT rfl (.cons zbm zeo ty_3 rfl .nil)) rfl) ?_;refine A0 (oLs rfl rfl rfl zeU) ?_;refine A0 (z7 rfl zo3 bd_180 (.cons zbc zau zbI rfl (.cons zdf zbR zeU rfl .nil)) rfl) ?_;refine qbD ?_;refine zo rfl rfl rfl rfl rfl rfl rfl zfk (by simp only[ue,List.length_cons,List.length_nil,hnl];omega) ?_;refine A0 aO ?_;refine qcD ?_;refine zcj 5 3 6 rfl rfl rfl rfl rfl rfl ?_;refine zB (n:=3) rfl (zlx ho p) ?_;exact Nx (k+1) ya ya
 obtain rfl:k=t.outs.length:=ya;refine qbQ ?_;refine A0 mO ?_;refine zhF (sort_ok _ (hd hnot) (by rw[ue,zob (ug _)];omega)) rfl fn_224 rfl trivial trivial rfl ybI rfl rfl rfl ?_;refine CNQR ?_;refine A0 mO ?_;refine A0 aO ?_;refine qad ?_;exact zsS rfl rfl rfl rfl rfl zfW (retm_fresh zfW (fun h=>False.elim h) rfl rfl (by unfold zaH;rw[ur ht13])) (zfA zfW rfl (by unfold zaH;rw[ur ht13]))
set_option maxRecDepth 20000
def Sorted (p:List Coin):Prop:=p.Pairwise fun a b=>zaI a.inn b.inn<0
theorem znE {p:List Coin} {k:Nat} {c:Coin} (h:p[k]?=some c):zg6 p k=true↔zfu c=true∧∀j b,k=j+1→p[j]?=some b→zaI b.inn c.inn<0:=by
  unfold zg6;rw[h];simp only[uk];cases k with
  | zero=>simp
  | succ k =>
    constructor
    · rintro ⟨h1,h2⟩
      refine⟨h1,fun j b e hb=>?_⟩;obtain rfl:k=j:=ya;simp only[hb] at h2;exact of_decide_eq_true h2
    rintro ⟨h1,h2⟩
    refine⟨h1,?_⟩;simp only[];cases hb:p[k]? with
    | none=>rfl
    | some b=>exact ui (h2 k b rfl hb)
theorem zS {p:List Coin}:zak p=true↔(∀c∈p,zfu c=true)∧Sorted p∧p.length≤48:=by
  unfold zak;simp only[uk,uj,List.all_eq_true,List.mem_range]
  constructor
  · rintro ⟨h1,h2⟩
    have hat:∀k c,p[k]?=some c→zfu c=true∧∀j b,k=j+1→p[j]?=some b→zaI b.inn c.inn<0:=fun k c hc=>(znE hc).1 (h1 k (ul.1 hc).1)
    refine⟨fun c hc=>?_,?_,h2⟩
    · obtain⟨k,hk⟩:=List.mem_iff_getElem?.1 hc
      exact(hat k c hk).1
    have key : ∀ (k i : Nat) (a b : Coin), i < k → p[i]? = some a → p[k]? = some b → zaI a.inn b.inn < 0 := fun k => by
      induction k with
      | zero=>intro i a b h;omega
      | succ k ih =>
        intro i a b h ha hb;obtain⟨m,hm⟩:∃m,p[k]?=some m:=⟨_,ub (by have:=(ul.1 hb).1;omega)⟩;have hlast:=(hat (k+1) b hb).2 k m rfl hm;by_cases e:i=k
        · subst e;rw[ha] at hm;injection hm with hm;subst hm;exact hlast
        exact zdS (ih i a m ya ha hm) hlast
    unfold Sorted;rw[List.pairwise_iff_getElem];intro i j hi hj hij;exact key j i _ _ hij (ub hi) (ub hj)
  rintro ⟨h1,h2,h3⟩
  refine⟨fun k hk=>?_,h3⟩;refine(znE (ub hk)).2 ⟨h1 _ (List.getElem_mem hk),fun j b e hb=>?_⟩;subst e;have hj:=(ul.1 hb).1
  have:=List.pairwise_iff_getElem.1 h2 j (j+1) hj hk ya
  rw[ub hj] at hb;injection hb with hb;rw[←hb];exact this
theorem Sorted.apart {p:List Coin} (h:Sorted p):Apart p:=List.Pairwise.imp (fun h=>by omega) h
theorem zhe {p:List Coin} {id:Ab.Id} {outs:List Out} {k:Nat} (h:Apart p) (hn:(p.any fun c=>decide (c.inn.tx=id))=false):Apart (p++newN id outs k):=by
  unfold Apart;rw[List.pairwise_append];refine⟨h,?_,fun a ha b hb e=>?_⟩
  · unfold newN
    rw[List.pairwise_map,List.pairwise_iff_getElem];intro i j hi hj hij e
    have:=zbN.1 e
    injection this with _ h2;simp at h2;omega
  have:=zbN.1 e
  unfold newN at hb;obtain⟨x,_,rfl⟩:=List.mem_map.1 hb;have h2:=List.any_eq_false.1 hn a ha;rw[this] at h2;simp at h2
theorem znD {l:List Coin} (i:Nat) (h:Sorted l):Sorted (l.take i++l.drop (i+1)):=by
  rw[←List.eraseIdx_eq_take_drop_succ];exact List.Pairwise.sublist (List.eraseIdx_sublist _ _) h
def za7:List Coin→Int→List In→Option (List Coin×Int)
  | p,n,[]=>some (p,n)
  | p,n,x::l=>match p[placeOf p x]? with
    | none=>none
    | some c=>if zaI c.inn x=0 then za7 (p.take (placeOf p x)++p.drop (placeOf p x+1)) (IntKind.i64.wrap (n+c.out.v)) l else none
def zy (p:List Coin) (t:Tx):List Coin×Int×Int :=
  if ¬(zak p=true∧zaz t=true∧t.ins≠[]) then (p,0,1) else
  match za7 p 0 t.ins with
  | none=>(p,0,8)
  | some (rest,n) =>
    if IntKind.i64.wrap (n-zcs (·.v) t.outs)<0 then (p,0,8)
    else if (zaH rest t).2=0 then (if 48<(zaH rest t).1.length then (p,0,11) else ((zaH rest t).1,IntKind.i64.wrap (n-zcs (·.v) t.outs),0))
    else (p,0,(zaH rest t).2)
theorem zci {p:List Coin} (h:zak p=true):p.length≤48:=by
  unfold zak at h;simp only[uk,uj] at h;exact h.2
theorem zpb {p:List Coin} {n:Int} {ins:List In} {k:Nat} {x:In} {c:Coin} (hx:ins[k]?=some x) (hc:p[placeOf p x]?=some c) (h0:zaI c.inn x=0):za7 p n (ins.drop k)=za7 (p.take (placeOf p x)++p.drop (placeOf p x+1)) (IntKind.i64.wrap (n+c.out.v)) (ins.drop (k+1)):=by
  obtain⟨hk,rfl⟩:=ul.1 hx;rw[List.drop_eq_getElem_cons hk];rw[za7.eq_2];simp only[hc,ut h0]
theorem zpa {p:List Coin} {n:Int} {ins:List In} {k:Nat} {x:In} (hx:ins[k]?=some x) (h:¬zjF p x=true):za7 p n (ins.drop k)=none:=by
  obtain⟨hk,rfl⟩:=ul.1 hx;rw[List.drop_eq_getElem_cons hk];rw[za7.eq_2];unfold zjF zjH at h
  split
  · rfl
  rename_i c hc;rw[hc] at h;simp only[uj] at h;rw[ur h]
theorem isThere_at {p:List Coin} {x:In} (h:zjF p x=true):∃c,p[placeOf p x]?=some c∧zaI c.inn x=0:=by
  unfold zjF zjH at h
  split at h
  · cases h
  rename_i c hc;exact⟨c,hc,by simpa using h⟩
theorem zeV (p:List Coin) (e:Int) (hp:p.length≤2000000000000):Tells P 216 [.val i64T e,.rptr (bsl zal) p] (.tup3 (.fresh 180 zal p) (.val i64T 0) (.val i64T e)):=by
 refine zc Tryz.func216 rfl rfl rfl (fun ext w hext=>?_);refine ze (d:=0) rfl zab (fun hin0=>?_);refine qaB ?_;refine A0 aV ?_;refine qaj ?_;refine A0 (zh rfl rfl zir) ?_;refine zam (zg8 p y5) rfl zp1 ye rfl rfl rfl ?_;refine qa9 ?_;refine A0 aO ?_;refine qb6 ?_;exact zcO rfl rfl (zf rfl rfl rfl) (zcL rfl) (zcL rfl)
theorem zrH (p:List Coin) (t:Tx) (hp:p.length≤2000000000000):Tells P 184 [.val (bsl zal) p,.val txT t] (.tup3 (.fresh 180 zal (zy p t).1) (.val i64T (zy p t).2.1) (.val i64T (zy p t).2.2)):=by
 refine zc Tryz.func184 rfl rfl rfl (fun ext w hext=>?_);refine ze (d:=0) rfl zm (fun hsl0=>?_);refine qaw ?_;refine A0 aL ?_;refine A0 aV ?_;refine qaj ?_;refine A0 (zpT (caps:=[_]) rfl rfl) ?_;refine A0 aC ?_;refine CNQQR ?_;refine A0 (oLs rfl rfl rfl zir) ?_;refine A0 (oCl (may_ok _) rfl fn_183 ye) ?_;refine A0 oN ?_;refine qa9 ?_;refine zad (d:=21) (p:=¬zak p=true) rfl yx (fun g21=>?_) (fun g21=>?_)
 ·
  refine qac ?_;refine qbH ?_;refine qaZ ?_;refine Ct ?_;refine qcN ?_;refine xB ?_;refine qb1 ?_;refine CN ?_;have hS:zy p t=(p,0,1):=by unfold zy;rw[ut (fun h=>g21 h.1)]
  exact zcO rfl rfl (zf rfl rfl yC) (zb rfl yC) (zb rfl yC)
 refine A1 (oLs rfl rfl rfl zdM) ?_;refine A1 (oCl (zof _) rfl fn_185 ye) ?_;refine A1 oN ?_;refine qat ?_;refine zad (d:=26) (p:=¬zaz t=true) rfl yx (fun g26=>?_) (fun g26=>?_)
 ·
  refine qac ?_;refine qaZ ?_;refine Ct ?_;refine qcN ?_;refine xB ?_;refine qb1 ?_;refine CN ?_;have hS:zy p t=(p,0,1):=by unfold zy;rw[ut (fun h=>g26 h.2.1)]
  exact zcO rfl rfl (zf rfl rfl yC) (zb rfl yC) (zb rfl yC)
 refine A1 (oFp zbB) ?_;refine A1 (oLb zbY zdN) ?_;refine A1 (zaZ rfl rfl ze4) ?_;refine A1 zct ?_;refine A0 oK ?_;refine Sp (d:=31) (p:=t.ins.length=0) (fun g31=>?_) (fun g31=>?_)
 ·
  refine CN ?_;refine Ct ?_;refine qcN ?_;refine xB ?_;refine qb1 ?_;refine CN ?_;have hS:zy p t=(p,0,1):=by unfold zy;rw[ut (fun h=>h.2.2 (List.length_eq_zero_iff.1 g31))]
  exact zcO rfl rfl (zf rfl rfl yC) (zb rfl yC) (zb rfl yC)
 have hmp:=ua g21;have hmt:=ua g26;have hpl:=zci hmp;have hne:t.ins≠[]:=fun e=>g31 (by rw[e];rfl)
 refine CN ?_;refine Cg ?_;refine CSQR ?_;refine A0 (oLs rfl rfl rfl zir) ?_;refine zam (zg8 p y5) rfl zp1 ye rfl rfl rfl ?_;refine A0 aO ?_;refine CNQR ?_;refine qcH ?_;refine qa3 ?_;refine qbp ?_;refine Lp (ι:=Nat×List Coin×Int) 3 (fun(k,rest,n)=>(((((((Fr.none.set 2 (.ptr 0 0)).set 3 (.ptr 1 0)).set 7 (.clo 216 [0])).set 8 (.own 2)).set 9 (.val i64T n)).set 40 (.val (sl inT) t.ins)).set 41 (.val i64T (t.ins.length:Int))).set 42 (.val i64T (k:Int))) (fun(k,rest,n)=>((Hp.none.set 0 (.box 54 (bsl zal) p)).set 1 (.box 112 txT t)).set 2 (.row 180 zal rest)) (fun(k,rest,n)=>k≤t.ins.length∧Sorted rest∧rest.length≤48∧za7 p 0 t.ins=za7 rest n (t.ins.drop k)) (fun(k,rest,n)=>t.ins.length-k) ((0,p,0)) (⟨uf _,(zS.1 hmp).2.1,hpl,rfl⟩) ?_;intro⟨k,rest,n⟩ hinv;dsimp only at hinv;refine ze (d:=40) rfl zm (fun hsi=>?_);refine qas ?_;refine Cf (p:=k<t.ins.length) (fun ht43=>?_) (fun ht43=>?_)
 ·
  obtain⟨x,hx⟩:∃x,t.ins[k]?=some x:=⟨_,ub ht43⟩;refine CSQBQR ?_;refine qc6 ?_;refine zg rfl rfl rfl rfl rfl (Lens.self _) zbI rfl ?_;refine CNQR ?_;refine A0 mO ?_;refine A0 (oLs rfl rfl rfl zbI) ?_;refine A0 (oCl (place_ok rest x ya) rfl fn_217 ⟨(zG rfl rfl),yl,trivial⟩) ?_;refine qcz ?_;refine zk (p:=¬zjF rest x=true) rfl yx (fun ht53=>?_) (fun ht53=>?_)
  ·
   refine qcN ?_;refine xB ?_;refine qb1 ?_;refine CN ?_;have hS:zy p t=(p,0,8):=by unfold zy;rw[ur (Classical.not_not.2 ⟨hmp,hmt,hne⟩)];rw[hinv.2.2.2,zpa hx ht53]
   exact zcO rfl rfl (zf rfl rfl yC) (zb rfl yC) (zb rfl yC)
  obtain⟨c,hc,h0⟩:=isThere_at (ua ht53);have hlt:placeOf rest x<rest.length:=(ul.1 hc).1;refine qbL ?_;refine A0 mO ?_;refine qa9 ?_;refine A0 (zI (i:=placeOf rest x) rfl rfl rfl rfl yh zeq yd) ?_;refine A0 (znr rfl rfl zdf rfl) ?_;refine A0 (znr rfl rfl zb9 rfl) ?_;refine A0 (zbA rfl rfl rfl rfl yj (zbR.comp zdo) ty_3) ?_;refine A0 zbh ?_;refine qci ?_;refine A0 mO ?_;refine qai ?_;refine A0 zbh ?_;refine aw_callc (delete_ok rest (placeOf rest x) hlt) rfl fn_218 rfl trivial ⟨yn,yn,yn,trivial⟩ rfl rfl rfl ?_;refine A0 aO ?_;refine qcD ?_;refine zcj 4 2 5 rfl rfl rfl rfl rfl rfl ?_;exact Nx ((k+1,rest.take (placeOf rest x)++rest.drop (placeOf rest x+1),IntKind.i64.wrap (n+c.out.v))) (⟨by omega,znD _ hinv.2.1,by simp;omega,hinv.2.2.2.trans (zpb hx hc h0)⟩) (by show _<t.ins.length-k;simp only[];omega)
 obtain rfl:k=t.ins.length:=ya;have htk:za7 p 0 t.ins=some (rest,n):=by rw[hinv.2.2.2,List.drop_of_length_le (ug _)];rfl
 refine CE ?_;refine qa0 ?_;refine qb0 ?_;refine A0 (oCl (outs_ok _) rfl fn_187 ye) ?_;refine A0 za1 ?_;refine qah ?_;refine qa1 ?_;refine Cf (p:=IntKind.i64.wrap (n-zcs (·.v) t.outs)<0) (fun ht78=>?_) (fun ht78=>?_)
 ·
  refine qcN ?_;refine xB ?_;refine qb1 ?_;refine CN ?_;have hS:zy p t=(p,0,8):=by unfold zy;rw[ur (Classical.not_not.2 ⟨hmp,hmt,hne⟩)];rw[htk];exact ut ht78
  exact zcO rfl rfl (zf rfl rfl yC) (zb rfl yC) (zb rfl yC)
 refine CSQR ?_;refine A0 mO ?_;refine qb0 ?_;refine zqt (made_ok rest t ya (zcT hmt).2.2 (zhe (Sorted.apart hinv.2.1))) rfl fn_186 rfl trivial zav ybI rfl rfl rfl ?_;refine A0 yae ?_;refine qcj ?_;refine CNQQR ?_;refine A0 mX ?_;refine A0 zct ?_;refine qa9 ?_;refine Sp (d:=92) (p:=(zaH rest t).2=0) (fun g92=>?_) (fun g92=>?_)
 ·
  refine A1 mO ?_;refine A1 (za9 rfl rfl rfl zlL) ?_;refine A1 zcm ?_;refine A0 oK ?_;refine Sp (d:=96) (p:=48<(zaH rest t).1.length) (fun g96=>?_) (fun g96=>?_)
  ·
   refine CN ?_;refine Ct ?_;refine CR ?_;refine qah ?_;refine qaT ?_;refine Ct ?_;refine qcN ?_;refine qa9 ?_;refine xB ?_;refine qb1 ?_;refine CN ?_;have hS:zy p t=(p,0,11):=by unfold zy;rw[ur (Classical.not_not.2 ⟨hmp,hmt,hne⟩)];rw[htk];simp only[ur ht78,ut g92,ut g96]
   exact zcO rfl rfl (zf rfl rfl yC) (zb rfl yC) (zb rfl yC)
  refine CN ?_;refine Cg ?_;refine CSQQR ?_;refine A0 mX ?_;refine qaT ?_;refine zfJ rfl (by simp[IntL.toI,g92]) ?_;refine CSQR ?_;refine A0 mO ?_;refine qa9 ?_;refine A0 aO ?_;refine qb6 ?_;have hS:zy p t=((zaH rest t).1,IntKind.i64.wrap (n-zcs (·.v) t.outs),0):=by unfold zy;rw[ur (Classical.not_not.2 ⟨hmp,hmt,hne⟩)];rw[htk];simp only[ur ht78,ut g92,ur g96]
  exact zcO rfl rfl (zf rfl rfl yC) (zb rfl yC) (zb rfl yC)
 refine qac ?_;refine qar ?_;refine Cg ?_;refine CSQQR ?_;refine A0 mX ?_;refine qaT ?_;refine zoO rfl (by simp[IntL.toI,g92]) ?_;refine qcN ?_;refine A0 mX ?_;refine zfe (As:=[_]) (Cs:=[_]) (zeV p _ hp) rfl rfl zl2 ybD ym ybE zav zav rfl rfl rfl ?_;refine qb1 ?_;refine CN ?_;have hS:zy p t=(p,0,(zaH rest t).2):=by unfold zy;rw[ur (Classical.not_not.2 ⟨hmp,hmt,hne⟩)];rw[htk];simp only[ur ht78,ur g92]
 exact zcO rfl rfl (zf rfl rfl yC) (zb rfl yC) (zb rfl yC)
theorem leC_trans (a b c:Coin) (h:decide (zaI a.inn b.inn≤0)=true) (k:decide (zaI b.inn c.inn≤0)=true):decide (zaI a.inn c.inn≤0)=true:=by
  simp only[uj] at *;by_cases h0:zaI a.inn b.inn=0
  · rw[zbN.1 h0];exact k
  by_cases k0:zaI b.inn c.inn=0
  · rw[←zbN.1 k0];exact h
  have:=zdS (a:=a.inn) (b:=b.inn) (c:=c.inn) ya ya
  omega
theorem leC_total (a b:Coin):(decide (zaI a.inn b.inn≤0)||decide (zaI b.inn a.inn≤0))=true:=by
  have:=zbT a.inn b.inn
  simp only[Bool.or_eq_true,uj];omega
theorem zhm (l:List Coin):(ziv l).Perm l:=List.mergeSort_perm l _
theorem zph {l:List Coin} (h:Apart l):Sorted (ziv l):=by
  have h1:(ziv l).Pairwise fun a b=>decide (zaI a.inn b.inn≤0)=true:=List.pairwise_mergeSort leC_trans leC_total l
  have h2:Apart (ziv l):=((zhm l).pairwise_iff (R:=fun a b:Coin=>zaI a.inn b.inn≠0) (fun {a b} h=>by have:=zbT a.inn b.inn;omega)).2 h;unfold Sorted Apart at *;refine List.Pairwise.imp₂ (fun a b h1 h2=>?_) h1 h2
  have:=of_decide_eq_true h1
  omega
theorem zo8 {t:Tx} (h:zaz t=true):∀o∈t.outs,zj6 o=false:=fun o ho=>by
  unfold zaz at h;simp only[uk,Bool.not_eq_true'] at h
  have:=List.any_eq_false.1 h.2.2.2.2 o ho
  simpa using this
theorem newN_ok {t:Tx} {id:Ab.Id} {k:Nat} (h:zaz t=true):∀c∈newN id t.outs k,zfu c=true:=fun c hc=>by
  unfold newN at hc;obtain⟨⟨o,i⟩,hx,rfl⟩:=List.mem_map.1 hc;have hi:=List.mk_mem_zipIdx_iff_getElem?.1 hx;have hlt:=(ul.1 hi).1;have ho:o∈t.outs:=List.mem_of_mem_take (ud hi);have h1:=zo8 h o ho;have h3:=(zcT h).2.2;rw[um] at hlt;unfold zj6 at h1;have h1:=of_decide_eq_false h1;unfold zfu;apply ui;simp only[];omega
theorem zlB {p:List Coin} {t:Tx} (hp:∀c∈p,zfu c=true) (hs:Sorted p) (ht:zaz t=true):(∀c∈(zaH p t).1,zfu c=true)∧Sorted (zaH p t).1:=by
  unfold zaH
  split
  · exact⟨fun c hc=>absurd hc (List.not_mem_nil),List.Pairwise.nil⟩
  rename_i h;have h:(p.any fun c=>decide (c.inn.tx=idOf t))=false:=by simpa using h
  refine⟨fun c hc=>?_,zph (zhe (Sorted.apart hs) h)⟩
  have:=(zhm _).mem_iff.1 hc
  rcases List.mem_append.1 this with h|h
  · exact hp c h
  exact newN_ok ht c h
theorem zd7:∀{ins:List In} {p rest:List Coin} {n m:Int},za7 p n ins=some (rest,m)→rest.Sublist p
  | [],p,rest,n,m,h=>by
    rw[za7.eq_1] at h;injection h with h;injection h with h _;subst h;exact List.Sublist.refl _
  | x::ins,p,rest,n,m,h=>by
    rw[za7.eq_2] at h
    split at h
    · cases h
    split at h
    · have:=zd7 h
      refine this.trans ?_;rw[←List.eraseIdx_eq_take_drop_succ];exact List.eraseIdx_sublist _ _
    cases h
theorem zdQ {p:List Coin} {t:Tx} (h:zak p=true):zak (zy p t).1=true:=by
  obtain⟨h1,h2,h3⟩:=zS.1 h;unfold zy
  split
  · exact h
  rename_i hn;have hn:=ua hn
  split
  · exact h
  rename_i rest n hrest;have hsub:=zd7 hrest
  split
  · exact h
  split
  · split
    · exact h
    rename_i hl;have hg:=zlB (p:=rest) (fun c hc=>h1 c (hsub.subset hc)) (h2.sublist hsub) hn.2.1;exact zS.2 ⟨hg.1,hg.2,Nat.le_of_not_lt hl⟩
  exact h
def zdB:List Coin→Int→List Tx→Sum Int (List Coin×Int)
  | out,room,[]=>.inr (out,room)
  | out,room,t::l=>if (zy out t).2.2=0 then zdB (zy out t).1 (IntKind.i64.wrap (room+(zy out t).2.1)) l else .inl (zy out t).2.2
def zcC (l:List Tx):Bool:=match l with | []=>false|t::_=>decide (t.ins.length=0)
theorem zhs {l:List Tx} {t:Tx} (h:l[0]?=some t):zcC l=decide (t.ins.length=0):=by
  cases l with
  | nil=>simp at h
  | cons a m=>simp at h;subst h;rfl
theorem zgl {l:List Tx} (h:¬0<l.length):zcC l=false:=by
  cases l with
  | nil=>rfl
  | cons a m=>simp at h
def zds (l:List Tx) (k:Nat):List Tx:=if zcC l=true∧k=0 then l.drop 1 else l.drop k
def zw (p:List Coin) (l:List Tx):List Coin×Int :=
  if ¬zak p=true then (p,1) else if 4<l.length then (p,3) else
  match zdB p 50 (zds l 0) with
  | .inl e=>(p,e)
  | .inr (out,room)=>match (if zcC l=true then l[0]? else none) with
    | none=>(out,0)
    | some t=>if ¬zaz t=true then (p,1) else if ¬(zaH out t).2=0 then (p,(zaH out t).2) else if room<zcs (·.v) t.outs then (p,8) else if 48<(zaH out t).1.length then (p,11) else ((zaH out t).1,0)
theorem ze0 {out:List Coin} {room:Int} {l:List Tx} {k:Nat} {t:Tx} (hk:¬(zcC l=true∧k=0)) (hx:l[k]?=some t) (h:(zy out t).2.2=0):zdB out room (zds l k)=zdB (zy out t).1 (IntKind.i64.wrap (room+(zy out t).2.1)) (zds l (k+1)):=by
  obtain⟨hlt,rfl⟩:=ul.1 hx;unfold zds;rw[ur hk,ur ya,List.drop_eq_getElem_cons hlt,zdB.eq_2,ut h]
theorem zgf {out:List Coin} {room:Int} {l:List Tx} {k:Nat} {t:Tx} (hk:¬(zcC l=true∧k=0)) (hx:l[k]?=some t) (h:¬(zy out t).2.2=0):zdB out room (zds l k) = .inl (zy out t).2.2:=by
  obtain⟨hlt,rfl⟩:=ul.1 hx;unfold zds;rw[ur hk,List.drop_eq_getElem_cons hlt,zdB.eq_2,ur h]
theorem zdr {l:List Tx} (h:zcC l=true):zds l 0=zds l 1:=by
  unfold zds;rw[ut ⟨h,rfl⟩,ur ya]
theorem zjw {l:List Tx} (k:Nat) (h:l.length≤k):zds l k=[]:=by
  unfold zds
  split
  · exact List.drop_of_length_le ya
  exact List.drop_of_length_le h
theorem zel (p:List Coin) (e:Int) (hp:p.length≤2000000000000):Tells P 182 [.val i64T e,.rptr (bsl zal) p] (.tup2 (.fresh 180 zal p) (.val i64T e)):=by
 refine zc Tryz.func182 rfl rfl rfl (fun ext w hext=>?_);refine ze (d:=0) rfl zab (fun hin0=>?_);refine qaB ?_;refine qaj ?_;refine A0 (zh rfl rfl zir) ?_;refine zam (zg8 p y5) rfl zp1 ye rfl rfl rfl ?_;refine qa9 ?_;refine A0 aO ?_;refine qad ?_;exact zac rfl rfl (zf rfl rfl rfl) (zcL rfl)
theorem apply_ok (p:List Coin) (l:List Tx) (hp:p.length≤2000000000000):Tells P 138 [.val (bsl zal) p,.val (bsl txT) l] (.tup2 (.fresh 180 zal (zw p l).1) (.val i64T (zw p l).2)):=by
 refine zc Tryz.func138 rfl rfl rfl (fun ext w hext=>?_);refine ze (d:=0) rfl zm (fun hsl0=>?_);refine ze (d:=1) rfl zm (fun hsl1=>?_);refine qbO ?_;refine qaj ?_;refine A0 (zpT (caps:=[_]) rfl rfl) ?_;refine A0 aC ?_;refine CNQ ?_;refine CB ?_;refine CQR ?_;refine A0 (oLs rfl rfl rfl zir) ?_;refine A0 (oCl (may_ok _) rfl fn_183 ye) ?_;refine A0 oN ?_;refine qad ?_;refine zk (p:=¬zak p=true) rfl yx (fun ht17=>?_) (fun ht17=>?_)
 ·
  refine qcN ?_;refine xC ?_;refine qcj ?_;refine CN ?_;have hS:zw p l=(p,1):=by unfold zw;rw[ut ht17]
  exact zac rfl rfl (zf rfl rfl yC) (zb rfl yC)
 have hmp:=ua ht17;have hpl:=zci hmp;refine qa0 ?_;refine qbG ?_;refine A0 zcm ?_;refine qad ?_;refine Cf (p:=4<l.length) (fun ht25=>?_) (fun ht25=>?_)
 ·
  refine qcN ?_;refine xC ?_;refine qcj ?_;refine CN ?_;have hS:zw p l=(p,3):=by unfold zw;rw[ur (Classical.not_not.2 hmp),ut ht25]
  exact zac rfl rfl (zf rfl rfl yC) (zb rfl yC)
 refine CS ?_;refine CI ?_;refine CQR ?_;refine A0 (oLs rfl rfl rfl zir) ?_;refine zam (zg8 p y5) rfl zp1 ye rfl rfl rfl ?_;refine A0 aO ?_;refine qaS ?_;refine qbG ?_;refine A0 zcm ?_;refine qa9 ?_;refine Sp (d:=38) (p:=0<l.length) (fun g38=>?_) (fun g38=>?_)
 ·
  obtain⟨t0,ht0⟩:∃t0,l[0]?=some t0:=⟨_,ub g38⟩;refine qbg ?_;refine A1 zct ?_;refine A0 oK ?_;refine zi (d:=45) (y:=zcC l) rfl ybn ?_;refine qah ?_;refine qbG ?_;refine qbp ?_;refine Lp (ι:=Nat×List Coin×Int) 2 (fun(k,out,room)=>((((((((Fr.none.set 1 (.val (bsl txT) l)).set 2 (.ptr 0 0)).set 6 (.clo 182 [0])).set 7 (.own 1)).set 8 (.val i64T room)).set 9 (.val zu (zcC l))).set 46 (.val (bsl txT) l)).set 47 (.val i64T (l.length:Int))).set 48 (.val i64T (k:Int))) (fun(k,out,room)=>(Hp.none.set 0 (.box 54 (bsl zal) p)).set 1 (.row 180 zal out)) (fun(k,out,room)=>k≤l.length∧zak out=true∧zdB p 50 (zds l 0)=zdB out room (zds l k)) (fun(k,out,room)=>l.length-k) ((0,p,50)) (⟨uf _,hmp,rfl⟩) ?_;intro⟨k,out,room⟩ hinv;dsimp only at hinv;have hol:=zci hinv.2.1;refine qas ?_;refine Cf (p:=k<l.length) (fun ht49=>?_) (fun ht49=>?_)
  ·
   obtain⟨t,hx⟩:∃t,l[k]?=some t:=⟨_,ub ht49⟩;refine qbe ?_;refine qbo ?_;refine A0 aV ?_;refine qca ?_;refine qb2 ?_;refine A0 zct ?_;refine qa9 ?_;refine Sp (d:=55) (p:=k=0) (fun g55=>?_) (fun g55=>?_)
   ·
    refine A1 mV ?_;refine A0 oK ?_;refine zad (d:=57) (p:=zcC l=true) rfl yx (fun g57=>?_) (fun g57=>?_)
    ·
     refine CN ?_;refine Ct ?_;refine CE ?_;refine CR ?_;refine qan ?_;exact Nx ((k+1,out,room)) yO yao
    refine CN ?_;refine Cg ?_;refine CSQR ?_;refine A0 mO ?_;refine qb0 ?_;refine zqs (zrH out t ya) rfl fn_184 ⟨(zG rfl rfl),yl,trivial⟩ zav zav rfl rfl rfl ?_;refine A0 yae ?_;refine qb1 ?_;refine CNQQR ?_;refine A0 mX ?_;refine qaT ?_;refine zk (p:=¬(zy out t).2.2=0) rfl yF (fun ht66=>?_) (fun ht66=>?_)
    ·
     refine qcN ?_;refine A0 mX ?_;refine xD ?_;refine qcj ?_;refine CN ?_;have hS:zw p l=(p,(zy out t).2.2):=ybY;exact zac rfl rfl (zf rfl rfl yC) (zb rfl yC)
    refine CSQR ?_;refine A0 mO ?_;refine A0 aO ?_;refine CNR ?_;refine qa9 ?_;refine A0 mX ?_;refine A0 zbh ?_;refine A0 aV ?_;refine qcD ?_;refine zcP 1 ?_;refine xz ?_;exact Nx ((k+1,(zy out t).1,IntKind.i64.wrap (room+(zy out t).2.1))) yO yao
   refine qaZ ?_;refine Cg ?_;refine CSQR ?_;refine A0 mO ?_;refine qb0 ?_;refine zqs (zrH out t ya) rfl fn_184 ⟨(zG rfl rfl),yl,trivial⟩ zav zav rfl rfl rfl ?_;refine A0 yae ?_;refine qb1 ?_;refine CNQQR ?_;refine A0 mX ?_;refine qaT ?_;refine zk (p:=¬(zy out t).2.2=0) rfl yF (fun ht66=>?_) (fun ht66=>?_)
   ·
    refine qcN ?_;refine A0 mX ?_;refine xD ?_;refine qcj ?_;refine CN ?_;have hS:zw p l=(p,(zy out t).2.2):=ybY;exact zac rfl rfl (zf rfl rfl yC) (zb rfl yC)
   refine CSQR ?_;refine A0 mO ?_;refine A0 aO ?_;refine CNR ?_;refine qa9 ?_;refine A0 mX ?_;refine A0 zbh ?_;refine A0 aV ?_;refine qcD ?_;refine zcP 1 ?_;refine xz ?_;exact Nx ((k+1,(zy out t).1,IntKind.i64.wrap (room+(zy out t).2.1))) yO yao
  have hrun:zdB p 50 (zds l 0) = .inr (out,room):=by rw[hinv.2.2,zjw k ya];rfl
  refine CE ?_;refine qaK ?_;refine qaQ ?_;refine zk (p:=¬zcC l=true) rfl yx (fun ht78=>?_) (fun ht78=>?_)
  ·
   have hnf:=ht78;refine CQR ?_;refine A0 mO ?_;refine A0 aO ?_;refine qad ?_;have hS:zw p l=(out,0):=ybZ;exact zac rfl rfl (zf rfl rfl yC) (zb rfl yC)
  have hf:=ua ht78;refine qce ?_;refine qaY ?_;refine A0 (oCl (zof _) rfl fn_185 ybD) ?_;refine qaQ ?_;refine zk (p:=¬zaz t0=true) rfl yx (fun ht84=>?_) (fun ht84=>?_)
  ·
   refine qcN ?_;refine xC ?_;refine qcj ?_;refine CN ?_;have hS:zw p l=(p,1):=by unfold zw;rw[ur (Classical.not_not.2 hmp),ur (show ¬4<l.length by omega)];rw[hrun];simp only[ut hf,ht0];rw[ut ht84]
   exact zac rfl rfl (zf rfl rfl yC) (zb rfl yC)
  have hmt:=ua ht84;refine CSQR ?_;refine A0 mO ?_;refine qa9 ?_;refine qaY ?_;refine zqt (made_ok out t0 ya (zcT hmt).2.2 (zhe (Sorted.apart (zS.1 hinv.2.1).2.1))) rfl fn_186 rfl trivial zav ybI rfl rfl rfl ?_;refine A0 yae ?_;refine qcj ?_;refine CNQ ?_;refine CB ?_;refine CQR ?_;refine A0 mX ?_;refine A0 zeb ?_;refine qad ?_;refine zk (p:=¬(zaH out t0).2=0) rfl yF (fun ht97=>?_) (fun ht97=>?_)
  ·
   refine qcN ?_;refine A0 mX ?_;refine xD ?_;refine qcj ?_;refine CN ?_;have hS:zw p l=(p,(zaH out t0).2):=by unfold zw;rw[ur (Classical.not_not.2 hmp),ur (show ¬4<l.length by omega)];rw[hrun];simp only[ut hf,ht0];rw[ur (Classical.not_not.2 hmt),ut ht97]
   exact zac rfl rfl (zf rfl rfl yC) (zb rfl yC)
  refine qa0 ?_;refine qaY ?_;refine A0 (oCl (outs_ok _) rfl fn_187 ybD) ?_;refine qa9 ?_;refine A0 zcm ?_;refine qad ?_;refine Cf (p:=room<zcs (·.v) t0.outs) (fun ht105=>?_) (fun ht105=>?_)
  ·
   refine qcN ?_;refine xC ?_;refine qcj ?_;refine CN ?_;have hS:zw p l=(p,8):=by unfold zw;rw[ur (Classical.not_not.2 hmp),ur (show ¬4<l.length by omega)];rw[hrun];simp only[ut hf,ht0];rw[ur (Classical.not_not.2 hmt),ur ht97,ut ht105]
   exact zac rfl rfl (zf rfl rfl yC) (zb rfl yC)
  refine CQR ?_;refine A0 mO ?_;refine A0 (za9 rfl rfl rfl zlL) ?_;refine A0 zcm ?_;refine qad ?_;refine Cf (p:=48<(zaH out t0).1.length) (fun ht116=>?_) (fun ht116=>?_)
  ·
   refine qcN ?_;refine xC ?_;refine qcj ?_;refine CN ?_;have hS:zw p l=(p,11):=by unfold zw;rw[ur (Classical.not_not.2 hmp),ur (show ¬4<l.length by omega)];rw[hrun];simp only[ut hf,ht0];rw[ur (Classical.not_not.2 hmt),ur ht97,ur ht105,ut ht116]
   exact zac rfl rfl (zf rfl rfl yC) (zb rfl yC)
  refine CS ?_;refine CI ?_;refine CQR ?_;refine A0 mO ?_;refine A0 aO ?_;refine qad ?_;have hS:zw p l=((zaH out t0).1,0):=by unfold zw;rw[ur (Classical.not_not.2 hmp),ur (show ¬4<l.length by omega)];rw[hrun];simp only[ut hf,ht0];rw[ur (Classical.not_not.2 hmt),ur ht97,ur ht105,ur ht116]
  exact zac rfl rfl (zf rfl rfl yC) (zb rfl yC)
 refine qcT ?_;refine A0 oK ?_;refine zi (d:=45) (y:=zcC l) rfl ybn ?_;refine qah ?_;refine qbG ?_;refine qbp ?_;refine Lp (ι:=Nat×List Coin×Int) 2 (fun(k,out,room)=>((((((((Fr.none.set 1 (.val (bsl txT) l)).set 2 (.ptr 0 0)).set 6 (.clo 182 [0])).set 7 (.own 1)).set 8 (.val i64T room)).set 9 (.val zu (zcC l))).set 46 (.val (bsl txT) l)).set 47 (.val i64T (l.length:Int))).set 48 (.val i64T (k:Int))) (fun(k,out,room)=>(Hp.none.set 0 (.box 54 (bsl zal) p)).set 1 (.row 180 zal out)) (fun(k,out,room)=>k≤l.length∧zak out=true∧zdB p 50 (zds l 0)=zdB out room (zds l k)) (fun(k,out,room)=>l.length-k) ((0,p,50)) (⟨uf _,hmp,rfl⟩) ?_;intro⟨k,out,room⟩ hinv;dsimp only at hinv;have hol:=zci hinv.2.1;refine qas ?_;refine Cf (p:=k<l.length) (fun ht49=>?_) (fun ht49=>?_)
 ·
  exfalso;omega
 have hrun:zdB p 50 (zds l 0) = .inr (out,room):=by rw[hinv.2.2,zjw k ya];rfl
 refine CE ?_;refine qaK ?_;refine qaQ ?_;refine zk (p:=¬zcC l=true) rfl yx (fun ht78=>?_) (fun ht78=>?_)
 ·
  have hnf:=ht78;refine CQR ?_;refine A0 mO ?_;refine A0 aO ?_;refine qad ?_;have hS:zw p l=(out,0):=ybZ;exact zac rfl rfl (zf rfl rfl yC) (zb rfl yC)
 exact absurd (ua ht78) (by rw[zgl g38];simp)
theorem zkM {α:Type} {p:α→Bool}:∀{l:List α},idx p l<0→∀x∈l,p x=false
  | [],_,x,hx=>by cases hx
  | y::l,h,x,hx=>by
    unfold idx at h;cases hy:p y with
    | true=>rw[hy] at h;simp at h
    | false =>
      rw[hy] at h;rcases List.mem_cons.1 hx with e|hx
      · rw[e];exact hy
      refine zkM (l:=l) ?_ x hx
      have:=zgZ p l
      simp at h
      split at h<;>omega
theorem zht {α:Type} {p:α→Bool}:∀{l:List α},0≤idx p l→∃x,l[(idx p l).toNat]?=some x∧p x=true∧∀(j:Nat) y,l[j]?=some y→p y=true→idx p l≤j
  | [],h=>by simp[idx] at h
  | y::l,h=>by
    cases hy:p y with
    | true =>
      have e:idx p (y::l)=0:=by unfold idx;rw[hy];simp
      rw[e];exact⟨y,rfl,hy,fun j z _ _=>by omega⟩
    | false =>
      by_cases h0:0≤idx p l
      · have e : idx p (y :: l) = idx p l + 1 := by
          conv=>lhs;unfold idx
          rw[hy];simp;omega
        obtain⟨x,h1,h2,h3⟩:=zht h0;refine⟨x,?_,h2,fun j z hj hz=>?_⟩
        · rw[e,show(idx p l+1).toNat=(idx p l).toNat+1 by omega];exact h1
        cases j with
        | zero=>simp at hj;subst hj;rw[hy] at hz;cases hz
        | succ j=>have:=h3 j z (by simpa using hj) hz;rw[e];omega
      exfalso
      have:=zgZ p l
      have e:idx p (y::l) = -1:=by
        conv=>lhs;unfold idx
        rw[hy];simp;omega
      omega
def findC (p:List Coin) (x:In):Int:=idx (fun c=>decide (c.inn=x)) p
theorem findC_ge (p:List Coin) (x:In):-1≤findC p x:=zgZ _ _
theorem zeS {p:List Coin} {x:In} (h:0≤findC p x):∃c,p[(findC p x).toNat]?=some c∧c.inn=x∧∀(j:Nat) y,p[j]?=some y→y.inn=x→findC p x≤j:=by
  obtain⟨c,h1,h2,h3⟩:=zht h;exact⟨c,h1,of_decide_eq_true h2,fun j y hj hy=>h3 j y hj (ui hy)⟩
theorem findC_none {p:List Coin} {x:In} (h:findC p x<0):∀c∈p,c.inn≠x:=fun c hc e=>by
  have:=zkM h c hc
  simp[e] at this
def tot {α:Type} (f:α→Int):List α→Int
  | []=>0
  | x::l=>f x+tot f l
theorem zmW {α:Type} {f:α→Int}:∀{l m:List α},tot f (l++m)=tot f l+tot f m
  | [],m=>by simp[tot]
  | x::l,m=>by rw[List.cons_append,tot,tot,zmW];omega
theorem tot_perm {α:Type} {f:α→Int} {l m:List α} (h:l.Perm m):tot f l=tot f m:=by
  induction h with
  | nil=>rfl
  | cons x _ ih=>rw[tot,tot,ih]
  | swap x y l=>simp only[tot];omega
  | trans _ _ h1 h2=>exact h1.trans h2
theorem tot_del {α:Type} {f:α→Int} {x:α}:∀{l:List α} {i:Nat},l[i]?=some x→tot f (l.take i++l.drop (i+1))+f x=tot f l
  | [],i,h=>by simp at h
  | y::l,0,h=>by simp at h;subst h;simp[tot];omega
  | y::l,i+1,h=>by
    have:=tot_del (f:=f) (l:=l) (i:=i) (by simpa using h)
    simp only[List.take_succ_cons,List.drop_succ_cons,List.cons_append,tot];omega
theorem zh1 {α:Type} {f:α→Int}:∀{l:List α},(∀x∈l,0≤f x)→0≤tot f l
  | [],_=>Int.le_refl _
  | x::l,h=>by
    have:=zh1 (f:=f) (l:=l) fun y hy=>h y (List.mem_cons_of_mem _ hy)
    have:=h x List.mem_cons_self
    rw[tot];omega
theorem tot_le {α:Type} {f:α→Int} {M:Int}:∀{l:List α},(∀x∈l,f x≤M)→tot f l≤M*l.length
  | [],_=>by simp[tot]
  | x::l,h=>by
    have:=tot_le (f:=f) (M:=M) (l:=l) fun y hy=>h y (List.mem_cons_of_mem _ hy)
    have:=h x List.mem_cons_self
    rw[tot,List.length_cons,Int.natCast_add,Int.mul_add];omega
theorem zsq {α:Type} {f:α→Int} {M:Int} (hM:0≤M):∀{l:List α} {n:Int},(∀x∈l,0≤f x∧f x≤M)→0≤n→n+M*l.length≤9223372036854775807→l.foldl (fun n x=>IntKind.i64.wrap (n+f x)) n=n+tot f l
  | [],n,_,_,_=>by simp[tot]
  | x::l,n,h,h0,h1=>by
    have hx:=h x List.mem_cons_self;rw[List.length_cons,Int.natCast_add,Int.mul_add] at h1;have h2:0≤M*l.length:=Int.mul_nonneg hM (Int.natCast_nonneg _);have e:IntKind.i64.wrap (n+f x)=n+f x:=zaF ya;rw[List.foldl_cons,e,zsq hM (fun y hy=>h y (List.mem_cons_of_mem _ hy)) ya ya,tot];omega
theorem worth_tot {α:Type} {f:α→Int} {l:List α} (h:∀x∈l,0≤f x∧f x≤2199023255552) (hl:l.length≤60):zcs f l=tot f l:=by
  have:=zsq (f:=f) (M:=2199023255552) yp (n:=0) h (Int.le_refl _) ya
  unfold zcs;rw[this];omega
theorem zf0 {p:List Coin} (h:∀c∈p,zfu c=true):∀c∈p,0≤c.out.v∧c.out.v≤1099511627776:=fun c hc=>by
  have:=of_decide_eq_true (h c hc)
  omega
theorem zdH {p:List Coin} (h:∀c∈p,zfu c=true) (hl:p.length≤48):0≤tot (·.out.v) p∧tot (·.out.v) p≤52776558133248:=by
  have h:=zf0 h;refine⟨zh1 fun x hx=>(h x hx).1,?_⟩
  have:=tot_le (f:=fun c:Coin=>c.out.v) (M:=1099511627776) (l:=p) fun x hx=>(h x hx).2
  omega
theorem outs_pos {t:Tx} (h:zaz t=true):∀o∈t.outs,0≤o.v∧o.v≤1099511627776:=fun o ho=>by
  have h1:=zo8 h o ho;unfold zj6 at h1
  have:=of_decide_eq_false h1
  omega
theorem zkG {t:Tx} (h:zaz t=true):zcs (·.v) t.outs=tot (·.v) t.outs∧0≤tot (·.v) t.outs∧tot (·.v) t.outs≤3298534883328:=by
  have h1:=outs_pos h;have h3:=(zcT h).2.2;refine⟨worth_tot (fun x hx=>by have:=h1 x hx;omega) ya,zh1 fun x hx=>(h1 x hx).1,?_⟩
  have:=tot_le (f:=fun o:Out=>o.v) (M:=1099511627776) (l:=t.outs) fun x hx=>(h1 x hx).2
  omega
theorem zip_tot {id:Ab.Id}:∀{outs:List Out} {k:Nat},tot (·.out.v) ((outs.zipIdx k).map fun x=>(⟨⟨id,(x.2:Int)⟩,x.1⟩:Coin))=tot (·.v) outs
  | [],_=>rfl
  | o::outs,k=>by rw[List.zipIdx_cons,List.map_cons,tot,tot,zip_tot]
theorem newN_tot {id:Ab.Id} {outs:List Out}:tot (·.out.v) (newN id outs outs.length)=tot (·.v) outs:=by
  unfold newN;rw[List.take_length];exact zip_tot
theorem znj {p:List Coin} {t:Tx} (h:(zaH p t).2=0):tot (·.out.v) (zaH p t).1=tot (·.out.v) p+tot (·.v) t.outs∧(zaH p t).1.length=p.length+t.outs.length:=by
  unfold zaH at h ⊢
  split
  · rename_i e;rw[ut e] at h;exact absurd h yp
  refine⟨?_,?_⟩
  · rw[tot_perm (zhm _),zmW,newN_tot]
  rw[(zhm _).length_eq,ue,zob (ug _)]
theorem zf9:∀{ins:List In} {p rest:List Coin} {n m:Int},za7 p n ins=some (rest,m)→(∀c∈p,zfu c=true)→p.length≤48→0≤n→n+tot (·.out.v) p≤52776558133248→m+tot (·.out.v) rest=n+tot (·.out.v) p∧n≤m∧rest.length+ins.length=p.length
  | [],p,rest,n,m,h,_,_,_,_=>by
    rw[za7.eq_1] at h;injection h with h;injection h with h1 h2;subst h1;subst h2;exact⟨rfl,Int.le_refl _,rfl⟩
  | x::ins,p,rest,n,m,h,ho,hl,h0,h1=>by
    rw[za7.eq_2] at h
    split at h
    · cases h
    rename_i c hc
    split at h
    · have hd:=tot_del (f:=fun c:Coin=>c.out.v) hc
      have hcm:=zf0 ho c (ud hc);have hlt:=(ul.1 hc).1;have hsub:(p.take (placeOf p x)++p.drop (placeOf p x+1)).Sublist p:=by
        rw[←List.eraseIdx_eq_take_drop_succ];exact List.eraseIdx_sublist _ _
      have hp:=zh1 (f:=fun c:Coin=>c.out.v) (l:=p.take (placeOf p x)++p.drop (placeOf p x+1)) fun y hy=>(zf0 ho y (hsub.subset hy)).1
      have hll:(p.take (placeOf p x)++p.drop (placeOf p x+1)).length+1=p.length:=yG;have e:IntKind.i64.wrap (n+c.out.v)=n+c.out.v:=zaF ya;rw[e] at h
      have:=zf9 h (fun y hy=>ho y (hsub.subset hy)) ya ya ya
      rw[List.length_cons];omega
    cases h
theorem zh2 {p:List Coin} {t:Tx} (h:zak p=true):0≤(zy p t).2.1∧tot (·.out.v) (zy p t).1+(zy p t).2.1=tot (·.out.v) p∧((zy p t).2.2≠0→(zy p t).1=p∧(zy p t).2.1=0):=by
  obtain⟨h1,h2,h3⟩:=zS.1 h;have hT:=zdH h1 h3;unfold zy
  split
  · exact⟨Int.le_refl _,by simp,fun _=>⟨rfl,rfl⟩⟩
  rename_i hn;have hn:=ua hn
  split
  · exact⟨Int.le_refl _,by simp,fun _=>⟨rfl,rfl⟩⟩
  rename_i rest n hrest;have ht:=zf9 hrest h1 h3 (Int.le_refl _) ya;have ho:=zkG hn.2.1;have hsub:=zd7 hrest;have hr:=zh1 (f:=fun c:Coin=>c.out.v) (l:=rest) fun c hc=>(zf0 h1 c (hsub.subset hc)).1
  split
  · exact⟨Int.le_refl _,by simp,fun _=>⟨rfl,rfl⟩⟩
  rename_i hw;rw[ho.1] at hw ⊢;have e:IntKind.i64.wrap (n-tot (·.v) t.outs)=n-tot (·.v) t.outs:=zaF ya;rw[e] at hw ⊢
  split
  · rename_i hm
    have hmt:=(znj hm).1
    split
    · exact⟨Int.le_refl _,by simp,fun _=>⟨rfl,rfl⟩⟩
    exact⟨by simp only[];omega,by simp only[];omega,fun h=>absurd rfl h⟩
  exact⟨Int.le_refl _,by simp,fun _=>⟨rfl,rfl⟩⟩
theorem zm7:∀{l:List Tx} {p out:List Coin} {r r':Int},zdB p r l = .inr (out,r')→zak p=true→0≤r→tot (·.out.v) p+r≤52776558133398→zak out=true∧r≤r'∧tot (·.out.v) out+r'=tot (·.out.v) p+r
  | [],p,out,r,r',h,hp,_,_=>by
    rw[zdB.eq_1] at h;injection h with h;injection h with h1 h2;subst h1;subst h2;exact⟨hp,Int.le_refl _,rfl⟩
  | t::l,p,out,r,r',h,hp,h0,h1=>by
    rw[zdB.eq_2] at h
    split at h
    · have hs:=zh2 (t:=t) hp
      have hm:=zdQ (t:=t) hp;have hT:=zdH (zS.1 hm).1 (zS.1 hm).2.2;have e:IntKind.i64.wrap (r+(zy p t).2.1)=r+(zy p t).2.1:=zaF ya;rw[e] at h
      have:=zm7 h hm ya ya
      exact⟨this.1,by omega,by omega⟩
    cases h
theorem zrm {p:List Coin} {l:List Tx} (h:zak p=true):zak (zw p l).1=true∧tot (·.out.v) (zw p l).1≤tot (·.out.v) p+50∧((zw p l).2≠0→(zw p l).1=p):=by
  have hT:=zdH (zS.1 h).1 (zS.1 h).2.2;have same:∀e:Int,zak p=true∧tot (·.out.v) p≤tot (·.out.v) p+50∧(e≠0→p=p):=fun _=>⟨h,by omega,fun _=>rfl⟩
  unfold zw;rw[ur (Classical.not_not.2 h)]
  split
  · exact same _
  split
  · exact same _
  rename_i out room hr;have hrt:=zm7 hr h yp ya
  split
  · exact⟨hrt.1,by simp only[];omega,fun h=>absurd rfl h⟩
  rename_i t _
  split
  · exact same _
  rename_i hmt;have hmt:=ua hmt;have ho:=zkG hmt
  split
  · exact same _
  rename_i hm;have hm:=ua hm
  split
  · exact same _
  rename_i hw;rw[ho.1] at hw
  split
  · exact same _
  rename_i hl;have hg:=zlB (p:=out) (zS.1 hrt.1).1 (zS.1 hrt.1).2.1 hmt;have hmt:=(znj hm).1;exact⟨zS.2 ⟨hg.1,hg.2,Nat.le_of_not_lt hl⟩,by simp only[];omega,fun h=>absurd rfl h⟩
def zgW (h:Head):Total:=leafT (zR h) (zcF h)
def zdE (t:Tip):List Ab.Id:=zb8 t.b.l (zR t.b.h) (zaL t.b.h)
def za5 (t:Tip) (l:List Tx) (nonce:UInt64):Head:=⟨IntKind.i64.wrap (t.b.h.height+1),zR t.b.h,zhq (zdE t),zmV l,(zer t.p).h,(zer t.p).w,t.b.h.bits,nonce⟩
def zhT (bits:UInt32):Head:=⟨0,zId,zhq [],zmV [],(zer []).h,zax,bits,0⟩
def zaw (bits:UInt32):Tip:=if zay bits=true then ⟨⟨zhT bits,[],[]⟩,zbx [] (zgW (zhT bits)),[]⟩ else zTip
def zdn (h:Head):Head:={ zHead with height:=h.height,prev:=h.prev,bits:=h.bits }
theorem zka {l:List Ab.Id} {id:Ab.Id} {level:Int}:(zb8 l id level).length≤64:=by
  unfold zb8
  split
  · simp
  split
  · simp
  split
  · omega
  simp;omega
def zjn (t:Tx):Prop:=t.ins.length*40≤140737488351232∧t.outs.length*16≤140737488351232
def zmZ (l:List Tx):Prop:=l.length*48≤140737488351232∧∀t∈l,zjn t
def zd8 (b:Block):Prop:=b.l.length*32≤140737488351232∧zmZ b.t
def zeG (t:Tip):Prop:=zd8 t.b∧t.p.length≤1000∧t.c.length≤1000
theorem set_same {α:Type} {l:List α} {k:Nat} {x:α} (h:l[k]?=some x):l.set k x=l:=by
  obtain⟨hk,rfl⟩:=ul.1 h;exact List.set_getElem_self hk
theorem zsh (h:Head):Tells P 99 [.val zbU h] (.val zao (zgW h)):=by
 refine zc Tryz.func99 rfl rfl rfl (fun ext w hext=>?_);refine qaf ?_;refine qbI ?_;refine CNQ ?_;refine zn [some 1,some 1,some 1,some 1,some 1,none] mixed yc ?_;refine xE ?_;refine X0 (oCl (ze5 _) rfl zqZ ye) ?_;refine xE ?_;refine X0 (oCl (zlQ _) rfl fn_31 ye) ?_;refine X0 (oCl (mleaf_ok _ _) rfl fn_142 yf) ?_;refine XK.e (x:=.idk) (fun fr' hfr kk H=>by exact zg rfl rfl rfl ((hfr 2 yc).trans rfl) rfl (Lens.self _) zaV ((hfr 7 yc).trans rfl) (zp H)) ?_;refine xc ?_;exact zq rfl rfl rfl rfl zaV (rfl)
theorem zlD (t:Tip):Tells P 119 [.val tipT t] (.fresh 27 idT (zdE t)):=by
 refine zc Tryz.func119 rfl rfl rfl (fun ext w hext=>?_);refine qbO ?_;refine CNQ ?_;refine zn [some 1,some 1,some 1,some 1,some 1,some 1,some 1,some 1,some 1,some 1,some 1,none,some 1] mixed yc ?_;refine X0 (oFp zdU) ?_;refine X0 (oFp zcD) ?_;refine X0 (oLb (zbL.comp zb1) zf8) ?_;refine qbM ?_;refine X0 (oLb (zbL.comp zE) za4) ?_;refine X0 (oCl (ze5 _) rfl zqZ ye) ?_;refine qbM ?_;refine X0 (oLb (zbL.comp zE) za4) ?_;refine X0 (oCl (zkc _) rfl fn_159 ye) ?_;refine XK.e (fun fr' hfr kk H=>by exact zam (zqS t.b.l (zR t.b.h) (zaL t.b.h)) rfl fn_158 ⟨(zd ((hfr 5 yc).trans rfl)),(zd ((hfr 9 yc).trans rfl)),(zd ((hfr 13 yc).trans rfl)),trivial⟩ rfl rfl rfl (zp H)) ?_;refine X0 aO ?_;refine xc ?_;exact za rfl rfl (zf rfl rfl rfl)
theorem zr8 (t:Tip) (l:List Tx) (nonce:UInt64) (hl:l.length≤4000000000000) (hp:t.p.length≤1000000):Tells P 88 [.val tipT t,.val (bsl txT) l,.val u64T nonce] (.val zbU (za5 t l nonce)):=by
 have hlk:(zdE t).length≤64:=zka;refine zc Tryz.func88 rfl rfl rfl (fun ext w hext=>?_);refine ze (d:=1) rfl zm (fun hsl1=>?_);refine qaf ?_;refine qcR ?_;refine CNQR ?_;refine A0 (oFp zfD) ?_;refine A0 (oLb zfK zko) ?_;refine A0 (oCl (znh t.p hp) rfl fn_102 ye) ?_;refine qbI ?_;refine qaV ?_;refine CNQ ?_;refine zn [some 1,some 1,some 1,some 1,some 1,some 1,some 1,some 1,some 1,some 1,some 1,some 1,some 1,some 1,some 1,some 1,some 1,some 1,some 1,some 1,some 1,some 1,some 1,some 1,none] mixed yc ?_;refine qbM ?_;refine X0 (oFp zdm) ?_;refine X0 (oLb ((zbL.comp zE).comp zat) ty_3) ?_;refine X0 zbh ?_;refine qbM ?_;refine X0 (oLb (zbL.comp zE) za4) ?_;refine X0 (oCl (ze5 _) rfl zqZ ye) ?_;refine X0 (oLs rfl rfl rfl zaP) ?_;refine X0 (oCl (zF (zlD t)) rfl fn_119 ye) ?_;refine X0 (oCl (zlE (zdE t) ya) rfl fn_100 ye) ?_;refine X0 mV ?_;refine X0 (oCl (zo7 l hl) rfl fn_101 ye) ?_;refine X0 (oFp zdg) ?_;refine X0 (oLb zcy zT) ?_;refine X0 (oFp zgt) ?_;refine X0 (oLb zfg zV) ?_;refine qbM ?_;refine X0 (oFp zcf) ?_;refine X0 (oLb ((zbL.comp zE).comp zan) zaY) ?_;refine X0 mV ?_;refine X0 (z7 rfl ze_33 bd_33 (.cons zdm zat ty_3 rfl (.cons zet zbz zT rfl (.cons zes zbb zT rfl (.cons zfH zcX zT rfl (.cons zfG zcr zT rfl (.cons zfF zcq zV rfl (.cons zcf zan zaY rfl (.cons zfE zb0 zaQ rfl .nil)))))))) rfl) ?_;refine XK.e (x:=.idk) (fun fr' hfr kk H=>by exact zg rfl rfl rfl ((hfr 6 yc).trans rfl) rfl (Lens.self _) za4 ((hfr 34 yc).trans rfl) (zp H)) ?_;refine xc ?_;exact zq rfl rfl rfl rfl za4 (rfl)
theorem zl5 (bits:UInt32):Tells P 55 [.val u32T bits] (.tup2 (.val tipT (zaw bits)) (.val zu (zay bits))):=by
 refine zc Tryz.func55 rfl rfl rfl (fun ext w hext=>?_);refine CQR ?_;refine xd ?_;refine qah ?_;refine A0 (oCl (zk8 _) rfl fn_60 ye) ?_;refine qcl ?_;refine qaS ?_;refine qaQ ?_;refine zk (p:=¬zay bits=true) rfl ya7 (fun ht13=>?_) (fun ht13=>?_)
 ·
  refine CQR ?_;refine xF ?_;refine qap ?_;refine qad ?_;exact zx rfl rfl (zC rfl rfl zaP (by unfold zaw;rw[ur ht13])) (zX (zb rfl (by simpa using ht13)))
 refine CSQR ?_;refine A0 (oCl (zlE [] yp) rfl fn_100 ybD) ?_;refine A0 (oCl (zo7 [] yp) rfl fn_101 ybD) ?_;refine A0 (oCl (znh [] yp) rfl fn_102 ybD) ?_;refine A0 (g_field rfl rfl zdg zcy zT) ?_;refine qa9 ?_;refine A0 (z7 rfl ze_33 bd_33 (.cons zes zbb zT rfl (.cons zfH zcX zT rfl (.cons zfG zcr zT rfl (.cons zcf zan zaY rfl .nil)))) rfl) ?_;refine qcR ?_;refine qb8 ?_;refine CNQ ?_;refine xg ?_;refine xE ?_;refine X0 (z7 rfl zje bd_37 (.cons zah zE za4 rfl .nil) rfl) ?_;refine xE ?_;refine X0 (oCl (zsh (zhT bits)) rfl fn_99 ye) ?_;refine X0 (oCl (zF (zj9 [] (zgW (zhT bits)) yp)) rfl fn_98 ybF) ?_;refine X0 (z7 rfl zep zi6 (.cons zdU zbL zbg rfl (.cons zfD zfK zko rfl .nil)) rfl) ?_;refine XK.e (x:=.idk) (fun fr' hfr kk H=>by exact zg rfl rfl rfl ((hfr 2 yc).trans rfl) rfl (Lens.self _) zaP ((hfr 26 yc).trans rfl) (zp H)) ?_;refine X0 aV ?_;refine xc ?_;exact zx rfl rfl (zC rfl rfl zaP (by unfold zaw;rw[ut (ua ht13)];rfl)) (zX (zb rfl ((ua ht13).symm)))
theorem znJ (h:Head):Tells P 136 [.val zbU h] (.val zbU (zdn h)):=by
 refine zc Tryz.func136 rfl rfl rfl (fun ext w hext=>?_);refine qaf ?_;refine qcR ?_;refine CNQR ?_;refine qbN ?_;refine A0 (oFp zet) ?_;refine A0 (oLb zbz zT) ?_;refine A0 (oFp zcf) ?_;refine A0 (oLb zan zaY) ?_;refine A0 (z7 rfl ze_33 bd_33 (.cons zdm zat ty_3 rfl (.cons zet zbz zT rfl (.cons zcf zan zaY rfl .nil))) rfl) ?_;refine qb8 ?_;refine CN ?_;exact zq rfl rfl rfl rfl za4 (rfl)
theorem txs_ok (l:List Tx) (hl:zmZ l):Tells P 120 [.val (bsl txT) l] (.fresh 112 txT l):=by
 obtain⟨hl1,hl2⟩:=hl;refine zc Tryz.func120 rfl rfl rfl (fun ext w hext=>?_);refine ze (d:=0) rfl zm (fun hsl0=>?_);refine qaB ?_;refine qbX ?_;refine zam (cloneTx l y5) rfl fn_74 ye rfl rfl rfl ?_;refine A0 aO ?_;refine CNQQR ?_;refine A0 mO ?_;refine A0 (za9 rfl rfl rfl zsk) ?_;refine qbp ?_;refine Lp (ι:=Nat) 1 (fun (k:Nat)=>((((Fr.none).set 3 (.own 0)).set 8 (.own 0)).set 9 (.val i64T (l.length:Int))).set 10 (.val i64T (k:Int))) (fun (k:Nat)=>(Hp.none).set 0 (.row 112 txT l)) (fun (k:Nat)=>k≤l.length) (fun (k:Nat)=>l.length-k) (0) (uf _) ?_;intro k hinv;refine qas ?_;refine Cf (p:=k<l.length) (fun ht11=>?_) (fun ht11=>?_)
 ·
  obtain⟨x,hx⟩:∃x,l[k]?=some x:=⟨_,ub ht11⟩;have hxm:=ud hx;refine qbe ?_;refine A0 (zI (i:=k) rfl rfl rfl rfl yh zhI yd) ?_;refine A0 (zbA rfl rfl rfl rfl yj (Lens.self _) zdM) ?_;refine zP zkZ rfl rfl rfl rfl ?_;refine A0 aV ?_;refine qca ?_;refine CN ?_;refine zn [some 1,some 1,some 1,some 1,some 1,some 1,some 1,some 1,some 1,some 1,none] mixed yc ?_;refine qct ?_;refine X0 (oFp zbB) ?_;refine X0 (oLb zbY zdN) ?_;refine X0 (oCl (zF (zrc x.ins (by have:=hl2 x hxm;unfold zjn at this;constructor<;>omega))) rfl fn_75 ye) ?_;refine X0 (oFp zbd) ?_;refine X0 (oLb zaU zdp) ?_;refine X0 (oCl (zF (zoG x.outs (by have:=hl2 x hxm;unfold zjn at this;constructor<;>omega))) rfl fn_76 ye) ?_;refine xG ?_;refine X0 (zI (i:=k) rfl rfl rfl rfl yh zhI yd) ?_;refine XK.e (x:=.idk) (fun fr' hfr kk H=>by exact zai rfl rfl rfl ((hfr 24 yc).trans rfl) rfl rfl yj (Lens.self _) zdM ((hfr 23 yc).trans rfl) (zp H)) ?_;refine qba ?_;refine qan ?_;refine zB (n:=0) (y:=l) rfl (by rw[show(⟨x.ins,x.outs⟩:Tx)=x from rfl];exact set_same hx) ?_;exact Nx (k+1) ya ya
 refine qa7 ?_;exact za rfl rfl (zf rfl rfl rfl)
theorem zqe (b:Block) (hb:zd8 b):Tells P 97 [.val zt b] (.val zt b):=by
 obtain⟨hb1,hb2⟩:=hb;refine zc Tryz.func97 rfl rfl rfl (fun ext w hext=>?_);refine qaf ?_;refine zP zje rfl rfl rfl rfl ?_;refine CNQR ?_;refine A0 (oFp zcD) ?_;refine A0 (oLb zb1 zf8) ?_;refine A0 (oCl (zF (zoH b.l y5)) rfl fn_73 ye) ?_;refine A0 (oFp zcD) ?_;refine zg rfl rfl rfl rfl rfl zb1 zf8 rfl ?_;refine CNQR ?_;refine qcE ?_;refine A0 (oCl (zF (txs_ok b.t hb2)) rfl fn_120 ye) ?_;refine A0 (oFp zdl) ?_;refine zg rfl rfl rfl rfl rfl zda zhZ rfl ?_;refine CNQR ?_;refine qc4 ?_;refine qaW ?_;refine CN ?_;exact zq rfl rfl rfl rfl zbg (rfl)
theorem own_ok (t:Tip) (ht:zeG t):Tells P 96 [.val tipT t] (.val tipT t):=by
 obtain⟨ht1,ht2,ht3⟩:=ht;refine zc Tryz.func96 rfl rfl rfl (fun ext w hext=>?_);refine qaf ?_;refine xd ?_;refine CNQ ?_;refine zn [some 1,some 1,some 1,some 1,some 1,some 1,some 1,some 1,some 1,some 1,none,some 1,none,some 1,none] mixed yc ?_;refine X0 (oFp zdU) ?_;refine X0 (oLb zbL zbg) ?_;refine X0 (oCl (zqe t.b ht1) rfl fn_97 ye) ?_;refine X0 (oFp zfD) ?_;refine X0 (oLb zfK zko) ?_;refine X0 (oCl (zF (znF t.p y5)) rfl fn_139 ye) ?_;refine X0 (oFp zjL) ?_;refine X0 (oLb zjU zir) ?_;refine X0 (oCl (zF (zg8 t.c y5)) rfl zp1 ye) ?_;refine X0 (oFp zdU) ?_;refine XK.e (x:=.idk) (fun fr' hfr kk H=>by exact zg rfl rfl rfl ((hfr 12 yc).trans rfl) rfl zbL zbg ((hfr 5 yc).trans rfl) (zp H)) ?_;refine X0 (oFp zfD) ?_;refine XK.e (x:=.idk) (fun fr' hfr kk H=>by exact zg rfl rfl rfl ((hfr 13 yc).trans rfl) rfl zfK zko ((hfr 8 yc).trans rfl) (zp H)) ?_;refine X0 (oFp zjL) ?_;refine XK.e (x:=.idk) (fun fr' hfr kk H=>by exact zg rfl rfl rfl ((hfr 14 yc).trans rfl) rfl zjU zir ((hfr 11 yc).trans rfl) (zp H)) ?_;refine xc ?_;refine CQR ?_;refine xb ?_;refine qap ?_;refine CN ?_;exact zq rfl rfl rfl rfl zaP (rfl)
theorem znV (a b:Block):Tells P 56 [.val zt a,.val zt b] (.val zu (decide (a=b))):=by
 refine zc Tryz.func56 rfl rfl rfl (fun ext w hext=>?_);refine qaw ?_;refine qaj ?_;refine A0 (oFp zah) ?_;refine A0 (oLb zE za4) ?_;refine A0 (oFp zah) ?_;refine A0 (oLb zE za4) ?_;refine A0 (zfY rfl rfl rfl (zsG)) ?_;refine Sp (d:=9) (p:=a.h=b.h) (fun g9=>?_) (fun g9=>?_)
 ·
  refine qa9 ?_;refine A1 (oFp zcD) ?_;refine A1 (oLb zb1 zf8) ?_;refine A1 (oFp zcD) ?_;refine A1 (oLb zb1 zf8) ?_;refine A1 (oCl (equalId _ _) rfl fn_103 yf) ?_;refine Sp (d:=15) (p:=a.l=b.l) (fun g15=>?_) (fun g15=>?_)
  ·
   refine qat ?_;refine A1 (oFp zdl) ?_;refine A1 (oLb zda zhZ) ?_;refine A1 (oFp zdl) ?_;refine A1 (oLb zda zhZ) ?_;refine A1 (oCl (equalFTx _ _) rfl fn_104 ⟨yl,yl,(by first|exact zdY (Cs:=[]) rfl fn_105 yJ trivial rfl (fun x=>zmg x y)|exact zdX (Cs:=[]) rfl fn_105 yJ trivial rfl (fun x y=>zmg x y)|exact zdZ rfl),trivial⟩) ?_;refine qbi ?_;exact za rfl rfl (zb rfl y4)
  refine qbH ?_;refine qcI ?_;refine qbi ?_;exact za rfl rfl (zb rfl (by symm;apply uh;intro h;exact g15 (by rw[h])))
 refine qa9 ?_;refine qac ?_;refine qcI ?_;refine qbH ?_;refine qcI ?_;refine qbi ?_;exact za rfl rfl (zb rfl (by symm;apply uh;intro h;exact g9 (by rw[h])))
def zeO (x:Trial):Prop:=zeG x.t∧x.b.t.length≤4000000000000
def zkq (x:Trial):Int:=if 48≤x.b.h.height then 3 else 0
def zn1 (x:Trial):Int:=if ¬zdn x.b.h=zdn x.want then 5 else 0
def zmH (x:Trial):Int:=if ¬x.b.h.links=x.want.links∨¬x.b.l=zdE x.t then 6 else 0
def znZ (x:Trial):Int:=if ¬x.b.h=x.want then 7 else 0
def znP (x:Trial):Int:=if ¬zcd x.b.h=true then 4 else 0
def zf1 (x:Trial):Int:=(zw x.t.c x.b.t).2
def zqf (x:Trial):Trial:={ x with c:=(zw x.t.c x.b.t).1 }
def zgI (f:Option Nat) (x:Trial):Int:=if f=some 89 then zkq x else if f=some 90 then zn1 x else if f=some 91 then zmH x else if f=some 92 then znZ x else if f=some 93 then znP x else zf1 x
def askX (f:Option Nat) (x:Trial):Trial:=if f=some 94 then zqf x else x
def zgF:List (Option Nat)→Trial→Int
  | [],_=>0
  | f::l,x=>if zgI f x=0 then zgF l (askX f x) else zgI f x
def zg2:List (Option Nat)→Trial→Trial
  | [],x=>x
  | f::l,x=>if zgI f x=0 then zg2 l (askX f x) else askX f x
def Asks (f:Option Nat):Prop:=f=some 89∨f=some 90∨f=some 91∨f=some 92∨f=some 93∨f=some 94
theorem zbP {l:List (Option Nat)} {k:Nat} {f:Option Nat} {x:Trial} (h:l[k]?=some f) (h0:zgI f x=0):zgF (l.drop k) x=zgF (l.drop (k+1)) (askX f x)∧zg2 (l.drop k) x=zg2 (l.drop (k+1)) (askX f x):=by
  obtain⟨hk,rfl⟩:=ul.1 h;rw[List.drop_eq_getElem_cons hk,zgF,zg2,ut h0,ut h0];exact⟨rfl,rfl⟩
theorem zaK {l:List (Option Nat)} {k:Nat} {f:Option Nat} {x:Trial} (h:l[k]?=some f) (h0:¬zgI f x=0):zgF (l.drop k) x=zgI f x∧zg2 (l.drop k) x=askX f x:=by
  obtain⟨hk,rfl⟩:=ul.1 h;rw[List.drop_eq_getElem_cons hk,zgF,zg2,ur h0,ur h0];exact⟨rfl,rfl⟩
theorem zl4 {l:List (Option Nat)} {k:Nat} {x:Trial} (h:l.length≤k):zgF (l.drop k) x=0∧zg2 (l.drop k) x=x:=by
  rw[List.drop_of_length_le h];exact⟨rfl,rfl⟩
theorem zcz {f:Option Nat} {x:Trial} (h:zeO x):zeO (askX f x):=by unfold askX;split<;>exact h
theorem ask_size (x:Trial):Tells P 89 [.rptr zd5 x] (.val i64T (zkq x)):=by
 refine zc Tryz.func89 rfl rfl rfl (fun ext w hext=>?_);refine CQR ?_;refine qcH ?_;refine A0 mR ?_;refine A0 (zke rfl rfl) ?_;refine A0 (oFr zgu zff) ?_;refine A0 (oFr zah zE) ?_;refine A0 (oFr zdm zat) ?_;refine qbB ?_;refine qbP ?_;refine Cf (p:=48≤x.b.h.height) (fun ht9=>?_) (fun ht9=>?_)
 ·
  refine qaq ?_;exact za rfl rfl (zb rfl (by unfold zkq;rw[ut (ht9)]))
 refine CSQR ?_;refine qad ?_;exact za rfl rfl (zb rfl (by unfold zkq;rw[ur (ht9)]))
theorem ask_prev (x:Trial):Tells P 90 [.rptr zd5 x] (.val i64T (zn1 x)):=by
 refine zc Tryz.func90 rfl rfl rfl (fun ext w hext=>?_);refine qcf ?_;refine G0 (zh rfl rfl za4) ?_;refine G0 (oCl (znJ _) rfl fn_136 ybD) ?_;refine G0 mR ?_;refine G0 (zke rfl rfl) ?_;refine G0 (oFr ziX zem) ?_;refine G0 (zh rfl rfl za4) ?_;refine G0 (oCl (znJ _) rfl fn_136 ybD) ?_;refine G0 (zfs rfl rfl rfl (zsG)) ?_;refine GK.nil ?_;refine zk (p:=¬zdn x.b.h=zdn x.want) rfl yx (fun ht14=>?_) (fun ht14=>?_)
 ·
  refine qaq ?_;exact za rfl rfl (zb rfl (by unfold zn1;rw[ut (ht14)]))
 refine CSQR ?_;refine qad ?_;exact za rfl rfl (zb rfl (by unfold zn1;rw[ur (ht14)]))
theorem ask_link (x:Trial) (hx:zeO x):Tells P 91 [.rptr zd5 x] (.val i64T (zmH x)):=by
 refine zc Tryz.func91 rfl rfl rfl (fun ext w hext=>?_);refine qcf ?_;refine G0 (oFr zes zbb) ?_;refine G0 (zh rfl rfl zT) ?_;refine G0 mR ?_;refine G0 (zke rfl rfl) ?_;refine G0 (oFr ziX zem) ?_;refine G0 (oFr zes zbb) ?_;refine G0 (zh rfl rfl zT) ?_;refine G0 (zfs rfl rfl rfl (zdw)) ?_;refine zaq (d:=14) (p:=¬x.b.h.links=x.want.links) rfl yx (fun g14=>?_) (fun g14=>?_)
 ·
  refine G0 mV ?_;refine qaa ?_;refine qaE ?_;refine G2 ?_;refine qbV ?_;refine Ct ?_;refine qaq ?_;exact za rfl rfl (zb rfl (by unfold zmH;rw[ut (.inl g14)]))
 refine G0 mV ?_;refine G1 mR ?_;refine G1 (zke rfl rfl) ?_;refine G1 (oFr zgu zff) ?_;refine G1 (oFr zcD zb1) ?_;refine G1 (zh rfl rfl zf8) ?_;refine G1 mR ?_;refine G1 (zke rfl rfl) ?_;refine G1 (oFr zkQ zjb) ?_;refine G1 (zh rfl rfl zaP) ?_;refine G1 (oCl (zF (zlD x.t)) rfl fn_119 ybD) ?_;refine G1 (oCl (equalId _ _) rfl fn_103 ybF) ?_;refine G1 oN ?_;refine qbV ?_;refine zk (p:=¬x.b.l=zdE x.t) rfl yx (fun ht28=>?_) (fun ht28=>?_)
 ·
  refine qaq ?_;exact za rfl rfl (zb rfl (by unfold zmH;rw[ut (.inr ht28)]))
 refine CSQR ?_;refine qad ?_;exact za rfl rfl (zb rfl (by unfold zmH;rw[ur (fun h=>h.elim g14 ht28)]))
theorem ask_root (x:Trial):Tells P 92 [.rptr zd5 x] (.val i64T (znZ x)):=by
 refine zc Tryz.func92 rfl rfl rfl (fun ext w hext=>?_);refine qcf ?_;refine G0 (zh rfl rfl za4) ?_;refine G0 mR ?_;refine G0 (zke rfl rfl) ?_;refine G0 (oFr ziX zem) ?_;refine G0 (zh rfl rfl za4) ?_;refine G0 (zfs rfl rfl rfl (zsG)) ?_;refine GK.nil ?_;refine zk (p:=¬x.b.h=x.want) rfl yx (fun ht12=>?_) (fun ht12=>?_)
 ·
  refine qaq ?_;exact za rfl rfl (zb rfl (by unfold znZ;rw[ut (ht12)]))
 refine CSQR ?_;refine qad ?_;exact za rfl rfl (zb rfl (by unfold znZ;rw[ur (ht12)]))
theorem ask_work (x:Trial):Tells P 93 [.rptr zd5 x] (.val i64T (znP x)):=by
 refine zc Tryz.func93 rfl rfl rfl (fun ext w hext=>?_);refine CQR ?_;refine qcH ?_;refine A0 mR ?_;refine A0 (zke rfl rfl) ?_;refine A0 (oFr zgu zff) ?_;refine A0 (oFr zah zE) ?_;refine A0 (zh rfl rfl za4) ?_;refine A0 (oCl (zno _) rfl fn_137 ybD) ?_;refine qaQ ?_;refine zk (p:=¬zcd x.b.h=true) rfl yx (fun ht9=>?_) (fun ht9=>?_)
 ·
  refine qaq ?_;exact za rfl rfl (zb rfl (by unfold znP;rw[ut (ht9)]))
 refine CSQR ?_;refine qad ?_;exact za rfl rfl (zb rfl (by unfold znP;rw[ur (ht9)]))
theorem ask_coins (x:Trial) (hx:zeO x):zfz P 94 (.box 139 zd5 x) [.ptr 0 0] (.val i64T (zf1 x)) (.box 139 zd5 (zqf x)):=by
 refine zfZ trivial Tryz.func94 rfl rfl ⟨Nat.one_pos,trivial⟩ (fun ext pg w hext hgr=>?_);refine CQR ?_;refine qb5 ?_;refine G0 mP ?_;refine G0 (g_nc rfl rfl) ?_;refine G0 (oFp zkQ) ?_;refine G0 (oFp zjL) ?_;refine G0 (oLb (zjb.comp zjU) zir) ?_;refine G0 mP ?_;refine G0 (g_nc rfl rfl) ?_;refine G0 (oFp zgu) ?_;refine G0 (oFp zdl) ?_;refine G0 (oLb (zff.comp zda) zhZ) ?_;refine G0 (oCl (zdP (apply_ok x.t.c x.b.t (by have:=hx.1.2.2;omega))) rfl fn_138 yf) ?_;refine G0 mX ?_;refine G0 yR ?_;refine G0 yZ ?_;refine G0 aV ?_;refine qa6 ?_;refine CQR ?_;refine A0 mP ?_;refine qa9 ?_;refine A0 (g_nc rfl rfl) ?_;refine A0 (oFp zsF) ?_;refine zg rfl rfl rfl rfl rfl zqA zir rfl ?_;refine qbX ?_;refine qad ?_;exact zeN rfl rfl rfl rfl rfl (zbV rfl rfl) (zfA (zbV (x:=zqf x) rfl rfl) rfl rfl)
theorem zsA (x0:Trial) (l:List (Option Nat)) (hx0:zeO x0) (hl:∀f∈l,Asks f):zfz P 95 (.box 139 zd5 x0) [.ptr 0 0,.val (bsl fnoT) l] (.val i64T (zgF l x0)) (.box 139 zd5 (zg2 l x0)):=by
 refine zfZ trivial Tryz.func95 rfl rfl ⟨Nat.one_pos,⟨trivial,trivial⟩⟩ (fun ext pg w hext hgr=>?_);refine ze (d:=1) rfl zm (fun hsl1=>?_);refine qcJ ?_;refine A0 (zaZ rfl rfl isl_144) ?_;refine qbp ?_;refine Lp (ι:=Nat×Trial) 1 (fun (i:Nat×Trial)=>match i with|(k,x)=>((((Fr.none).set 0 (.ptr 0 0)).set 8 (.val (bsl fnoT) l)).set 9 (.val i64T (l.length:Int))).set 10 (.val i64T (k:Int))) (fun (i:Nat×Trial)=>match i with|(k,x)=>(Hp.none).set 0 (.box 139 zd5 x)) (fun (i:Nat×Trial)=>match i with|(k,x)=>k≤l.length∧zeO x∧zgF l x0=zgF (l.drop k) x∧zg2 l x0=zg2 (l.drop k) x) (fun (i:Nat×Trial)=>match i with|(k,x)=>l.length-k) ((0,x0)) (⟨uf _,hx0,rfl,rfl⟩) ?_;intro⟨k,x⟩ hinv;dsimp only at hinv;refine qas ?_;refine Cf (p:=k<l.length) (fun ht11=>?_) (fun ht11=>?_)
 ·
  obtain⟨f,hf⟩:∃f,l[k]?=some f:=⟨_,ub ht11⟩;have hask:=hl f (ud hf);rcases hask with he|he|he|he|he|he
  ·
   refine qaR ?_;refine zi (d:=14) rfl he ?_;refine zhE (d:=14) (f:=89) rfl ?_;refine A0 mP ?_;refine A0 (zif (As:=[_]) (Cs:=[]) (ask_size x) rfl rfl fn_89 ⟨yad,trivial⟩ yJ trivial rfl) ?_;refine qcG ?_;refine zk (p:=¬zgI f x=0) rfl yaT (fun ht18=>?_) (fun ht18=>?_)
   ·
    refine qcs ?_;refine xH ?_;exact zeN rfl rfl rfl rfl rfl (zbV rfl (hinv.2.2.2.trans (zaK hf ht18).2).symm) (zfA (zbV rfl (hinv.2.2.2.trans (zaK hf ht18).2).symm) rfl yal)
   refine qbF ?_;refine xH ?_;exact Nx ((k+1,askX f x)) (⟨by omega,zcz hinv.2.1,hinv.2.2.1.trans (zbP hf (ua ht18)).1,hinv.2.2.2.trans (zbP hf (ua ht18)).2⟩) yaf
  ·
   refine qaR ?_;refine zi (d:=14) rfl he ?_;refine zhE (d:=14) (f:=90) rfl ?_;refine A0 mP ?_;refine A0 (zif (As:=[_]) (Cs:=[]) (ask_prev x) rfl rfl fn_90 ⟨yad,trivial⟩ yJ trivial rfl) ?_;refine qcG ?_;refine zk (p:=¬zgI f x=0) rfl yaT (fun ht18=>?_) (fun ht18=>?_)
   ·
    refine qcs ?_;refine xH ?_;exact zeN rfl rfl rfl rfl rfl (zbV rfl (hinv.2.2.2.trans (zaK hf ht18).2).symm) (zfA (zbV rfl (hinv.2.2.2.trans (zaK hf ht18).2).symm) rfl yal)
   refine qbF ?_;refine xH ?_;exact Nx ((k+1,askX f x)) (⟨by omega,zcz hinv.2.1,hinv.2.2.1.trans (zbP hf (ua ht18)).1,hinv.2.2.2.trans (zbP hf (ua ht18)).2⟩) yaf
  ·
   refine qaR ?_;refine zi (d:=14) rfl he ?_;refine zhE (d:=14) (f:=91) rfl ?_;refine A0 mP ?_;refine A0 (zif (As:=[_]) (Cs:=[]) (ask_link x hinv.2.1) rfl rfl fn_91 ⟨yad,trivial⟩ yJ trivial rfl) ?_;refine qcG ?_;refine zk (p:=¬zgI f x=0) rfl yaT (fun ht18=>?_) (fun ht18=>?_)
   ·
    refine qcs ?_;refine xH ?_;exact zeN rfl rfl rfl rfl rfl (zbV rfl (hinv.2.2.2.trans (zaK hf ht18).2).symm) (zfA (zbV rfl (hinv.2.2.2.trans (zaK hf ht18).2).symm) rfl yal)
   refine qbF ?_;refine xH ?_;exact Nx ((k+1,askX f x)) (⟨by omega,zcz hinv.2.1,hinv.2.2.1.trans (zbP hf (ua ht18)).1,hinv.2.2.2.trans (zbP hf (ua ht18)).2⟩) yaf
  ·
   refine qaR ?_;refine zi (d:=14) rfl he ?_;refine zhE (d:=14) (f:=92) rfl ?_;refine A0 mP ?_;refine A0 (zif (As:=[_]) (Cs:=[]) (ask_root x) rfl rfl fn_92 ⟨yad,trivial⟩ yJ trivial rfl) ?_;refine qcG ?_;refine zk (p:=¬zgI f x=0) rfl yaT (fun ht18=>?_) (fun ht18=>?_)
   ·
    refine qcs ?_;refine xH ?_;exact zeN rfl rfl rfl rfl rfl (zbV rfl (hinv.2.2.2.trans (zaK hf ht18).2).symm) (zfA (zbV rfl (hinv.2.2.2.trans (zaK hf ht18).2).symm) rfl yal)
   refine qbF ?_;refine xH ?_;exact Nx ((k+1,askX f x)) (⟨by omega,zcz hinv.2.1,hinv.2.2.1.trans (zbP hf (ua ht18)).1,hinv.2.2.2.trans (zbP hf (ua ht18)).2⟩) yaf
  ·
   refine qaR ?_;refine zi (d:=14) rfl he ?_;refine zhE (d:=14) (f:=93) rfl ?_;refine A0 mP ?_;refine A0 (zif (As:=[_]) (Cs:=[]) (ask_work x) rfl rfl fn_93 ⟨yad,trivial⟩ yJ trivial rfl) ?_;refine qcG ?_;refine zk (p:=¬zgI f x=0) rfl yaT (fun ht18=>?_) (fun ht18=>?_)
   ·
    refine qcs ?_;refine xH ?_;exact zeN rfl rfl rfl rfl rfl (zbV rfl (hinv.2.2.2.trans (zaK hf ht18).2).symm) (zfA (zbV rfl (hinv.2.2.2.trans (zaK hf ht18).2).symm) rfl yal)
   refine qbF ?_;refine xH ?_;exact Nx ((k+1,askX f x)) (⟨by omega,zcz hinv.2.1,hinv.2.2.1.trans (zbP hf (ua ht18)).1,hinv.2.2.2.trans (zbP hf (ua ht18)).2⟩) yaf
  refine qaR ?_;refine zi (d:=14) rfl he ?_;refine zhE (d:=14) (f:=94) rfl ?_;refine A0 mP ?_;refine aw_calluv (ask_coins x hinv.2.1) rfl rfl fn_94 rfl trivial trivial rfl ⟨yn,trivial⟩ rfl rfl rfl ?_;refine qcG ?_;refine zk (p:=¬zgI f x=0) rfl yaT (fun ht18=>?_) (fun ht18=>?_)
  ·
   refine qcs ?_;refine xH ?_;exact zeN rfl rfl rfl rfl rfl (zbV rfl (hinv.2.2.2.trans (zaK hf ht18).2).symm) (zfA (zbV rfl (hinv.2.2.2.trans (zaK hf ht18).2).symm) rfl yal)
  refine qbF ?_;refine xH ?_;exact Nx ((k+1,askX f x)) (⟨by omega,zcz hinv.2.1,hinv.2.2.1.trans (zbP hf (ua ht18)).1,hinv.2.2.2.trans (zbP hf (ua ht18)).2⟩) yaf
 refine qcc ?_;exact zeN rfl rfl rfl rfl rfl (zbV rfl (hinv.2.2.2.trans (zl4 ya).2).symm) (zfA (zbV rfl (hinv.2.2.2.trans (zl4 ya).2).symm) rfl (hinv.2.2.1.trans (zl4 ya).1).symm)
def zbw (t:Tip) (b:Block):Int :=
  if 48≤b.h.height then 3 else if ¬zdn b.h=zdn (za5 t b.t b.h.nonce) then 5 else
  if ¬b.h.links=(za5 t b.t b.h.nonce).links∨¬b.l=zdE t then 6 else if ¬b.h=za5 t b.t b.h.nonce then 7 else
  if ¬zcd b.h=true then 4 else (zw t.c b.t).2
def zfR (t:Tip) (b:Block):Tip:=if zbw t b=0 then ⟨b,zbx t.p (zgW b.h),(zw t.c b.t).1⟩ else t
def zeB (t:Tip) (l:List Tx) (nonce:UInt64) (tries:Int):Int :=
  if 48≤(za5 t l nonce).height then 3 else if ¬(zw t.c l).2=0 then (zw t.c l).2 else if (zgS (za5 t l nonce) tries).isSome=true then 0 else 4
def zpG (t:Tip) (l:List Tx) (nonce:UInt64) (tries:Int):Block :=
  if zeB t l nonce tries=0 then ⟨(zgS (za5 t l nonce) tries).getD (za5 t l nonce),zdE t,l⟩ else zmO
theorem ask_two {x:Trial}:zgF [some 89,some 94] x=if 48≤x.b.h.height then 3 else (zw x.t.c x.b.t).2:=by
  show(if zkq x=0 then (if zf1 x=0 then 0 else zf1 x) else zkq x)=_;unfold zkq zf1;by_cases h:48≤x.b.h.height
  · rw[ut h,ut h,ur yp]
  rw[ur h,ur h,ut rfl];split<;>simp_all
theorem ziQ {p:Prop} [Decidable p] {e r:Int} (he:e≠0):(if (if p then e else 0)=0 then r else (if p then e else 0))=if p then e else r:=by
  by_cases h:p
  · rw[ut h,ut h,ur he]
  rw[ur h,ur h,ut rfl]
theorem ask_all {t:Tip} {b:Block} {c:List Coin}:zgF [some 89,some 90,some 91,some 92,some 93,some 94] ⟨t,b,za5 t b.t b.h.nonce,c⟩=zbw t b:=by
  obtain⟨x,hx⟩:∃x:Trial,x=⟨t,b,za5 t b.t b.h.nonce,c⟩:=⟨_,rfl⟩;have e:zbw t b=zbw x.t x.b:=by rw[hx]
  have hw:x.want=za5 x.t x.b.t x.b.h.nonce:=by rw[hx]
  rw[e,←hx];show(if zkq x=0 then (if zn1 x=0 then (if zmH x=0 then (if znZ x=0 then (if znP x=0 then (if zf1 x=0 then 0 else zf1 x) else znP x) else znZ x) else zmH x) else zn1 x) else zkq x)=_;have hc:(if zf1 x=0 then 0 else zf1 x)=zf1 x:=by split<;>simp_all
  rw[hc];unfold zkq zn1 zmH znZ znP zf1 zbw;rw[ziQ yp,ziQ yp,ziQ yp,ziQ yp,ziQ yp,hw]
theorem ask_allX {t:Tip} {b:Block} {c:List Coin} (h:zbw t b=0):(zg2 [some 89,some 90,some 91,some 92,some 93,some 94] ⟨t,b,za5 t b.t b.h.nonce,c⟩).c=(zw t.c b.t).1:=by
  obtain⟨x,hx⟩:∃x:Trial,x=⟨t,b,za5 t b.t b.h.nonce,c⟩:=⟨_,rfl⟩;have hw:x.want=za5 x.t x.b.t x.b.h.nonce:=by rw[hx]
  have h:zbw x.t x.b=0:=by rw[hx];exact h
  have e:(zw t.c b.t).1=(zw x.t.c x.b.t).1:=by rw[hx]
  rw[e,←hx];show(if zkq x=0 then (if zn1 x=0 then (if zmH x=0 then (if znZ x=0 then (if znP x=0 then (if zf1 x=0 then zqf x else zqf x) else x) else x) else x) else x) else x).c=_;unfold zbw at h;rw[←hw] at h;by_cases h1:48≤x.b.h.height
  · rw[ut h1] at h;exact absurd h yp
  rw[ur h1] at h;by_cases h2:¬zdn x.b.h=zdn x.want
  · rw[ut h2] at h;exact absurd h yp
  rw[ur h2] at h;by_cases h3:¬x.b.h.links=x.want.links∨¬x.b.l=zdE x.t
  · rw[ut h3] at h;exact absurd h yp
  rw[ur h3] at h;by_cases h4:¬x.b.h=x.want
  · rw[ut h4] at h;exact absurd h yp
  rw[ur h4] at h;by_cases h5:¬zcd x.b.h=true
  · rw[ut h5] at h;exact absurd h yp
  rw[ur h5] at h;unfold zkq zn1 zmH znZ znP zf1;rw[ur h1,ur h2,ur h3,ur h4,ur h5,ut rfl,ut rfl,ut rfl,ut rfl,ut rfl,ut h];rfl
theorem asks_all:∀f∈([some 89,some 90,some 91,some 92,some 93,some 94]:List (Option Nat)),Asks f:=by intro f hf;simp at hf;unfold Asks;exact hf
theorem asks_two:∀f∈([some 89,some 94]:List (Option Nat)),Asks f:=by intro f hf;simp at hf;unfold Asks;rcases hf with h|h<;>simp[h]
theorem mineBE_err {t:Tip} {l:List Tx} {nonce:UInt64} {tries:Int} (h:¬(if 48≤(za5 t l nonce).height then 3 else (zw t.c l).2)=0):zeB t l nonce tries=(if 48≤(za5 t l nonce).height then 3 else (zw t.c l).2):=by
  unfold zeB
  split
  · rfl
  rename_i h1;rw[ur h1] at h;rw[ut h]
theorem zqR {t:Tip} {l:List Tx} {nonce:UInt64} {tries:Int} (h:(if 48≤(za5 t l nonce).height then 3 else (zw t.c l).2)=0) (h2:¬(zgS (za5 t l nonce) tries).isSome=true):zeB t l nonce tries=4:=by
  unfold zeB
  split
  · rename_i h1;rw[ut h1] at h;exact absurd h yp
  rename_i h1;rw[ur h1] at h;simp only[h,h2,not_true_eq_false,if_false]
theorem mineBE_ok {t:Tip} {l:List Tx} {nonce:UInt64} {tries:Int} (h:(if 48≤(za5 t l nonce).height then 3 else (zw t.c l).2)=0) (h2:(zgS (za5 t l nonce) tries).isSome=true):zeB t l nonce tries=0:=by
  unfold zeB
  split
  · rename_i h1;rw[ut h1] at h;exact absurd h yp
  rename_i h1;rw[ur h1] at h;simp only[h,h2,not_true_eq_false,if_false]
theorem push_ok (t:Tip) (b:Block) (ht:zeG t) (hb:zd8 b):Tells P 53 [.val tipT t,.val zt b] (.tup2 (.val tipT (zfR t b)) (.val i64T (zbw t b))):=by
 have hbt:=hb.2.1;have htp:=ht.2.1;refine zc Tryz.func53 rfl rfl rfl (fun ext w hext=>?_);refine qaw ?_;refine xd ?_;refine qaJ ?_;refine zn [some 1,some 1,some 1,some 1,some 1,some 1,some 1,some 1,some 1,some 1,none,some 1] mixed yc ?_;refine X0 (oLs rfl rfl rfl zaP) ?_;refine X0 (oLs rfl rfl rfl zbg) ?_;refine X0 (oLs rfl rfl rfl zaP) ?_;refine X0 (oFp zdl) ?_;refine X0 (oLb zda zhZ) ?_;refine X0 (oFp zah) ?_;refine X0 (oFp zfE) ?_;refine X0 (oLb (zE.comp zb0) zaQ) ?_;refine X0 (oCl (zr8 t b.t b.h.nonce ya ya) rfl fn_88 ybv) ?_;refine X0 (z7 rfl ze_139 bd_139 (.cons zkQ zjb zaP rfl (.cons zgu zff zbg rfl (.cons ziX zem za4 rfl .nil))) rfl) ?_;refine XK.e (fun fr' hfr kk H=>by exact zmu rfl rfl rfl rfl ((hfr 18 yc).trans rfl) (zp H)) ?_;refine X0 aP ?_;refine xc ?_;refine CQR ?_;refine A0 (g_buildF (xs:=[_,_,_,_,_,_]) rfl ar_142 ze_142 ⟨rfl,⟨_,rfl,rfl⟩,rfl,⟨_,rfl,rfl⟩,rfl,⟨_,rfl,rfl⟩,rfl,⟨_,rfl,rfl⟩,rfl,⟨_,rfl,rfl⟩,rfl,⟨_,rfl,rfl⟩,trivial⟩ rfl) ?_;refine zP ze_142 rfl rfl rfl rfl ?_;refine zg rfl rfl rfl rfl rfl (Lens.self _) ty_142 rfl ?_;refine CNQ ?_;refine CQ ?_;refine zej (d:=7) rfl rfl (Lens.self _) ?_;refine CR ?_;refine A0 mP ?_;refine A0 (zlV rfl rfl ar_142 rfl rfl) ?_;refine zhF (zsA ⟨t,b,za5 t b.t b.h.nonce,[]⟩ [some 89,some 90,some 91,some 92,some 93,some 94] ⟨ht,by show b.t.length≤4000000000000;omega⟩ asks_all) rfl fn_95 rfl trivial trivial rfl ybI rfl rfl rfl ?_;refine zi (d:=23) rfl ask_all ?_;refine qaS ?_;refine qaT ?_;refine zk (p:=¬zbw t b=0) rfl yF (fun ht25=>?_) (fun ht25=>?_)
 ·
  refine CQR ?_;refine xb ?_;refine A0 (oCl (own_ok t ht) rfl fn_96 ye) ?_;refine qa9 ?_;refine qap ?_;refine qad ?_;exact zx rfl rfl (zC rfl rfl zaP (by unfold zfR;rw[ur ht25])) (zX (zb rfl (rfl)))
 refine CS ?_;refine CQ ?_;refine zn [some 1,some 1,some 1,some 1,some 1,some 1,some 1,some 1,some 1,some 1,some 1,some 1,some 1,none,some 1] mixed yc ?_;refine X0 (oLs rfl rfl rfl zbg) ?_;refine X0 (oCl (zqe b hb) rfl fn_97 ye) ?_;refine X0 (oFp zfD) ?_;refine X0 (oLb zfK zko) ?_;refine X0 (oFp zah) ?_;refine X0 (oLb zE za4) ?_;refine X0 (oCl (zsh _) rfl fn_99 ye) ?_;refine X0 (oCl (zF (zj9 t.p (zgW b.h) ya)) rfl fn_98 yf) ?_;refine X0 mP ?_;refine X0 (g_nc rfl rfl) ?_;refine X0 (oFp zsF) ?_;refine X0 (oLb zqA zir) ?_;refine X0 (z7 rfl zep zi6 (.cons zdU zbL zbg rfl (.cons zfD zfK zko rfl (.cons zjL zjU zir rfl .nil))) rfl) ?_;refine XK.e (x:=.idk) (fun fr' hfr kk H=>by exact zg rfl rfl rfl ((hfr 4 yc).trans rfl) rfl (Lens.self _) zaP ((hfr 41 yc).trans rfl) (zp H)) ?_;refine X0 aV ?_;refine xc ?_;exact zx rfl rfl (zC rfl rfl zaP (by unfold zfR;rw[ut (ua ht25),ask_allX (ua ht25)])) (zX (zb rfl ((ua ht25).symm)))
theorem mineB_ok (t:Tip) (l:List Tx) (nonce:UInt64) (tries:Int) (ht:zeG t) (hl:zmZ l):Tells P 67 [.val tipT t,.val (sl txT) l,.val u64T nonce,.val i64T tries] (.tup2 (.val zt (zpG t l nonce tries)) (.val i64T (zeB t l nonce tries))):=by
 have hbt:=hl.1;have htp:=ht.2.1;refine zc Tryz.func67 rfl rfl rfl (fun ext w hext=>?_);refine ze (d:=1) rfl zm (fun hsl1=>?_);refine ze (d:=3) rfl zab (fun hin3=>?_);refine qaf ?_;refine zP zje rfl rfl rfl rfl ?_;refine qaj ?_;refine xb ?_;refine qai ?_;refine A0 (oCl (zr8 t l nonce ya ya) rfl fn_88 ybv) ?_;refine qcR ?_;refine qb8 ?_;refine CNQR ?_;refine xb ?_;refine qcp ?_;refine qa9 ?_;refine A0 (z7 rfl zje bd_37 (.cons zah zE za4 rfl (.cons zdl zda zhZ rfl .nil)) rfl) ?_;refine qcp ?_;refine A0 (z7 rfl ze_139 bd_139 (.cons zkQ zjb zaP rfl (.cons zgu zff zbg rfl (.cons ziX zem za4 rfl .nil))) rfl) ?_;refine zmu rfl rfl rfl rfl rfl ?_;refine A0 aP ?_;refine CNQQR ?_;refine A0 mP ?_;refine A0 (g_bslF (xs:=[_,_]) rfl sl_144 row_144 ⟨rfl,⟨_,rfl,rfl⟩,rfl,⟨_,rfl,rfl⟩,trivial⟩ rfl rfl) ?_;refine zhF (zsA ⟨t,⟨za5 t l nonce,[],l⟩,za5 t l nonce,[]⟩ [some 89,some 94] ⟨ht,by show l.length≤4000000000000;omega⟩ asks_two) rfl fn_95 rfl trivial trivial rfl ybI rfl rfl rfl ?_;refine zi (d:=27) rfl ask_two ?_;refine qaS ?_;refine qaT ?_;refine zk (p:=¬(if 48≤(za5 t l nonce).height then 3 else (zw t.c l).2)=0) rfl yF (fun ht29=>?_) (fun ht29=>?_)
 ·
  have hE:zeB t l nonce tries=(if 48≤(za5 t l nonce).height then 3 else (zw t.c l).2):=mineBE_err ht29;refine CQR ?_;refine A0 (z7 rfl zje bd_37 .nil rfl) ?_;refine qa9 ?_;refine qaW ?_;refine qad ?_;exact zx rfl rfl (zC rfl rfl zbg (by unfold zpG;rw[hE,ur ht29])) (zX (zb rfl (hE.symm)))
 refine CSQR ?_;refine qcp ?_;refine qa9 ?_;refine A0 (oCl (mine_ok (za5 t l nonce) tries) rfl fn_118 yf) ?_;refine qaM ?_;refine qb8 ?_;refine qah ?_;refine qaQ ?_;refine zk (p:=¬(zgS (za5 t l nonce) tries).isSome=true) rfl (by cases (zgS (za5 t l nonce) tries).isSome<;>rfl) (fun ht39=>?_) (fun ht39=>?_)
 ·
  have hE:zeB t l nonce tries=4:=zqR (ua ht29) ht39;refine CQR ?_;refine A0 (z7 rfl zje bd_37 .nil rfl) ?_;refine qaW ?_;refine qad ?_;exact zx rfl rfl (zC rfl rfl zbg (by unfold zpG;rw[hE];rfl)) (zX (zb rfl (hE.symm)))
 have hE:zeB t l nonce tries=0:=mineBE_ok (ua ht29) (ua ht39);refine CS ?_;refine CQ ?_;refine xg ?_;refine xE ?_;refine X0 (oLs rfl rfl rfl zaP) ?_;refine X0 (oCl (zF (zlD t)) rfl fn_119 ye) ?_;refine X0 mV ?_;refine X0 (oCl (zF (txs_ok l hl)) rfl fn_120 ye) ?_;refine X0 (z7 rfl zje bd_37 (.cons zah zE za4 rfl (.cons zcD zb1 zf8 rfl (.cons zdl zda zhZ rfl .nil))) rfl) ?_;refine XK.e (x:=.idk) (fun fr' hfr kk H=>by exact zg rfl rfl rfl ((hfr 8 yc).trans rfl) rfl (Lens.self _) zbg ((hfr 46 yc).trans rfl) (zp H)) ?_;refine X0 aV ?_;refine xc ?_;exact zx rfl rfl (zC rfl rfl zbg (by unfold zpG;rw[hE,ut rfl])) (zX (zb rfl (hE.symm)))
def few (t:Tx):Bool:=decide (t.ins.length≤6∧t.outs.length≤6)
theorem few_ok (t:Tx):Tells P 68 [.val txT t] (.val zu (few t)):=by
 refine zc Tryz.func68 rfl rfl rfl (fun ext w hext=>?_);refine qaf ?_;refine qaj ?_;refine qa3 ?_;refine A0 zhK ?_;refine Sp (d:=6) (p:=t.ins.length≤6) (fun g6=>?_) (fun g6=>?_)
 ·
  refine qa9 ?_;refine qbl ?_;refine A1 zhK ?_;refine qbi ?_;exact za rfl rfl (zb rfl yaR)
 refine qa9 ?_;refine qac ?_;refine A2 ?_;refine qbi ?_;exact za rfl rfl (zb rfl yaR)
theorem fewAll_ok (l:List Tx) (m:Int):Tells P 35 [.val (bsl txT) l,.val i64T m] (.val zu (l.all few&&decide ((l.length:Int)≤m))):=by
 refine zc Tryz.func35 rfl rfl rfl (fun ext w hext=>?_);refine ze (d:=0) rfl zm (fun hsl0=>?_);refine ze (d:=1) rfl zab (fun hin1=>?_);refine CQR ?_;refine qbR ?_;refine Lp (ι:=Nat) 0 (fun (k:Nat)=>(((Fr.none).set 0 (.val (bsl txT) l)).set 1 (.val i64T m)).set 5 (.val i64T (k:Int))) (fun (k:Nat)=>Hp.none) (fun (k:Nat)=>k≤l.length∧(l.take k).all few=true) (fun (k:Nat)=>l.length-k) (0) (⟨uf _,rfl⟩) ?_;intro k hinv;refine qb9 ?_;refine qbG ?_;refine qa1 ?_;refine Cf (p:=k<l.length) (fun ht10=>?_) (fun ht10=>?_)
 ·
  obtain⟨t,ht⟩:∃t,l[k]?=some t:=⟨_,ub ht10⟩;refine CSQBQR ?_;refine qai ?_;refine A0 (zbj rfl rfl rfl zhI yj) ?_;refine A0 (zh rfl rfl zdM) ?_;refine A0 (oCl (few_ok _) rfl fn_68 ybD) ?_;refine qaS ?_;refine qaQ ?_;refine zk (p:=¬few t=true) rfl yx (fun ht19=>?_) (fun ht19=>?_)
  ·
   refine qaq ?_;exact za rfl rfl (zb rfl (by symm;rw[Bool.and_eq_false_iff];left;rw[List.all_eq_false];exact⟨t,ud ht,ht19⟩))
  refine qbZ ?_;exact Nx (k+1) (⟨by omega,by rw[un,ht,List.all_append,hinv.2];simp[ua ht19]⟩) ya
 refine CE ?_;refine qa0 ?_;refine qbG ?_;refine qa9 ?_;refine A0 zhK ?_;refine qad ?_;exact za rfl rfl (zb rfl (by rw[uc ya] at hinv;rw[hinv.2,Bool.true_and];rfl))
def s2:Ab.Id:=[219,193,180,201,0,255,228,141,87,91,93,165,198,56,4,1,37,246,93,176,254,62,36,73,75,118,234,152,100,87,217,134]
def s4:Ab.Id:=[229,45,156,80,140,80,35,71,52,77,140,7,173,145,203,214,6,138,252,117,255,98,146,240,98,160,156,163,129,200,158,113]
def id0:Ab.Id:=[204,117,100,156,217,35,11,173,35,93,199,149,159,68,227,45,148,39,20,174,85,27,122,223,187,132,2,33,173,199,16,195]
def lk0:Ab.Id:=[191,122,202,251,39,175,213,3,220,82,240,192,217,1,99,0,242,60,209,156,152,127,176,94,46,148,67,11,109,16,112,47]
def zmK:Head:=⟨0,zId,s2,s2,s4,zax,545259519,0⟩
def zq8 (n:UInt64):Head:=⟨1,id0,lk0,s2,id0,[2,0,0,0],545259519,n⟩
theorem sum_s2:zea [2]=s2:=yu
theorem sum_s4:zea [4]=s4:=yu
theorem znY:zeA []=s2:=by rw[zeA,ut (show([]:List Ab.Id).length=0 from rfl),sum_s2]
theorem root_one (x:Ab.Id):zeA [x]=x:=by rw[zeA,ur (show ¬[x].length=0 by simp),dif_pos (show [x].length≤1 by simp)];rfl
theorem easy_first:zhT 545259519=zmK:=by
  have e1:zhq []=s2:=znY;have e2:zmV []=s2:=znY;have e3:(zer []).h=s4:=sum_s4;unfold zhT;rw[e1,e2,e3];rfl
theorem zoz:zR zmK=id0:=yu
theorem easy_work:zcF zmK=[2,0,0,0]:=yu
theorem zmb:zay 545259519=true:=yu
theorem easy_lk:znm id0=lk0:=yu
theorem easy_may0:zcd (zq8 0)=false:=yu
theorem zqa:zcd (zq8 1)=true:=yu
def leaf0:Total:=leafT id0 [2,0,0,0]
def zew:Tip:=⟨⟨zmK,[],[]⟩,[leaf0],[]⟩
def zb4:Block:=⟨zq8 1,[id0],[]⟩
def leaf1:Total:=zgW (zq8 1)
def zsK:Tip:=⟨zb4,zbx [leaf0] leaf1,[]⟩
theorem easy_leaf:zgW zmK=leaf0:=by unfold zgW leaf0;rw[zoz,easy_work]
theorem zsJ:zaw 545259519=zew:=by unfold zaw;rw[ut zmb,easy_first,easy_leaf];rfl
theorem zjM:zdE zew=[id0]:=by
  show zb8 [] (zR zmK) (zaL zmK)=_;rw[zoz];unfold zb8;rw[ur (show ¬32<([]:List Ab.Id).length by decide),ut (show([]:List Ab.Id).length=0 from rfl)]
theorem zmc (n:UInt64):za5 zew [] n=zq8 n:=by
  have e1:zhq [id0]=lk0:=(root_one _).trans easy_lk;have e2:zmV []=s2:=znY;unfold za5;rw[zjM,e1,e2];show(⟨_,zR zmK,_,_,_,_,_,_⟩:Head)=_;rw[zoz];rfl
theorem zp7:zgS (zq8 0) 200=some (zq8 1):=by
  unfold zgS;rw[ziN yp (by rw[easy_may0];decide)];exact zgT yp zqa
theorem zmx:zw [] []=([],0):=yu
theorem znz:zeB zew [] 0 200=0:=by
  unfold zeB;rw[zmc,ur yp,show(zw zew.c []).2=0 from congrArg (·.2) zmx,ur yp,zp7];rfl
theorem easy_mineB:zpG zew [] 0 200=zb4:=by
  unfold zpG;rw[znz,ut rfl,zmc,zp7,zjM];rfl
theorem zny:zbw zew zb4=0:=by
  unfold zbw;have e:za5 zew zb4.t zb4.h.nonce=zb4.h:=zmc 1;rw[e,ur yp,ur yx,ur (by rw[zjM];simp[zb4]),ur yx,ur (by rw[show zcd zb4.h=true from zqa];simp)];exact congrArg (·.2) zmx
theorem easy_pushT:zfR zew zb4=zsK:=by
  unfold zfR;rw[zny,ut rfl,show(zw zew.c zb4.t).1=[] from congrArg (·.1) zmx];rfl
theorem zqJ:zd8 zb4:=by refine⟨by decide,by decide,fun t ht=>by cases ht⟩
def fewB (b:Block):Bool:=(b.t.all few&&decide ((b.t.length:Int)≤6))&&decide (b.l.length≤40)
theorem few_small {l:List Tx} (h:(l.all few&&decide ((l.length:Int)≤6))=true):zmZ l:=by
  rw[uk,uj] at h;refine⟨by omega,fun t ht=>?_⟩
  have:=List.all_eq_true.1 h.1 t ht
  unfold few at this;rw[uj] at this;exact⟨by omega,by omega⟩
theorem fewB_small {b:Block} (h:fewB b=true):zd8 b:=by
  unfold fewB at h;rw[uk,uj] at h;exact⟨by omega,few_small h.1⟩
theorem eq_u32 {x y:UInt32}:decide (IntL.toI u32T x=IntL.toI u32T y)=decide (x=y):=by rw[uo];show((x.toNat:Nat):Int)=((y.toNat:Nat):Int)↔_;rw[Int.ofNat_inj,UInt32.toNat_inj]
theorem zpz:∀(r:List Total) (x:Total),(zkr r x).length≤r.length+1
  | [],_=>ug _
  | y::r,x=>by
    rw[zkr]
    split
    · have:=zpz r (ziP y x);rw[List.length_cons];omega
    rw[List.length_cons];omega
theorem zod {p:List Total} {x:Total}:(zbx p x).length≤p.length+1:=by
  unfold zbx
  have:=zpz p.reverse x
  rw[List.length_reverse] at this ⊢;exact this
theorem apply_may {p:List Coin} {l:List Tx} (h:(zw p l).2=0):zak p=true:=by
  refine Classical.byContradiction fun hn=>?_
  unfold zw at h;rw[ut hn] at h;exact absurd h (show ¬(1:Int)=0 by decide)
theorem push_iff {t:Tip} {b:Block}:zbw t b=0↔b.h.height<48∧b.h=za5 t b.t b.h.nonce∧b.l=zdE t∧zcd b.h=true∧(zw t.c b.t).2=0:=by
  constructor
  · intro h
    unfold zbw at h;by_cases h1:48≤b.h.height
    · rw[ut h1] at h;exact absurd h yp
    rw[ur h1] at h;by_cases h2:¬zdn b.h=zdn (za5 t b.t b.h.nonce)
    · rw[ut h2] at h;exact absurd h yp
    rw[ur h2] at h;by_cases h3:¬b.h.links=(za5 t b.t b.h.nonce).links∨¬b.l=zdE t
    · rw[ut h3] at h;exact absurd h yp
    rw[ur h3] at h;by_cases h4:¬b.h=za5 t b.t b.h.nonce
    · rw[ut h4] at h;exact absurd h yp
    rw[ur h4] at h;by_cases h5:¬zcd b.h=true
    · rw[ut h5] at h;exact absurd h yp
    rw[ur h5] at h;exact⟨by omega,ua h4,ua fun hc=>h3 (.inr hc),ua h5,h⟩
  rintro ⟨h1,h2,h3,h4,h5⟩
  unfold zbw;rw[ur ya,ur (Classical.not_not.2 (congrArg zdn h2)),ur (fun h=>h.elim (fun h=>h (congrArg (·.links) h2)) fun h=>h h3),ur (Classical.not_not.2 h2),ur (Classical.not_not.2 h4)];exact h5
theorem zq0 {a:UInt32} (h:zay a=true):zaw a=⟨⟨zhT a,[],[]⟩,[zgW (zhT a)],[]⟩:=by unfold zaw;rw[ut h];rfl
theorem cb_split {x y:UInt8} {a b:List UInt8} (h:x≠y):Lib.compareBytes (x::a) (y::b)<0↔x<y:=by
  unfold Lib.compareBytes;by_cases h1:x<y
  · simp[h1]
  have h2 : y < x := by
    rcases UInt8.lt_or_lt_of_ne h with h|h
    · exact absurd h h1
    exact h
  simp[h1,h2]
theorem cb_same:∀{p a b:List UInt8},Lib.compareBytes (p++a) (p++b)=Lib.compareBytes a b
  | [],_,_=>rfl
  | x::p,a,b=>by
    rw[List.cons_append,List.cons_append,Lib.compareBytes,ur (UInt8.lt_irrefl _),ur (UInt8.lt_irrefl _)];exact cb_same
theorem less_at {a b:List UInt8} {k:Nat} (ha:k<a.length) (hb:k<b.length) (h:a.take k=b.take k) (hn:a.getD k default≠b.getD k default):decide (a.getD k default<b.getD k default)=decide (Lib.compareBytes a b<0):=by
  rw[uo];have e1:a=a.take k++a[k]::a.drop (k+1):=by rw[←List.drop_eq_getElem_cons ha,List.take_append_drop]
  have e2:b=a.take k++b[k]::b.drop (k+1):=by rw[h,←List.drop_eq_getElem_cons hb,List.take_append_drop]
  have g1:a.getD k default=a[k]:=by simp[List.getD,ha]
  have g2:b.getD k default=b[k]:=by simp[List.getD,hb]
  rw[g1,g2] at hn ⊢
  have:Lib.compareBytes a b=Lib.compareBytes (a[k]::a.drop (k+1)) (b[k]::b.drop (k+1)):=by
    conv=>lhs;rw[e1,e2]
    exact cb_same
  rw[this];exact(cb_split hn).symm
theorem take_same {α:Type} [Inhabited α] {a b:List α} {k:Nat} (ha:k<a.length) (hb:k<b.length) (h:a.take k=b.take k) (hn:a.getD k default=b.getD k default):a.take (k+1)=b.take (k+1):=by
  rw[un,un,h,ub ha,ub hb];congr 2;simpa [List.getD,ha,hb] using hn
theorem fact_id {a:Ab.Id} {ρ:Nat→Value} {B:Nat→Prop} {U N:Nat→Prop} {w:World} {v:Value} (h:(AV.val idT a).rel ρ B U N w v):a.length=32:=by
  obtain⟨cs,h,_⟩:=h;exact h.1
theorem zmq {a b:In}:decide (zaI a b<0)=(decide (Lib.compareBytes a.tx b.tx<0)||(decide (a.tx=b.tx)&&decide (a.i<b.i))):=by
  rw[ziL];by_cases h:Lib.compareBytes a.tx b.tx=0
  · have h':=zhb.1 h
    rw[ut h,h];simp only[h',zg7];by_cases c:a.i<b.i<;>by_cases d:b.i<a.i<;>simp[c,d]
  rw[ur h];have h':¬a.tx=b.tx:=fun e=>h (zhb.2 e)
  simp[h']
theorem zoU {α:Type} {f:α→Bool} {p:List α} {k:Nat} {c:α} (h:(p.take k).any f=false) (hp:p[k]?=some c) (hf:f c=false):(p.take (k+1)).any f=false:=by
  rw[un,hp,List.any_append,h];simp[hf]
theorem zrn {α:Type} {f:α→Bool} {p:List α} {c:α} {k:Nat} (hp:p[k]?=some c) (hf:f c=true):p.any f=true:=List.any_eq_true.2 ⟨c,ud hp,hf⟩
theorem zba {α:Type} {f:α→Bool} {p:List α} {c:α} {j k:Nat} (hp:p[j]?=some c) (hj:j<k) (hf:f c=true):(p.take k).any f=true:=zrn (k:=j) (by rw[List.getElem?_take_of_lt hj];exact hp) hf
theorem ze3 {t:Tx} {o:Out} {k:Nat} (h:t.outs[k]?=some o) (hb:o.v<1∨1099511627776<o.v∨o.to<0∨255<o.to):zaz t=false:=by
  have:t.outs.any zj6=true:=zrn h (ui hb)
  unfold zaz;rw[this];simp
theorem rless_ok (a b:Ab.Id):Tells P 241 [.val idT a,.val idT b] (.val zu (decide (Lib.compareBytes a b<0))):=by
 refine zc Tryz.func241 rfl rfl rfl (fun ext w hext=>?_);refine ze (d:=0) rfl fact_id (fun ha=>?_);refine ze (d:=1) rfl fact_id (fun hb=>?_);refine qaw ?_;refine qbR ?_;refine Lp (ι:=Nat) 2 (fun (k:Nat)=>(((Fr.none).set 2 (.ptr 0 0)).set 3 (.ptr 1 0)).set 5 (.val i64T (k:Int))) (fun (k:Nat)=>((Hp.none).set 0 (.box 27 idT a)).set 1 (.box 27 idT b)) (fun (k:Nat)=>k≤32∧a.take k=b.take k) (fun (k:Nat)=>32-k) (0) (⟨uf _,rfl⟩) ?_;intro k hinv;refine qaK ?_;refine qa1 ?_;refine Cf (p:=k<32) (fun ht7=>?_) (fun ht7=>?_)
 ·
  refine qcK ?_;refine G0 mV ?_;refine G0 (zs (i:=k) rfl rfl rfl yh zc8 ya) ?_;refine xI ?_;refine G0 mV ?_;refine G0 (zs (i:=k) rfl rfl rfl yh zc8 ya) ?_;refine xI ?_;refine G0 zeb ?_;refine GK.nil ?_;refine zk (p:=a.getD k default≠b.getD k default) rfl (by simp[IntL.toI];exact Int.ofNat_inj.trans UInt8.toNat_inj) (fun ht16=>?_) (fun ht16=>?_)
  ·
   refine qaH ?_;refine G0 mV ?_;refine G0 (zs (i:=k) rfl rfl rfl yh zc8 ya) ?_;refine xI ?_;refine G0 mV ?_;refine G0 (zs (i:=k) rfl rfl rfl yh zc8 ya) ?_;refine xI ?_;refine G0 zbK ?_;refine qa6 ?_;exact za rfl rfl (zb rfl ((by simp[IntL.toI,UInt8.lt_iff_toNat_lt]:_=_).trans (less_at ya ya hinv.2 ht16)))
  refine qbZ ?_;exact Nx (k+1) (⟨by omega,take_same ya ya hinv.2 (ua ht16)⟩) ya
 refine qcc ?_;exact za rfl rfl (zb rfl (uh (by have h:=hinv.2;rw[uc ya,uc ya] at h;rw[h,zhb.2 rfl];exact Int.lt_irrefl 0)).symm)
theorem znf (a b:Coin):Tells P 210 [.val zal a,.val zal b] (.val zu (decide (zaI a.inn b.inn<0))):=by
 refine zc Tryz.func210 rfl rfl rfl (fun ext w hext=>?_);refine qaw ?_;refine qaj ?_;refine A0 (oFp zbc) ?_;refine A0 (oFp zcH) ?_;refine A0 (oLb (zau.comp zd0) zT) ?_;refine A0 (oFp zbc) ?_;refine A0 (oFp zcH) ?_;refine A0 (oLb (zau.comp zd0) zT) ?_;refine A0 (oCl (rless_ok _ _) rfl fn_241 yf) ?_;refine Sp (d:=12) (p:=Lib.compareBytes a.inn.tx b.inn.tx<0) (fun g12=>?_) (fun g12=>?_)
 ·
  refine qbW ?_;refine qcT ?_;refine qcI ?_;refine qcx ?_;refine A3 ?_;refine A3 ?_;refine A3 ?_;refine A2 ?_;refine qbi ?_;exact za rfl rfl (zb rfl (by rw[zmq];simp[g12]))
 refine qbW ?_;refine A1 (oFp zbc) ?_;refine A1 (oFp zcH) ?_;refine A1 (oLb (zau.comp zd0) zT) ?_;refine A1 (oFp zbc) ?_;refine A1 (oFp zcH) ?_;refine A1 (oLb (zau.comp zd0) zT) ?_;refine A1 (zfY rfl rfl rfl (zdw)) ?_;refine zad (d:=21) (p:=a.inn.tx=b.inn.tx) rfl yx (fun g21=>?_) (fun g21=>?_)
 ·
  refine A1 mV ?_;refine A1 (oFp zbc) ?_;refine A1 (oFp zbm) ?_;refine A1 (oLb (zau.comp zeo) ty_3) ?_;refine A1 (oFp zbc) ?_;refine A1 (oFp zbm) ?_;refine A1 (oLb (zau.comp zeo) ty_3) ?_;refine A1 zbK ?_;refine A1 oK ?_;refine qbi ?_;exact za rfl rfl (zb rfl (by rw[zmq,uh g12,Bool.false_or,ui g21,Bool.true_and];rfl))
 refine A1 mV ?_;refine qcT ?_;refine A2 ?_;refine A1 oK ?_;refine qbi ?_;exact za rfl rfl (zb rfl (by rw[zmq,uh g12,uh g21];rfl))
theorem rmay_ok (p:List Coin):Tells P 174 [.val (bsl zal) p] (.val zu (zak p)):=by
 refine zc Tryz.func174 rfl rfl rfl (fun ext w hext=>?_);refine ze (d:=0) rfl zm (fun hsl0=>?_);refine CQR ?_;refine qbR ?_;refine Lp (ι:=Nat) 0 (fun (k:Nat)=>((Fr.none).set 0 (.val (bsl zal) p)).set 3 (.val i64T (k:Int))) (fun (k:Nat)=>Hp.none) (fun (k:Nat)=>k≤p.length∧(List.range k).all (zg6 p)=true) (fun (k:Nat)=>p.length-k) (0) (⟨uf _,rfl⟩) ?_;intro k hinv;refine qb9 ?_;refine qcP ?_;refine qa1 ?_;refine Cf (p:=k<p.length) (fun ht9=>?_) (fun ht9=>?_)
 ·
  obtain⟨c,hc⟩:∃c,p[k]?=some c:=ya0;refine CSQBQR ?_;refine qai ?_;refine A0 (zD (i:=k) rfl rfl rfl ya zeq yj) ?_;refine A0 (zh rfl rfl zd4) ?_;refine zP zo3 rfl rfl rfl rfl ?_;refine zg rfl rfl rfl rfl rfl (Lens.self _) zd4 rfl ?_;refine CNQQR ?_;refine A0 (oFp zbc) ?_;refine A0 (oFp zbm) ?_;refine A0 (oLb (zau.comp zeo) ty_3) ?_;refine A0 zbK ?_;refine Sp (d:=19) (p:=c.inn.i<0) (fun g19=>?_) (fun g19=>?_)
  ·
   refine qa9 ?_;refine qam ?_;refine qat ?_;refine qam ?_;refine qbH ?_;refine qaZ ?_;refine Ct ?_;refine qaq ?_;exact za rfl rfl (zb rfl (zbQ hc ht9 ya).symm)
  refine qa9 ?_;refine A1 (oFp zbc) ?_;refine A1 (oFp zbm) ?_;refine A1 (oLb (zau.comp zeo) ty_3) ?_;refine A1 zec ?_;refine Sp (d:=24) (p:=3≤c.inn.i) (fun g24=>?_) (fun g24=>?_)
  ·
   refine qat ?_;refine qam ?_;refine qat ?_;refine qam ?_;refine qar ?_;refine Ct ?_;refine qaq ?_;exact za rfl rfl (zb rfl (zbQ hc ht9 ya).symm)
  refine qat ?_;refine A1 (oFp zdf) ?_;refine A1 (oFp zb9) ?_;refine A1 (oLb (zbR.comp zdo) ty_3) ?_;refine A1 zbK ?_;refine Sp (d:=30) (p:=c.out.v<1) (fun g30=>?_) (fun g30=>?_)
  ·
   refine qat ?_;refine qam ?_;refine qbH ?_;refine qaZ ?_;refine Ct ?_;refine qaq ?_;exact za rfl rfl (zb rfl (zbQ hc ht9 ya).symm)
  refine qat ?_;refine A1 (oFp zdf) ?_;refine A1 (oFp zb9) ?_;refine A1 (oLb (zbR.comp zdo) ty_3) ?_;refine A1 zcm ?_;refine Sp (d:=36) (p:=1099511627776<c.out.v) (fun g36=>?_) (fun g36=>?_)
  ·
   refine qat ?_;refine qam ?_;refine qar ?_;refine Ct ?_;refine qaq ?_;exact za rfl rfl (zb rfl (zbQ hc ht9 ya).symm)
  refine qat ?_;refine A1 (oFp zdf) ?_;refine A1 (oFp zcV) ?_;refine A1 (oLb (zbR.comp zdL) ty_3) ?_;refine A1 zbK ?_;refine Sp (d:=42) (p:=c.out.to<0) (fun g42=>?_) (fun g42=>?_)
  ·
   refine qbH ?_;refine qaZ ?_;refine Ct ?_;refine qaq ?_;exact za rfl rfl (zb rfl (zbQ hc ht9 ya).symm)
  refine qat ?_;refine A1 (oFp zdf) ?_;refine A1 (oFp zcV) ?_;refine A1 (oLb (zbR.comp zdL) ty_3) ?_;refine A1 zcm ?_;refine Sp (d:=48) (p:=255<c.out.to) (fun g48=>?_) (fun g48=>?_)
  ·
   refine qar ?_;refine Ct ?_;refine qaq ?_;exact za rfl rfl (zb rfl (zbQ hc ht9 ya).symm)
  refine qar ?_;refine Cg ?_;refine CS ?_;refine qaH ?_;refine G0 mV ?_;refine G0 zct ?_;refine zaq (d:=51) (p:=k=0) rfl yr (fun g51=>?_) (fun g51=>?_)
  ·
   refine G0 mV ?_;refine qaE ?_;refine qaE ?_;refine G2 ?_;refine G0 oK ?_;refine qa6 ?_;refine qa0 ?_;refine qaQ ?_;refine Cg ?_;refine qbZ ?_;exact Nx (k+1) (⟨by omega,zcB hinv.2 ya9⟩) ya
  obtain⟨b,hb⟩:∃b,p[k-1]?=some b:=yq;refine G0 mV ?_;refine G1 mV ?_;refine G1 mV ?_;refine G1 za1 ?_;refine G1 (zD (i:=k-1) rfl rfl rfl ya zeq yj) ?_;refine G1 (zh rfl rfl zd4) ?_;refine G1 (oLs rfl rfl rfl zd4) ?_;refine G1 (oCl (znf _ _) rfl fn_210 ybF) ?_;refine zaq (d:=59) (p:=zaI b.inn c.inn<0) rfl yr (fun g59=>?_) (fun g59=>?_)
  ·
   refine G0 oK ?_;refine qa6 ?_;refine qa0 ?_;refine qaQ ?_;refine Cg ?_;refine qbZ ?_;exact Nx (k+1) (⟨by omega,zcB hinv.2 ya9⟩) ya
  refine G0 oK ?_;refine qa6 ?_;refine qa0 ?_;refine qaQ ?_;refine Ct ?_;refine qaq ?_;exact za rfl rfl (zb rfl (zg5 hc ht9 ya hb g59).symm)
 refine CE ?_;refine qa0 ?_;refine qcP ?_;refine A0 zhK ?_;refine qad ?_;exact za rfl rfl (zb rfl yaY)
theorem rfind_ok (p:List Coin) (x:In):Tells P 211 [.val (bsl zal) p,.val inT x] (.val i64T (findC p x)):=by
 refine zc Tryz.func211 rfl rfl rfl (fun ext w hext=>?_);refine ze (d:=0) rfl zm (fun hsl0=>?_);refine qaf ?_;refine qbR ?_;refine Lp (ι:=Nat) 1 (fun (k:Nat)=>(((Fr.none).set 0 (.val (bsl zal) p)).set 3 (.ptr 0 0)).set 5 (.val i64T (k:Int))) (fun (k:Nat)=>(Hp.none).set 0 (.box 120 inT x)) (fun (k:Nat)=>k≤p.length∧findC p x=shift k (idx (fun c=>decide (c.inn=x)) (p.drop k))) (fun (k:Nat)=>p.length-k) (0) (⟨uf _,by unfold findC shift;rw[List.drop_zero];have:=findC_ge p x;unfold findC at this;split<;>omega⟩) ?_;intro k hinv;refine qb9 ?_;refine qcP ?_;refine qa1 ?_;refine Cf (p:=k<p.length) (fun ht9=>?_) (fun ht9=>?_)
 ·
  obtain⟨c,hc⟩:∃c,p[k]?=some c:=ya0;refine qcK ?_;refine qbk ?_;refine G0 (zD (i:=k) rfl rfl rfl ya zeq yj) ?_;refine G0 (oFr zbc zau) ?_;refine G0 (zh rfl rfl zbI) ?_;refine G0 (oLs rfl rfl rfl zbI) ?_;refine G0 (zfY rfl rfl rfl (zl6)) ?_;refine GK.nil ?_;refine Cf (p:=c.inn=x) (fun ht18=>?_) (fun ht18=>?_)
  ·
   refine qcg ?_;exact za rfl rfl (zb rfl (hinv.2.trans (zia hc (by simpa using ht18))).symm)
  refine qbZ ?_;exact Nx (k+1) (⟨by omega,hinv.2.trans (zlN hc (by simpa using ht18))⟩) ya
 refine qcc ?_;exact za rfl rfl (zb rfl (hinv.2.trans (zib ya)).symm)
theorem zpm (p:List Coin) (id:Ab.Id):Tells P 177 [.val (bsl zal) p,.val idT id] (.val zu (p.any fun c=>decide (c.inn.tx=id))):=by
 refine zc Tryz.func177 rfl rfl rfl (fun ext w hext=>?_);refine ze (d:=0) rfl zm (fun hsl0=>?_);refine qaf ?_;refine qbR ?_;refine Lp (ι:=Nat) 1 (fun (k:Nat)=>(((Fr.none).set 0 (.val (bsl zal) p)).set 3 (.ptr 0 0)).set 5 (.val i64T (k:Int))) (fun (k:Nat)=>(Hp.none).set 0 (.box 27 idT id)) (fun (k:Nat)=>k≤p.length∧((p.take k).any fun c=>decide (c.inn.tx=id))=false) (fun (k:Nat)=>p.length-k) (0) (⟨uf _,rfl⟩) ?_;intro k hinv;refine qb9 ?_;refine qcP ?_;refine qa1 ?_;refine Cf (p:=k<p.length) (fun ht9=>?_) (fun ht9=>?_)
 ·
  obtain⟨c,hc⟩:∃c,p[k]?=some c:=ya0;refine qcK ?_;refine qbk ?_;refine G0 (zD (i:=k) rfl rfl rfl ya zeq yj) ?_;refine G0 (oFr zbc zau) ?_;refine G0 (oFr zcH zd0) ?_;refine G0 (zh rfl rfl zT) ?_;refine G0 (oLs rfl rfl rfl zT) ?_;refine G0 (zfY rfl rfl rfl (zdw)) ?_;refine GK.nil ?_;refine Cf (p:=c.inn.tx=id) (fun ht19=>?_) (fun ht19=>?_)
  ·
   refine qaq ?_;exact za rfl rfl (zb rfl (zrn hc (by simpa using ht19)).symm)
  refine qbZ ?_;exact Nx (k+1) (⟨by omega,zoU hinv.2 hc (by simpa using ht19)⟩) ya
 refine qcc ?_;exact za rfl rfl (zb rfl (by have h:=hinv.2;rw[uc ya] at h;exact h.symm))
theorem zlh (t:Tx):Tells P 179 [.val txT t] (.val i64T (zcs (·.v) t.outs)):=by
 refine zc Tryz.func179 rfl rfl rfl (fun ext w hext=>?_);refine ze (d:=0) rfl zkR (fun htl=>?_);refine qaf ?_;refine qaj ?_;refine qbR ?_;refine Lp (ι:=Nat) 1 (fun (k:Nat)=>(((Fr.none).set 1 (.ptr 0 0)).set 3 (.val i64T (zcs (·.v) (t.outs.take k)))).set 4 (.val i64T (k:Int))) (fun (k:Nat)=>(Hp.none).set 0 (.box 112 txT t)) (fun (k:Nat)=>k≤t.outs.length) (fun (k:Nat)=>t.outs.length-k) (0) (uf _) ?_;intro k hinv;refine qaK ?_;refine qaP ?_;refine qa1 ?_;refine Cf (p:=k<t.outs.length) (fun ht9=>?_) (fun ht9=>?_)
 ·
  obtain⟨o,ho⟩:∃o,t.outs[k]?=some o:=ya0;refine qaD ?_;refine CR ?_;refine qa9 ?_;refine A0 (oFp zbd) ?_;refine A0 (oLb zaU zdp) ?_;refine qa9 ?_;refine A0 (zD (i:=k) rfl rfl rfl ya zeX yj) ?_;refine A0 (oFr zb9 zdo) ?_;refine qbB ?_;refine A0 zbh ?_;refine A0 aV ?_;refine qb3 ?_;refine zi (d:=3) rfl (zmP ho).symm ?_;exact Nx (k+1) ya ya
 refine CE ?_;refine qcg ?_;exact za rfl rfl (zb rfl yak)
theorem zln (t:Tx):Tells P 176 [.val txT t] (.val zu (zaz t)):=by
 refine zc Tryz.func176 rfl rfl rfl (fun ext w hext=>?_);refine ze (d:=0) rfl zkR (fun htl=>?_);refine qaf ?_;refine qbR ?_;refine Lp (ι:=Nat) 1 (fun (k:Nat)=>((Fr.none).set 1 (.ptr 0 0)).set 3 (.val i64T (k:Int))) (fun (k:Nat)=>(Hp.none).set 0 (.box 112 txT t)) (fun (k:Nat)=>k≤t.ins.length∧(List.range k).all (inAt t)=true) (fun (k:Nat)=>t.ins.length-k) (0) (⟨uf _,rfl⟩) ?_;intro k hinv;refine qaK ?_;refine qa3 ?_;refine qa1 ?_;refine Cf (p:=k<t.ins.length) (fun ht11=>?_) (fun ht11=>?_)
 ·
  obtain⟨x,hx⟩:∃x,t.ins[k]?=some x:=⟨_,ub ht11⟩;refine qaD ?_;refine CQQR ?_;refine qc7 ?_;refine qa9 ?_;refine A0 (zD (i:=k) rfl rfl rfl ya zd9 yj) ?_;refine A0 (oFr zbm zeo) ?_;refine qbB ?_;refine A0 zbK ?_;refine Sp (d:=20) (p:=x.i<0) (fun g20=>?_) (fun g20=>?_)
  ·
   refine qa9 ?_;refine qcT ?_;refine qaZ ?_;refine Ct ?_;refine qaq ?_;exact za rfl rfl (zb rfl yi)
  refine qa9 ?_;refine A1 (oFp zbB) ?_;refine A1 (oLb zbY zdN) ?_;refine A1 mV ?_;refine A1 (zD (i:=k) rfl rfl rfl ya zd9 yj) ?_;refine A1 (oFr zbm zeo) ?_;refine A1 (zh rfl rfl ty_3) ?_;refine A1 zec ?_;refine Sp (d:=28) (p:=3≤x.i) (fun g28=>?_) (fun g28=>?_)
  ·
   refine qar ?_;refine Ct ?_;refine qaq ?_;exact za rfl rfl (zb rfl yi)
  have hout:=hinv.2;have hkl:=hinv.1;refine qar ?_;refine Cg ?_;refine CSQR ?_;refine qcn ?_;refine Lp (ι:=Nat) 1 (fun (j:Nat)=>(((Fr.none).set 1 (.ptr 0 0)).set 3 (.val i64T (k:Int))).set 4 (.val i64T (j:Int))) (fun (j:Nat)=>(Hp.none).set 0 (.box 112 txT t)) (fun (j:Nat)=>j≤k∧((t.ins.take j).any fun c=>decide (x=c))=false) (fun (j:Nat)=>k-j) (0) (⟨uf _,rfl⟩) ?_;intro j hinv;refine qb9 ?_;refine qa1 ?_;refine Cf (p:=j<k) (fun ht32=>?_) (fun ht32=>?_)
  ·
   obtain⟨y,hy⟩:∃y,t.ins[j]?=some y:=yq;refine qcK ?_;refine G0 (oFp zbB) ?_;refine G0 (oLb zbY zdN) ?_;refine G0 mV ?_;refine G0 (zD (i:=j) rfl rfl rfl ya zd9 yj) ?_;refine G0 (zh rfl rfl zbI) ?_;refine G0 (oFp zbB) ?_;refine G0 (oLb zbY zdN) ?_;refine G0 mV ?_;refine G0 (zD (i:=k) rfl rfl rfl ya zd9 yj) ?_;refine G0 (zh rfl rfl zbI) ?_;refine G0 (zfY rfl rfl rfl (zl6)) ?_;refine GK.nil ?_;refine Cf (p:=y=x) (fun ht45=>?_) (fun ht45=>?_)
   ·
    refine qaq ?_;exact za rfl rfl (zb rfl yi)
   refine qbZ ?_;exact Nx (j+1) (⟨by omega,zoU hinv.2 hy (by simpa using fun e=>ht45 e.symm)⟩) ya
  obtain rfl:k=j:=ya;refine CE ?_;refine CI ?_;refine CR ?_;refine qak ?_;exact Nx (k+1) (⟨by omega,zcB hout (zpO hx ya (by rw[hinv.2];simp))⟩) ya
 have hall:(List.range t.ins.length).all (inAt t)=true:=by have h:=hinv.2;rw[show k=t.ins.length by omega] at h;exact h
 refine CE ?_;refine CQQR ?_;refine qcn ?_;refine Lp (ι:=Nat) 1 (fun (k:Nat)=>((Fr.none).set 1 (.ptr 0 0)).set 5 (.val i64T (k:Int))) (fun (k:Nat)=>(Hp.none).set 0 (.box 112 txT t)) (fun (k:Nat)=>k≤t.outs.length∧(t.outs.take k).any zj6=false) (fun (k:Nat)=>t.outs.length-k) (0) (⟨uf _,rfl⟩) ?_;intro k hinv;refine qaK ?_;refine qaP ?_;refine qa1 ?_;refine Cf (p:=k<t.outs.length) (fun ht50=>?_) (fun ht50=>?_)
 ·
  obtain⟨o,ho⟩:∃o,t.outs[k]?=some o:=⟨_,ub ht50⟩;refine CSQBQR ?_;refine A0 (oFp zbd) ?_;refine A0 (oLb zaU zdp) ?_;refine qa9 ?_;refine A0 (zD (i:=k) rfl rfl rfl ya zeX yj) ?_;refine qcw ?_;refine CNQR ?_;refine A0 (oFp zb9) ?_;refine A0 (oLb zdo ty_3) ?_;refine A0 zbK ?_;refine Sp (d:=60) (p:=o.v<1) (fun g60=>?_) (fun g60=>?_)
  ·
   refine qa9 ?_;refine qac ?_;refine qbH ?_;refine qbH ?_;refine qar ?_;refine Ct ?_;refine qaq ?_;exact za rfl rfl (zb rfl yi)
  refine qa9 ?_;refine A1 (oFp zb9) ?_;refine A1 (oLb zdo ty_3) ?_;refine A1 zcm ?_;refine Sp (d:=64) (p:=1099511627776<o.v) (fun g64=>?_) (fun g64=>?_)
  ·
   refine qbH ?_;refine qbH ?_;refine qar ?_;refine Ct ?_;refine qaq ?_;exact za rfl rfl (zb rfl yi)
  refine qat ?_;refine A1 (oFp zcV) ?_;refine A1 (oLb zdL ty_3) ?_;refine A1 zbK ?_;refine Sp (d:=69) (p:=o.to<0) (fun g69=>?_) (fun g69=>?_)
  ·
   refine qbH ?_;refine qar ?_;refine Ct ?_;refine qaq ?_;exact za rfl rfl (zb rfl yi)
  refine qat ?_;refine A1 (oFp zcV) ?_;refine A1 (oLb zdL ty_3) ?_;refine A1 zcm ?_;refine Sp (d:=74) (p:=255<o.to) (fun g74=>?_) (fun g74=>?_)
  ·
   refine qar ?_;refine Ct ?_;refine qaq ?_;exact za rfl rfl (zb rfl yi)
  refine qar ?_;refine Cg ?_;refine qbZ ?_;exact Nx (k+1) (⟨by omega,zoU hinv.2 ho (by unfold zj6;apply uh;omega)⟩) ya
 have hodd:t.outs.any zj6=false:=by have h:=hinv.2;rw[uc ya] at h;exact h
 refine qbQ ?_;refine qa3 ?_;refine A0 zhK ?_;refine Sp (d:=79) (p:=t.ins.length≤3) (fun g79=>?_) (fun g79=>?_)
 ·
  refine qa9 ?_;refine qbl ?_;refine A1 zec ?_;refine Sp (d:=84) (p:=1≤t.outs.length) (fun g84=>?_) (fun g84=>?_)
  ·
   refine qat ?_;refine qbl ?_;refine A1 zhK ?_;refine Sp (d:=90) (p:=t.outs.length≤3) (fun g90=>?_) (fun g90=>?_)
   ·
    refine qbi ?_;exact za rfl rfl (zb rfl yi)
   refine qbi ?_;exact za rfl rfl (zb rfl yi)
  refine qbH ?_;refine A2 ?_;refine qbi ?_;exact za rfl rfl (zb rfl yi)
 refine qa9 ?_;refine qam ?_;refine qbi ?_;exact za rfl rfl (zb rfl yi)
theorem zpu (l m:List Ab.Id):Tells P 81 [.val (bsl idT) l,.val (bsl idT) m] (.val zu (decide (l=m))):=by
 refine zc Tryz.func81 rfl rfl rfl (fun ext w hext=>?_);refine ze (d:=0) rfl zm (fun hsl0=>?_);refine ze (d:=1) rfl zm (fun hsl1=>?_);refine qcJ ?_;refine qbA ?_;refine qa9 ?_;refine qbA ?_;refine qaT ?_;refine zk (p:=¬l.length=m.length) rfl yaq (fun ht10=>?_) (fun ht10=>?_)
 ·
  refine qaq ?_;exact za rfl rfl (zb rfl (uh (fun e=>ht10 ybh)).symm)
 refine CSQQR ?_;refine qcn ?_;refine Lp (ι:=Nat) 0 (fun (k:Nat)=>(((Fr.none).set 0 (.val (bsl idT) l)).set 1 (.val (bsl idT) m)).set 5 (.val i64T (k:Int))) (fun (k:Nat)=>Hp.none) (fun (k:Nat)=>k≤l.length∧l.take k=m.take k) (fun (k:Nat)=>l.length-k) (0) (⟨uf _,rfl⟩) ?_;intro k hinv;refine qb9 ?_;refine qbA ?_;refine qa1 ?_;refine Cf (p:=k<l.length) (fun ht14=>?_) (fun ht14=>?_)
 ·
  obtain⟨x,hx⟩:∃x,l[k]?=some x:=⟨_,ub ht14⟩;obtain⟨y,hy⟩:∃y,m[k]?=some y:=yq;refine qcK ?_;refine qbk ?_;refine G0 (zD (i:=k) rfl rfl rfl ya zdR yj) ?_;refine G0 (zh rfl rfl zT) ?_;refine qbk ?_;refine G0 (zD (i:=k) rfl rfl rfl ya zdR yj) ?_;refine G0 (zh rfl rfl zT) ?_;refine G0 (zfs rfl rfl rfl (zdw)) ?_;refine GK.nil ?_;refine zk (p:=¬x=y) rfl yx (fun ht25=>?_) (fun ht25=>?_)
  ·
   refine qaq ?_;exact za rfl rfl (zb rfl (uh (zde hx hy ht25)).symm)
  refine qbZ ?_;exact Nx (k+1) (⟨by omega,zaX hx hy hinv.2 (ua ht25)⟩) ya
 refine qcc ?_;exact za rfl rfl (zb rfl (ui yH).symm)
theorem refTx_ok (a b:Tx):Tells P 134 [.val txT a,.val txT b] (.val zu (decide (a=b))):=by
 refine zc Tryz.func134 rfl rfl rfl (fun ext w hext=>?_);refine ze (d:=0) rfl zkR (fun htl=>?_);refine qaw ?_;refine qcH ?_;refine qa3 ?_;refine qa3 ?_;refine A0 zeb ?_;refine zad (d:=13) (p:=¬a.ins.length=b.ins.length) rfl yaq (fun g13=>?_) (fun g13=>?_)
 ·
  refine qa9 ?_;refine qcT ?_;refine qaZ ?_;refine Ct ?_;refine qaq ?_;exact za rfl rfl (zb rfl (uh (fun e=>g13 ybh)).symm)
 refine qa9 ?_;refine qbl ?_;refine qbl ?_;refine A1 zeb ?_;refine qar ?_;refine zk (p:=¬a.outs.length=b.outs.length) rfl yaq (fun ht22=>?_) (fun ht22=>?_)
 ·
  refine qaq ?_;exact za rfl rfl (zb rfl (uh (fun e=>ht22 ybh)).symm)
 refine CSQQR ?_;refine qcn ?_;refine Lp (ι:=Nat) 2 (fun (k:Nat)=>(((Fr.none).set 2 (.ptr 0 0)).set 3 (.ptr 1 0)).set 5 (.val i64T (k:Int))) (fun (k:Nat)=>((Hp.none).set 0 (.box 112 txT a)).set 1 (.box 112 txT b)) (fun (k:Nat)=>k≤a.ins.length∧a.ins.take k=b.ins.take k) (fun (k:Nat)=>a.ins.length-k) (0) (⟨uf _,rfl⟩) ?_;intro k hinv;refine qaK ?_;refine qa3 ?_;refine qa1 ?_;refine Cf (p:=k<a.ins.length) (fun ht27=>?_) (fun ht27=>?_)
 ·
  obtain⟨x,hx⟩:∃x,a.ins[k]?=some x:=⟨_,ub ht27⟩;obtain⟨y,hy⟩:∃y,b.ins[k]?=some y:=yq;refine qcK ?_;refine G0 (oFp zbB) ?_;refine G0 (oLb zbY zdN) ?_;refine G0 mV ?_;refine G0 (zD (i:=k) rfl rfl rfl ya zd9 yj) ?_;refine G0 (zh rfl rfl zbI) ?_;refine G0 (oFp zbB) ?_;refine G0 (oLb zbY zdN) ?_;refine G0 mV ?_;refine G0 (zD (i:=k) rfl rfl rfl ya zd9 yj) ?_;refine G0 (zh rfl rfl zbI) ?_;refine G0 (zfs rfl rfl rfl (zl6)) ?_;refine GK.nil ?_;refine zk (p:=¬x=y) rfl yx (fun ht40=>?_) (fun ht40=>?_)
  ·
   refine qaq ?_;exact za rfl rfl (zb rfl (uh (fun e=>zde hx hy ht40 ybh)).symm)
  refine qbZ ?_;exact Nx (k+1) (⟨by omega,zaX hx hy hinv.2 (ua ht40)⟩) ya
 have hins:a.ins=b.ins:=by have h:=hinv.2;rw[uc ya,uc ya] at h;exact h
 refine CE ?_;refine CQQR ?_;refine qcn ?_;refine Lp (ι:=Nat) 2 (fun (k:Nat)=>(((Fr.none).set 2 (.ptr 0 0)).set 3 (.ptr 1 0)).set 6 (.val i64T (k:Int))) (fun (k:Nat)=>((Hp.none).set 0 (.box 112 txT a)).set 1 (.box 112 txT b)) (fun (k:Nat)=>k≤a.outs.length∧a.outs.take k=b.outs.take k) (fun (k:Nat)=>a.outs.length-k) (0) (⟨uf _,rfl⟩) ?_;intro k hinv;refine qaK ?_;refine qaP ?_;refine qa1 ?_;refine Cf (p:=k<a.outs.length) (fun ht45=>?_) (fun ht45=>?_)
 ·
  obtain⟨x,hx⟩:∃x,a.outs[k]?=some x:=⟨_,ub ht45⟩;obtain⟨y,hy⟩:∃y,b.outs[k]?=some y:=yq;refine qcK ?_;refine G0 (oFp zbd) ?_;refine G0 (oLb zaU zdp) ?_;refine G0 mV ?_;refine G0 (zD (i:=k) rfl rfl rfl ya zeX yj) ?_;refine G0 (zh rfl rfl zeU) ?_;refine G0 (oFp zbd) ?_;refine G0 (oLb zaU zdp) ?_;refine G0 mV ?_;refine G0 (zD (i:=k) rfl rfl rfl ya zeX yj) ?_;refine G0 (zh rfl rfl zeU) ?_;refine G0 (zfs rfl rfl rfl (eqt_123)) ?_;refine GK.nil ?_;refine zk (p:=¬x=y) rfl yx (fun ht58=>?_) (fun ht58=>?_)
  ·
   refine qaq ?_;exact za rfl rfl (zb rfl (uh (fun e=>zde hx hy ht58 ybh)).symm)
  refine qbZ ?_;exact Nx (k+1) (⟨by omega,zaX hx hy hinv.2 (ua ht58)⟩) ya
 refine qcc ?_;exact za rfl rfl (zb rfl (ui (by have h:=hinv.2;rw[uc ya,uc ya] at h;cases a;cases b;simp_all)).symm)
theorem refTxs_ok (l m:List Tx):Tells P 82 [.val (bsl txT) l,.val (bsl txT) m] (.val zu (decide (l=m))):=by
 refine zc Tryz.func82 rfl rfl rfl (fun ext w hext=>?_);refine ze (d:=0) rfl zm (fun hsl0=>?_);refine ze (d:=1) rfl zm (fun hsl1=>?_);refine qcJ ?_;refine qbG ?_;refine qa9 ?_;refine qbG ?_;refine qaT ?_;refine zk (p:=¬l.length=m.length) rfl yaq (fun ht11=>?_) (fun ht11=>?_)
 ·
  refine qaq ?_;exact za rfl rfl (zb rfl (uh (fun e=>ht11 ybh)).symm)
 refine CSQQR ?_;refine qcn ?_;refine Lp (ι:=Nat) 0 (fun (k:Nat)=>(((Fr.none).set 0 (.val (bsl txT) l)).set 1 (.val (bsl txT) m)).set 5 (.val i64T (k:Int))) (fun (k:Nat)=>Hp.none) (fun (k:Nat)=>k≤l.length∧l.take k=m.take k) (fun (k:Nat)=>l.length-k) (0) (⟨uf _,rfl⟩) ?_;intro k hinv;refine qb9 ?_;refine qbG ?_;refine qa1 ?_;refine Cf (p:=k<l.length) (fun ht15=>?_) (fun ht15=>?_)
 ·
  obtain⟨x,hx⟩:∃x,l[k]?=some x:=⟨_,ub ht15⟩;obtain⟨y,hy⟩:∃y,m[k]?=some y:=yq;refine qcK ?_;refine qbk ?_;refine G0 (zD (i:=k) rfl rfl rfl ya zhI yj) ?_;refine G0 (zh rfl rfl zdM) ?_;refine qbk ?_;refine G0 (zD (i:=k) rfl rfl rfl ya zhI yj) ?_;refine G0 (zh rfl rfl zdM) ?_;refine G0 (oCl (refTx_ok _ _) rfl fn_134 ⟨yb,yb,trivial⟩) ?_;refine qa6 ?_;refine qa0 ?_;refine qaQ ?_;refine zk (p:=¬x=y) rfl yx (fun ht28=>?_) (fun ht28=>?_)
  ·
   refine qaq ?_;exact za rfl rfl (zb rfl (uh (zde hx hy ht28)).symm)
  refine qbZ ?_;exact Nx (k+1) (⟨by omega,zaX hx hy hinv.2 (ua ht28)⟩) ya
 refine qcc ?_;exact za rfl rfl (zb rfl (ui yH).symm)
theorem refB_ok (a b:Block):Tells P 44 [.val zt a,.val zt b] (.val zu (decide (a=b))):=by
 refine zc Tryz.func44 rfl rfl rfl (fun ext w hext=>?_);refine qaw ?_;refine qaj ?_;refine A0 (oFp zcD) ?_;refine A0 (oLb zb1 zf8) ?_;refine A0 (oFp zcD) ?_;refine A0 (oLb zb1 zf8) ?_;refine A0 (oCl (zpu _ _) rfl fn_81 yf) ?_;refine qaj ?_;refine qcE ?_;refine qcE ?_;refine A0 (oCl (refTxs_ok _ _) rfl fn_82 yf) ?_;refine qaS ?_;refine Sp (d:=17) (p:=a.l=b.l) (fun g17=>?_) (fun g17=>?_)
 ·
  refine qa9 ?_;refine A1 mV ?_;refine A0 oK ?_;refine Sp (d:=20) (p:=a.t=b.t) (fun g20=>?_) (fun g20=>?_)
  ·
   refine qa9 ?_;refine A1 (oFp zah) ?_;refine A1 (oLb zE za4) ?_;refine A1 (oFp zah) ?_;refine A1 (oLb zE za4) ?_;refine A1 (zfY rfl rfl rfl (zsG)) ?_;refine qbi ?_;exact za rfl rfl (zb rfl y4)
  refine qa9 ?_;refine qac ?_;refine qcI ?_;refine qbi ?_;exact za rfl rfl (zb rfl (by symm;apply uh;intro h;exact g20 (by rw[h])))
 refine qa9 ?_;refine A2 ?_;refine qbH ?_;refine qcI ?_;refine qbi ?_;exact za rfl rfl (zb rfl (by symm;apply uh;intro h;exact g17 (by rw[h])))
theorem pushT_eq {t:Tip} {b:Block} (h:zbw t b=0):zfR t b=⟨b,zbx t.p (zgW b.h),(zw t.c b.t).1⟩:=by unfold zfR;rw[ut h]
def zaD:Tip→List Block→Tip×Int
  | t,[]=>(t,0)
  | t,b::l=>if zbw t b=0 then zaD (zfR t b) l else (zTip,zbw t b)
def zQ (l:List Block):Tip×Int :=
  match l with
  | []=>(zTip,9)
  | g::r=>if zay g.h.bits=true∧(zaw g.h.bits).b=g then zaD (zaw g.h.bits) r else (zTip,12)
def zmJ (l:List Block) (t:List Tx) (nonce:UInt64):Int:=if (zQ l).2=0 then zeB (zQ l).1 t nonce 200 else (zQ l).2
def ziS (l:List Block) (t:List Tx) (nonce:UInt64):List Block:=if zmJ l t nonce=0 then l++[zpG (zQ l).1 t nonce 200] else l
def zY (l:List Block) (id:Ab.Id):Int:=idx (fun b=>decide (zR b.h=id)) l
def zeW (l:List Block):Prop:=l.length*232≤140737488351232∧∀b∈l,zd8 b
theorem zi3:∀{l m:List Block} {t:Tip},zaD t (l++m)=if (zaD t l).2=0 then zaD (zaD t l).1 m else zaD t l
  | [],m,t=>by simp[zaD]
  | b::l,m,t=>by
    rw[List.cons_append,zaD,zaD];by_cases h:zbw t b=0
    · rw[ut h,ut h];exact zi3
    rw[ur h,ur h,ur h]
theorem zre {l m:List Block} (h:¬l=[]):zQ (l++m)=if (zQ l).2=0 then zaD (zQ l).1 m else zQ l:=by
  cases l with
  | nil=>exact absurd rfl h
  | cons g r =>
    rw[List.cons_append];unfold zQ;simp only[];by_cases h:zay g.h.bits=true∧(zaw g.h.bits).b=g
    · rw[ut h,ut h];exact zi3
    rw[ur h,ur h];rfl
theorem chain_ne {l:List Block} (h:(zQ l).2=0):¬l=[]:=fun e=>by rw[e] at h;exact absurd h yp
theorem zki {l:List Block} {b:Block} (h:(zQ l).2=0):zQ (l++[b])=if zbw (zQ l).1 b=0 then (zfR (zQ l).1 b,0) else (zTip,zbw (zQ l).1 b):=by
  rw[zre (chain_ne h),ut h];rfl
theorem zqK {l:List Block} {b:Block} (h:zeW l) (hl:l.length≤99) (hb:zd8 b):zeW (l++[b]):=⟨by rw[ue,List.length_singleton];omega,fun x hx=>by
  rcases List.mem_append.1 hx with h1|h1
  · exact h.2 x h1
  rw[List.mem_singleton.1 h1];exact hb⟩
theorem zgL {t:Tip} (h1:t.b.l=[]) (h2:t.b.t=[]) (h3:Nat.ble t.p.length 1=true) (h4:t.c=[]):zeG t:=by
  have:=Nat.le_of_ble_eq_true h3
  refine⟨⟨by rw[h1];decide,by rw[h2];decide,fun x hx=>by rw[h2] at hx;cases hx⟩,by omega,by rw[h4];decide⟩
def zmY (t:Tip) (n:Nat):Prop:=zeG t∧t.p.length≤n+1∧t.b.h.height=n
theorem zh7 {t:Tip} {b:Block} {n:Nat} (ht:zmY t n) (hn:n≤1000000000000) (hb:zd8 b) (h:zbw t b=0):zmY (zfR t b) (n+1):=by
  obtain⟨h6,h7,_,_,h5⟩:=push_iff.1 h;rw[pushT_eq h];have h1:=zod (p:=t.p) (x:=zgW b.h);have h2:=zci (zrm (l:=b.t) (apply_may h5)).1;obtain⟨_,h3,h4⟩:=ht;have e:b.h.height=IntKind.i64.wrap (t.b.h.height+1):=congrArg (·.height) h7;rw[h4,zaF ya] at e;refine⟨⟨hb,?_,?_⟩,?_,?_⟩
  · show(zbx t.p (zgW b.h)).length≤1000
    omega
  · show(zw t.c b.t).1.length≤1000
    omega
  · show(zbx t.p (zgW b.h)).length≤n+1+1
    omega
  show b.h.height=_;rw[e];omega
theorem zih {bits:UInt32}:zmY (zaw bits) 0:=by
  by_cases h:zay bits=true
  · rw[zq0 h];exact⟨zgL rfl rfl rfl rfl,Nat.le_of_ble_eq_true rfl,rfl⟩
  have:zaw bits=zTip:=by unfold zaw;rw[ur h]
  rw[this];exact⟨zgL rfl rfl rfl rfl,Nat.le_of_ble_eq_true rfl,rfl⟩
theorem zg9:∀{l:List Block} {t:Tip} {n:Nat},zmY t n→n+l.length≤1000000000000→(∀b∈l,zd8 b)→zeG (zaD t l).1
  | [],t,n,ht,_,_=>ht.1
  | b::l,t,n,ht,hn,hl=>by
    rw[zaD];rw[List.length_cons] at hn
    split
    · rename_i h
      exact zg9 (zh7 ht ya (hl b yx) h) ya fun x hx=>hl x (by simp[hx])
    exact zgL rfl rfl rfl rfl
theorem zmj {l:List Block} (h:zeW l):zeG (zQ l).1:=by
  cases l with
  | nil=>exact zgL rfl rfl rfl rfl
  | cons g r =>
    unfold zQ;simp only[]
    split
    · refine zg9 zih ?_ fun x hx=>h.2 x (by simp[hx])
      have:=h.1
      rw[List.length_cons] at this;omega
    exact zgL rfl rfl rfl rfl
theorem find_self {l:List Block} {i:Nat} {b:Block} (hb:l[i]?=some b):∃k:Nat,zY l (zR b.h)=k∧k≤i∧∃c,l[k]?=some c∧zR c.h=zR b.h:=by
  unfold zY;by_cases h:0≤idx (fun c:Block=>decide (zR c.h=zR b.h)) l
  · obtain⟨x,h2,h3,h4⟩:=zht h
    have:=h4 i b hb yx
    exact⟨_,(Int.toNat_of_nonneg h).symm,by omega,x,h2,of_decide_eq_true h3⟩
  have:=zkM (Int.not_le.1 h) b (ud hb)
  simp at this
def zcg:Block:=⟨zmK,[],[]⟩
theorem ze9:zQ [zcg]=(zew,0):=by
  unfold zQ;simp only[];have e:zaw zcg.h.bits=zew:=zsJ;rw[e,ut ⟨zmb,rfl⟩];rfl
theorem znB:zmJ [zcg] [] 0=0:=by
  unfold zmJ;rw[ze9,ut rfl];exact znz
theorem easy_grown:ziS [zcg] [] 0=[zcg,zb4]:=by
  unfold ziS;rw[znB,ut rfl,ze9,easy_mineB];rfl
theorem zq7:zQ [zcg,zb4]=(zsK,0):=by
  rw[show [zcg,zb4]=[zcg]++[zb4] from rfl,zki (by rw[ze9]),ze9,zny,ut rfl,easy_pushT]
theorem easy_two:decide (zR zmK=zR zb4.h)=false:=yu
theorem zj1:zd8 zcg:=by refine⟨by decide,by decide,fun t ht=>by cases ht⟩
theorem zj0:zeW [zcg]:=⟨by decide,fun b hb=>by rw[List.mem_singleton.1 hb];exact zj1⟩
theorem zlb:zeW [zcg,zb4]:=⟨by decide,fun b hb=>by
  rcases List.mem_cons.1 hb with h|h
  · rw[h];exact zj1
  rw[List.mem_singleton.1 h];exact zqJ⟩
def fewC (l:List Block):Bool:=l.all fewB&&decide ((l.length:Int)≤50)
theorem znv {l:List Block} (h:fewC l=true):zeW l:=by
  unfold fewC at h;rw[uk,uj] at h;exact⟨by omega,fun b hb=>fewB_small (List.all_eq_true.1 h.1 b hb)⟩
theorem zmI (l:List Block) (p:Block→Bool):Tells P 71 [.val (bsl zt) l,.fn1 P zt zu p] (.val i64T (idx p l)):=by
 refine zc Tryz.func71 rfl rfl rfl (fun ext w hext=>?_);refine ze (d:=0) rfl zm (fun hsl0=>?_);refine qcJ ?_;refine qbf ?_;refine qbp ?_;refine Lp (ι:=Nat) 0 (fun (k:Nat)=>(((((Fr.none).set 0 (.val (bsl zt) l)).set 1 (.fn1 P zt zu p)).set 6 (.val (bsl zt) l)).set 7 (.val i64T (l.length:Int))).set 8 (.val i64T (k:Int))) (fun (k:Nat)=>Hp.none) (fun (k:Nat)=>k≤l.length∧idx p l=shift k (idx p (l.drop k))) (fun (k:Nat)=>l.length-k) (0) (⟨uf _,zeP p l⟩) ?_;intro k hinv;refine qas ?_;refine Cf (p:=k<l.length) (fun ht9=>?_) (fun ht9=>?_)
 ·
  obtain⟨x,hx⟩:∃x,l[k]?=some x:=ya0;refine qbe ?_;refine qaj ?_;refine A0 mF ?_;refine qai ?_;refine A0 (zbj rfl rfl rfl zbS yj) ?_;refine A0 (zh rfl rfl zbg) ?_;refine qbT ?_;refine CN ?_;refine zk (p:=p x=true) rfl yx (fun ht16=>?_) (fun ht16=>?_)
  ·
   refine qcg ?_;exact za rfl rfl (zb rfl (hinv.2.trans (zia hx ht16)).symm)
  refine qbF ?_;exact Nx (k+1) (⟨by omega,hinv.2.trans (zlN hx ht16)⟩) ya
 refine qcc ?_;exact za rfl rfl (zb rfl (hinv.2.trans (zib ya)).symm)
theorem zq4 (l m:List Block):Tells P 57 [.val (bsl zt) l,.val (bsl zt) m,.fn2 P zt zt zu (fun x y=>decide (x=y))] (.val zu (decide (l=m))):=by
 refine zc Tryz.func57 rfl rfl rfl (fun ext w hext=>?_);refine ze (d:=0) rfl zm (fun hsl0=>?_);refine ze (d:=1) rfl zm (fun hsl1=>?_);refine qcJ ?_;refine qbf ?_;refine qa9 ?_;refine qbf ?_;refine qaT ?_;refine Cf (p:=¬l.length=m.length) (fun ht14=>?_) (fun ht14=>?_)
 ·
  refine qaq ?_;exact za rfl rfl (zb rfl (uh (fun e=>ht14 ybh)).symm)
 refine qce ?_;refine qbf ?_;refine qbp ?_;refine Lp (ι:=Nat) 0 (fun (k:Nat)=>((((((Fr.none).set 0 (.val (bsl zt) l)).set 1 (.val (bsl zt) m)).set 2 (.fn2 P zt zt zu (fun x y=>decide (x=y)))).set 15 (.val (bsl zt) l)).set 16 (.val i64T (l.length:Int))).set 17 (.val i64T (k:Int))) (fun (k:Nat)=>Hp.none) (fun (k:Nat)=>k≤l.length∧l.take k=m.take k) (fun (k:Nat)=>l.length-k) (0) (⟨uf _,by simp⟩) ?_;intro k hinv;refine qas ?_;refine Cf (p:=k<l.length) (fun ht18=>?_) (fun ht18=>?_)
 ·
  obtain⟨x,hx⟩:∃x,l[k]?=some x:=⟨_,ub ht18⟩;obtain⟨y,hy⟩:∃y,m[k]?=some y:=yq;refine qbe ?_;refine A0 (zbj rfl rfl rfl zbS yj) ?_;refine qbU ?_;refine A0 aV ?_;refine qaW ?_;refine CNQR ?_;refine qai ?_;refine A0 (zbj rfl rfl rfl zbS yj) ?_;refine qbU ?_;refine qaW ?_;refine CNQR ?_;refine A0 mH ?_;refine qc4 ?_;refine qc4 ?_;refine A0 (zkN rfl rfl yl yl) ?_;refine qaQ ?_;refine zk (p:=¬x=y) rfl yx (fun ht30=>?_) (fun ht30=>?_)
  ·
   refine qaq ?_;exact za rfl rfl (zb rfl (uh (zde hx hy ht30)).symm)
  refine qbF ?_;exact Nx (k+1) (⟨by omega,zaX hx hy hinv.2 (by simpa using ht30)⟩) ya
 refine qcc ?_;exact za rfl rfl (zb rfl (ui yH).symm)
theorem zi2 {l:List Block} {g:Block} (h:l[0]?=some g) (h1:zay g.h.bits=true) (h2:(zaw g.h.bits).b=g):zQ l=zaD (zaw g.h.bits) (l.drop 1):=by
  cases l with
  | nil=>cases h
  | cons x r =>
    injection h with h;subst h;unfold zQ;simp only[];rw[ut ⟨h1,h2⟩];rfl
theorem zbX {l:List Block} {g:Block} (h:l[0]?=some g) (h1:¬(zay g.h.bits=true∧(zaw g.h.bits).b=g)):zQ l=(zTip,12):=by
  cases l with
  | nil=>cases h
  | cons x r =>
    injection h with h;subst h;unfold zQ;simp only[];rw[ur h1]
theorem znG {r:List Block} {k:Nat} {b:Block} {t:Tip} (hb:r[k]?=some b) (h:zbw t b=0):zaD t (r.drop k)=zaD (zfR t b) (r.drop (k+1)):=by
  obtain⟨hk,rfl⟩:=ul.1 hb;rw[List.drop_eq_getElem_cons hk,zaD,ut h]
theorem zhy {r:List Block} {k:Nat} {b:Block} {t:Tip} (hb:r[k]?=some b) (h:¬zbw t b=0):zaD t (r.drop k)=(zTip,zbw t b):=by
  obtain⟨hk,rfl⟩:=ul.1 hb;rw[List.drop_eq_getElem_cons hk,zaD,ur h]
theorem zi1 {r:List Block} {k:Nat} {t:Tip} (h:r.length≤k):zaD t (r.drop k)=(t,0):=by
  rw[List.drop_of_length_le h];rfl
theorem zgz {l:List Block} (h:l.length=0):zQ l=(zTip,9):=by rw[List.eq_nil_of_length_eq_zero h];rfl
def zkt (bits:UInt32):List Block:=if zay bits=true then [(zaw bits).b] else []
theorem zn4 (t:Tx) (ht:zjn t):Tells P 117 [.val txT t] (.val txT t):=by
 refine zc Tryz.func117 rfl rfl rfl (fun ext w hext=>?_);refine qaf ?_;refine zP zkZ rfl rfl rfl rfl ?_;refine CNQ ?_;refine zn [some 1,some 1,some 1,some 1,some 1,some 1,some 1,none] mixed yc ?_;refine X0 (oFp zbB) ?_;refine X0 (oLb zbY zdN) ?_;refine X0 (oCl (zF (zrc t.ins (by unfold zjn at ht;constructor<;>omega))) rfl fn_75 ye) ?_;refine X0 (oFp zbd) ?_;refine X0 (oLb zaU zdp) ?_;refine X0 (oCl (zF (zoG t.outs (by unfold zjn at ht;constructor<;>omega))) rfl fn_76 ye) ?_;refine xG ?_;refine XK.e (x:=.idk) (fun fr' hfr kk H=>by exact zg rfl rfl rfl ((hfr 2 yc).trans rfl) rfl (Lens.self _) zdM ((hfr 9 yc).trans rfl) (zp H)) ?_;refine xc ?_;exact zq rfl rfl rfl rfl zdM (rfl)
theorem toldTx_ok (l:List Tx) (hl:zmZ l):Tells P 116 [.val (bsl txT) l,.clo 117 []] (.fresh 112 txT l):=by
 have hll:=hl.1;refine zc Tryz.func116 rfl rfl rfl (fun ext w hext=>?_);refine ze (d:=0) rfl zm (fun hsl0=>?_);refine qaB ?_;refine CNQR ?_;refine A0 aL ?_;refine qb2 ?_;refine qbG ?_;refine qbp ?_;refine zcw (T:=txT) (d:=5) 112 rfl ?_;refine Lp (ι:=Nat) 1 (fun (k:Nat)=>((((((Fr.none).set 0 (.val (bsl txT) l)).set 1 (.clo 117 [])).set 5 (.own 0)).set 8 (.val (bsl txT) l)).set 9 (.val i64T (l.length:Int))).set 10 (.val i64T (k:Int))) (fun (k:Nat)=>(Hp.none).set 0 (.row 112 txT (l.take k))) (fun (k:Nat)=>k≤l.length) (fun (k:Nat)=>l.length-k) (0) (uf _) ?_;intro k hinv;refine qas ?_;refine Cf (p:=k<l.length) (fun ht11=>?_) (fun ht11=>?_)
 ·
  obtain⟨x,hx⟩:∃x,l[k]?=some x:=⟨_,ub ht11⟩;have hxm:=ud hx;refine CSQBQR ?_;refine qbo ?_;refine qca ?_;refine CNR ?_;refine A0 mO ?_;refine A0 mC ?_;refine qb0 ?_;refine A0 (zif (As:=[_]) (Cs:=[]) (zn4 x (hl.2 x hxm)) rfl rfl fn_117 ye yJ trivial rfl) ?_;refine A0 (zW (T:=txT) (xs:=[_]) rfl zhI zrP yz rfl rfl) ?_;refine zo rfl rfl rfl rfl rfl rfl rfl zrP yG ?_;refine A0 aO ?_;refine qcD ?_;refine zcj 2 0 3 rfl rfl rfl rfl rfl rfl ?_;refine zB (n:=0) (y:=l.take (k+1)) rfl (by rw[un,hx];rfl) ?_;exact Nx (k+1) ya ya
 refine qa7 ?_;exact za rfl rfl (zf rfl rfl yak)
theorem zqP (b:Block) (hb:zd8 b):Tells P 115 [.val zt b] (.val zt b):=by
 have hb1:=hb.1;refine zc Tryz.func115 rfl rfl rfl (fun ext w hext=>?_);refine qaf ?_;refine zP zje rfl rfl rfl rfl ?_;refine CNQR ?_;refine A0 (oFp zcD) ?_;refine A0 (oLb zb1 zf8) ?_;refine A0 (oCl (zF (zoH b.l y5)) rfl fn_73 ye) ?_;refine A0 (oFp zcD) ?_;refine zg rfl rfl rfl rfl rfl zb1 zf8 rfl ?_;refine CNQR ?_;refine qcE ?_;refine A0 (oCl (zF (toldTx_ok b.t hb.2)) rfl fn_116 ⟨yl,(by first|exact zdY (Cs:=[]) rfl fn_117 yJ trivial rfl (fun x=>zn4 _ yj)|exact zdX (Cs:=[]) rfl fn_117 yJ trivial rfl (fun x y=>zn4 _ yj)|exact zdZ rfl),trivial⟩) ?_;refine A0 (oFp zdl) ?_;refine zg rfl rfl rfl rfl rfl zda zhZ rfl ?_;refine CNQR ?_;refine qc4 ?_;refine qaW ?_;refine CN ?_;exact zq rfl rfl rfl rfl zbg (rfl)
theorem zo9 (l:List Block) (hl:zeW l):Tells P 114 [.val (bsl zt) l,.clo 115 []] (.fresh 37 zt l):=by
 have hll:=hl.1;refine zc Tryz.func114 rfl rfl rfl (fun ext w hext=>?_);refine ze (d:=0) rfl zm (fun hsl0=>?_);refine qaB ?_;refine CNQR ?_;refine A0 aL ?_;refine qb2 ?_;refine qbf ?_;refine qbp ?_;refine zcw (T:=zt) (d:=5) 37 rfl ?_;refine Lp (ι:=Nat) 1 (fun (k:Nat)=>((((((Fr.none).set 0 (.val (bsl zt) l)).set 1 (.clo 115 [])).set 5 (.own 0)).set 8 (.val (bsl zt) l)).set 9 (.val i64T (l.length:Int))).set 10 (.val i64T (k:Int))) (fun (k:Nat)=>(Hp.none).set 0 (.row 37 zt (l.take k))) (fun (k:Nat)=>k≤l.length) (fun (k:Nat)=>l.length-k) (0) (uf _) ?_;intro k hinv;refine qas ?_;refine Cf (p:=k<l.length) (fun ht11=>?_) (fun ht11=>?_)
 ·
  obtain⟨x,hx⟩:∃x,l[k]?=some x:=⟨_,ub ht11⟩;have hxm:=ud hx;refine CSQBQR ?_;refine A0 (zbj rfl rfl rfl zbS yj) ?_;refine qbU ?_;refine qaW ?_;refine CNR ?_;refine A0 mO ?_;refine A0 mC ?_;refine qc4 ?_;refine A0 (zif (As:=[_]) (Cs:=[]) (zqP x (hl.2 x hxm)) rfl rfl fn_115 ye yJ trivial rfl) ?_;refine qbv ?_;refine zo rfl rfl rfl rfl rfl rfl rfl zdC yG ?_;refine A0 aO ?_;refine qcD ?_;refine zcj 2 0 3 rfl rfl rfl rfl rfl rfl ?_;refine zB (n:=0) (y:=l.take (k+1)) rfl (by rw[un,hx];rfl) ?_;exact Nx (k+1) ya ya
 refine qa7 ?_;exact za rfl rfl (zf rfl rfl yak)
theorem ownC_ok (l:List Block) (hl:zeW l):Tells P 66 [.val (bsl zt) l] (.fresh 37 zt l):=by
 refine zc Tryz.func66 rfl rfl rfl (fun ext w hext=>?_);refine ze (d:=0) rfl zm (fun hsl0=>?_);refine qaB ?_;refine qbX ?_;refine zam (zo9 l hl) rfl fn_114 ⟨yl,(by first|exact zdY (Cs:=[]) rfl fn_115 yJ trivial rfl (fun x=>zqP _ yj)|exact zdX (Cs:=[]) rfl fn_115 yJ trivial rfl (fun x y=>zqP _ yj)|exact zdZ rfl),trivial⟩ rfl rfl rfl ?_;refine qbK ?_;exact za rfl rfl (zf rfl rfl rfl)
theorem zp5 (id:Ab.Id) (b:Block):Tells P 72 [.val zt b,.rptr idT id] (.val zu (decide (zR b.h=id))):=by
 refine zc Tryz.func72 rfl rfl rfl (fun ext w hext=>?_);refine qaf ?_;refine qb5 ?_;refine G0 (oFp zah) ?_;refine G0 (oLb zE za4) ?_;refine G0 (oCl (ze5 _) rfl zqZ ye) ?_;refine G0 (zh rfl rfl zT) ?_;refine G0 (zfY rfl rfl rfl (zdw)) ?_;refine qa6 ?_;exact za rfl rfl yy
theorem zsE (l:List Block) (id:Ab.Id):Tells P 37 [.val (bsl zt) l,.val idT id] (.val i64T (zY l id)):=by
 refine zc Tryz.func37 rfl rfl rfl (fun ext w hext=>?_);refine ze (d:=0) rfl zm (fun hsl0=>?_);refine qaf ?_;refine qaS ?_;refine A0 (zpT (caps:=[_]) rfl rfl) ?_;refine A0 (oCl (zmI l (fun b=>decide (zR b.h=id))) rfl fn_71 ⟨yl,(by first|exact zdY (Cs:=[_]) rfl fn_72 ym ybE rfl (fun x=>zp5 id x)|exact zdX (Cs:=[_]) rfl fn_72 ym ybE rfl (fun x y=>zp5 id x)|exact zdZ rfl),trivial⟩) ?_;refine qad ?_;exact za rfl rfl (zb rfl rfl)
theorem sameC_ok (a b:List Block):Tells P 29 [.val (bsl zt) a,.val (bsl zt) b] (.val zu (decide (a=b))):=by
 refine zc Tryz.func29 rfl rfl rfl (fun ext w hext=>?_);refine ze (d:=0) rfl zm (fun hsl0=>?_);refine ze (d:=1) rfl zm (fun hsl1=>?_);refine CQR ?_;refine qbW ?_;refine A0 (oCl (zq4 _ _) rfl fn_57 ⟨yl,yl,(by first|exact zdY (Cs:=[]) rfl fn_56 yJ trivial rfl (fun x=>znV x y)|exact zdX (Cs:=[]) rfl fn_56 yJ trivial rfl (fun x y=>znV x y)|exact zdZ rfl),trivial⟩) ?_;refine qad ?_;exact za rfl rfl yy
theorem zkS (l:List Block) (hl:zeW l):Tells P 28 [.val (bsl zt) l] (.tup2 (.val tipT (zQ l).1) (.val i64T (zQ l).2)):=by
 have hll:=hl.1;refine zc Tryz.func28 rfl rfl rfl (fun ext w hext=>?_);refine ze (d:=0) rfl zm (fun hsl0=>?_);refine CQR ?_;refine xd ?_;refine qad ?_;refine zsR (ι:=Block) 2 0 rfl rfl rfl (fun (g:Block)=>((((Fr.none).set 0 (.val (bsl zt) l)).set 2 (.ptr 0 0)).set 4 (.ptr 1 0)).set 6 (.val i64T 0)) (fun (g:Block)=>((Hp.none).set 0 (.box 56 tipT zTip)).set 1 (.box 56 tipT (zaw g.h.bits))) (fun (g:Block)=>l[0]?=some g∧zay g.h.bits=true∧(zaw g.h.bits).b=g) (fun (g:Block)=>0) ?_ (fun hreach=>?_)
 ·
  intro g hinv;have hl1:=(ul.1 hinv.1).1;refine qaK ?_;refine A0 (ziT rfl rfl rfl zbS yd) ?_;refine qbf ?_;refine qbp ?_;refine Lp (ι:=Nat×Tip) 2 (fun(k,t)=>((((((Fr.none.set 0 (.val (bsl zt) l)).set 2 (.ptr 0 0)).set 4 (.ptr 1 0)).set 6 (.val i64T 0)).set 35 (.val (bsl zt) (l.drop 1))).set 36 (.val i64T ((l.drop 1).length:Int))).set 37 (.val i64T (k:Int))) (fun(k,t)=>(Hp.none.set 0 (.box 56 tipT zTip)).set 1 (.box 56 tipT t)) (fun(k,t)=>k≤(l.drop 1).length∧zmY t k∧zQ l=zaD t ((l.drop 1).drop k)) (fun(k,t)=>(l.drop 1).length-k) ((0,zaw g.h.bits)) (⟨uf _,zih,zi2 hinv.1 hinv.2.1 hinv.2.2⟩) ?_;intro⟨k,t⟩ hin;dsimp only at hin;refine qas ?_;refine Cf (p:=k<(l.drop 1).length) (fun ht38=>?_) (fun ht38=>?_)
  ·
   have hk38:k<l.length:=by rw[List.length_drop] at ht38;omega
   obtain⟨b,hb⟩:∃b,(l.drop 1)[k]?=some b:=⟨_,ub ht38⟩;have hbm:=hl.2 b (List.mem_of_mem_drop (ud hb));refine CSQBQR ?_;refine A0 (zD (i:=k) rfl rfl rfl ya zbS yj) ?_;refine qbU ?_;refine qaW ?_;refine CNQR ?_;refine xb ?_;refine qc4 ?_;refine A0 (oCl (push_ok t b hin.2.1.1 hbm) rfl fn_53 yf) ?_;refine qaM ?_;refine qap ?_;refine qaS ?_;refine qaT ?_;refine zk (p:=¬zbw t b=0) rfl yF (fun ht48=>?_) (fun ht48=>?_)
   ·
    refine CE ?_;refine qaK ?_;refine qaT ?_;refine zoO rfl (by simpa [IntL.toI] using ht48) ?_;refine CQR ?_;refine xF ?_;refine qa9 ?_;refine qap ?_;refine qad ?_;exact zx rfl rfl (zC rfl rfl zaP (by rw[hin.2.2,zhy hb ht48])) (zX (zb rfl (by rw[hin.2.2,zhy hb ht48])))
   refine qbF ?_;refine zi (d:=6) (y:=(0:Int)) rfl (ua ht48) ?_;exact Nx ((k+1,zfR t b)) (⟨by omega,zh7 hin.2.1 (by rw[List.length_drop] at ht38;omega) hbm (ua ht48),hin.2.2.trans (znG hb (ua ht48))⟩) (by show(l.drop 1).length-(k+1)<(l.drop 1).length-k;omega)
  refine CE ?_;refine qaK ?_;refine qaT ?_;refine Cg ?_;refine CSQR ?_;refine xb ?_;refine qap ?_;refine qad ?_;exact zx rfl rfl (zC rfl rfl zaP (by rw[hin.2.2,zi1 ya])) (zX (zb rfl (by rw[hin.2.2,zi1 ya])))
 refine qaK ?_;refine qbf ?_;refine qcC ?_;refine Cf (p:=l.length=0) (fun ht11=>?_) (fun ht11=>?_)
 ·
  refine CQR ?_;refine xF ?_;refine qap ?_;refine qad ?_;exact zx rfl rfl (zC rfl rfl zaP (by rw[zgz ht11])) (zX (zb rfl (by rw[zgz ht11])))
 obtain⟨g,hg⟩:∃g,l[0]?=some g:=yq;refine qbL ?_;refine A0 (zD (i:=0) rfl rfl rfl ya zbS yj) ?_;refine A0 (oFr zah zE) ?_;refine A0 (oFr zcf zan) ?_;refine A0 (zh rfl rfl zaY) ?_;refine A0 (oCl (zl5 g.h.bits) rfl fn_55 ybD) ?_;refine qbE ?_;refine qaJ ?_;refine qaH ?_;refine G0 mV ?_;refine G0 oN ?_;refine G0 mV ?_;refine zaq (d:=24) (p:=¬zay g.h.bits=true) rfl (by cases zay g.h.bits<;>rfl) (fun g24=>?_) (fun g24=>?_)
 ·
  refine qaE ?_;refine qaE ?_;refine G2 ?_;refine qbV ?_;refine Ct ?_;refine CQR ?_;refine xF ?_;refine qap ?_;refine qad ?_;exact zx rfl rfl (zC rfl rfl zaP (by rw[zbX hg fun h=>g24 h.1])) (zX (zb rfl (by rw[zbX hg fun h=>g24 h.1])))
 refine G1 (oFp zdU) ?_;refine G1 (oLb zbL zbg) ?_;refine G1 mV ?_;refine G1 (zD (i:=0) rfl rfl rfl ya zbS yj) ?_;refine G1 (zh rfl rfl zbg) ?_;refine G1 (oCl (znV _ _) rfl fn_56 ybG) ?_;refine G1 oN ?_;refine qbV ?_;refine zk (p:=¬(zaw g.h.bits).b=g) rfl yx (fun ht32=>?_) (fun ht32=>?_)
 ·
  refine CQR ?_;refine xF ?_;refine qap ?_;refine qad ?_;exact zx rfl rfl (zC rfl rfl zaP (by rw[zbX hg fun h=>ht32 h.2])) (zX (zb rfl (by rw[zbX hg fun h=>ht32 h.2])))
 refine CSQR ?_;refine qaJ ?_;exact zsT hreach (g) rfl (⟨hg,ua g24,ua ht32⟩) rfl (by (repeat refine Fr.le_set ?_ y6);exact Fr.le_none _) (by (repeat refine Hp.le_set ?_ rfl);exact Hp.le_none _) (by (repeat refine Fr.below_setB ?_ rfl);exact Fr.below_none _) (by (repeat refine Hp.below_set ?_ yp);exact Hp.below_none _)
theorem newC_ok (bits:UInt32):Tells P 42 [.val u32T bits] (.tup2 (.val (sl zt) (zkt bits)) (.val zu (zay bits))):=by
 refine zc Tryz.func42 rfl rfl rfl (fun ext w hext=>?_);refine qaB ?_;refine qaS ?_;refine A0 (oCl (zl5 bits) rfl fn_55 ye) ?_;refine qbE ?_;refine qah ?_;refine qaQ ?_;refine zk (p:=¬zay bits=true) rfl ya7 (fun ht12=>?_) (fun ht12=>?_)
 ·
  refine qaB ?_;refine qad ?_;exact zac rfl rfl (by unfold zkt;rw[ur ht12];exact ze1 rfl) (zb rfl (by simpa using ht12))
 refine CSQR ?_;refine A0 (oFp zdU) ?_;refine A0 (oLb zbL zbg) ?_;refine qbv ?_;refine qb6 ?_;exact zac rfl rfl (zb rfl (by unfold zkt;rw[ut (ua ht12)])) (zb rfl (ua ht12).symm)
theorem growC_ok (l:List Block) (t:List Tx) (nonce:UInt64) (hl:zeW l) (ht:zmZ t):Tells P 34 [.val (bsl zt) l,.val (sl txT) t,.val u64T nonce] (.tup2 (.fresh 37 zt (ziS l t nonce)) (.val i64T (zmJ l t nonce))):=by
 have hll:=hl.1;refine zc Tryz.func34 rfl rfl rfl (fun ext w hext=>?_);refine ze (d:=0) rfl zm (fun hsl0=>?_);refine ze (d:=1) rfl zm (fun hsl1=>?_);refine qaB ?_;refine qaS ?_;refine zam (ownC_ok l hl) rfl fn_66 ye rfl rfl rfl ?_;refine A0 aO ?_;refine qbX ?_;refine A0 (oCl (zkS l hl) rfl fn_28 ye) ?_;refine qbE ?_;refine qah ?_;refine qaT ?_;refine zk (p:=¬(zQ l).2=0) rfl yF (fun ht20=>?_) (fun ht20=>?_)
 ·
  have hE:zmJ l t nonce=(zQ l).2:=by unfold zmJ;rw[ur ht20]
  have hG:ziS l t nonce=l:=by unfold ziS;rw[hE,ur ht20]
  refine CQR ?_;refine A0 mO ?_;refine qa9 ?_;refine A0 aO ?_;refine qad ?_;exact zac rfl rfl (zf rfl rfl (by rw[hG])) (zb rfl hE.symm)
 refine CSQR ?_;refine xb ?_;refine qai ?_;refine A0 (oCl (mineB_ok (zQ l).1 t nonce 200 (zmj hl) ht) rfl fn_67 ⟨yl,yl,yl,yl,trivial⟩) ?_;refine qaM ?_;refine zP zje rfl rfl rfl rfl ?_;refine qaW ?_;refine qah ?_;refine qaT ?_;refine zk (p:=¬zeB (zQ l).1 t nonce 200=0) rfl yF (fun ht31=>?_) (fun ht31=>?_)
 ·
  have hE:zmJ l t nonce=zeB (zQ l).1 t nonce 200:=by unfold zmJ;rw[ut (ua ht20)]
  have hG:ziS l t nonce=l:=by unfold ziS;rw[hE,ur ht31]
  refine CQR ?_;refine A0 mO ?_;refine qa9 ?_;refine A0 aO ?_;refine qad ?_;exact zac rfl rfl (zf rfl rfl (by rw[hG])) (zb rfl hE.symm)
 have hE:zmJ l t nonce=0:=by unfold zmJ;rw[ut (ua ht20)];exact ua ht31
 have hG:ziS l t nonce=l++[zpG (zQ l).1 t nonce 200]:=by unfold ziS;rw[ut hE]
 refine CSQR ?_;refine A0 mO ?_;refine qc4 ?_;refine qbv ?_;refine zo rfl rfl rfl rfl rfl rfl rfl zdC yG ?_;refine A0 aO ?_;refine qad ?_;exact zac rfl rfl (zf rfl rfl (by rw[hG])) (zb rfl hE.symm)
theorem fewC_no {l:List Block} {k:Nat} {x:Block} (hx:l[k]?=some x) (h:¬fewB x=true):fewC l=false:=by
  unfold fewC;rw[Bool.and_eq_false_iff]
  left
  rw[List.all_eq_false];exact⟨x,ud hx,h⟩
theorem fewB_all {x:Block} (h:¬(x.t.all few&&decide ((x.t.length:Int)≤6))=true):¬fewB x=true:=fun h2=>by unfold fewB at h2;rw[uk] at h2;exact h h2.1
theorem fewB_links {x:Block} (h:40<x.l.length):¬fewB x=true:=fun h2=>by unfold fewB at h2;rw[uk,uj] at h2;omega
theorem fewB_yes {x:Block} (h:(x.t.all few&&decide ((x.t.length:Int)≤6))=true) (h2:¬40<x.l.length):fewB x=true:=by unfold fewB;rw[h,Bool.true_and];exact ui ya
theorem zoV {α:Type} {p:α→Bool} {l:List α} {k:Nat} {x:α} (h:(l.take k).all p=true) (hx:l[k]?=some x) (hp:p x=true):(l.take (k+1)).all p=true:=by
  rw[un,hx,List.all_append,h];simp[hp]
theorem fewC_end {l:List Block} {k:Nat} (h:(l.take k).all fewB=true) (hk:l.length≤k):fewC l=decide ((l.length:Int)≤50):=by
  rw[uc hk] at h;unfold fewC;rw[h,Bool.true_and]
theorem easy_newOf:zkt 545259519=[zcg]:=by unfold zkt;rw[ut zmb,zsJ];rfl
theorem fewC_ok (l:List Block):Tells P 11 [.val (bsl zt) l] (.val zu (fewC l)):=by
 refine zc Tryz.func11 rfl rfl rfl (fun ext w hext=>?_);refine ze (d:=0) rfl zm (fun hsl0=>?_);refine CQR ?_;refine qbR ?_;refine Lp (ι:=Nat) 0 (fun (k:Nat)=>((Fr.none).set 0 (.val (bsl zt) l)).set 3 (.val i64T (k:Int))) (fun (k:Nat)=>Hp.none) (fun (k:Nat)=>k≤l.length∧(l.take k).all fewB=true) (fun (k:Nat)=>l.length-k) (0) (⟨uf _,by simp⟩) ?_;intro k hinv;refine qb9 ?_;refine qbf ?_;refine qa1 ?_;refine Cf (p:=k<l.length) (fun ht8=>?_) (fun ht8=>?_)
 ·
  obtain⟨x,hx⟩:∃x,l[k]?=some x:=⟨_,ub ht8⟩;refine CSQBQR ?_;refine qai ?_;refine A0 (zD (i:=k) rfl rfl rfl ya zbS yj) ?_;refine A0 (oFr zdl zda) ?_;refine A0 (zh rfl rfl zhZ) ?_;refine A0 (oCl (fewAll_ok _ _) rfl fn_35 ybF) ?_;refine qaS ?_;refine A0 oN ?_;refine qa9 ?_;refine zad (d:=19) (p:=¬(x.t.all few&&decide ((x.t.length:Int)≤6))=true) rfl (by cases (x.t.all few&&decide ((x.t.length:Int)≤6))<;>rfl) (fun g19=>?_) (fun g19=>?_)
  ·
   refine qcT ?_;refine qaZ ?_;refine Ct ?_;refine qaq ?_;exact za rfl rfl (zb rfl (fewC_no hx (fewB_all g19)).symm)
  refine A1 mV ?_;refine A1 mV ?_;refine A1 (zD (i:=k) rfl rfl rfl ya zbS yj) ?_;refine A1 (oFr zcD zb1) ?_;refine A1 (zh rfl rfl zf8) ?_;refine A1 yab ?_;refine A1 zcm ?_;refine qar ?_;refine Cf (p:=40<x.l.length) (fun ht27=>?_) (fun ht27=>?_)
  ·
   refine qaq ?_;exact za rfl rfl (zb rfl (fewC_no hx (fewB_links ht27)).symm)
  refine qbZ ?_;exact Nx (k+1) (⟨by omega,zoV hinv.2 hx (fewB_yes (ua g19) ht27)⟩) ya
 refine CE ?_;refine qa0 ?_;refine qbf ?_;refine A0 zhK ?_;refine qad ?_;exact za rfl rfl (zb rfl (by rw[fewC_end hinv.2 ya,uo];rfl))
theorem ze2 {r:Nat} (h:r≤64):2^r*2^(64-r)=18446744073709551616:=by
  rw[←Nat.pow_add,show r+(64-r)=64 by omega]
theorem shl_n {x:UInt64} {r:Nat} (h:r<64):(zhJ x r).toNat=x.toNat*2^r%18446744073709551616:=by
  unfold zhJ;rw[UInt64.toNat_ofNat',Nat.min_eq_left ya]
theorem shr_n {x:UInt64} {r:Nat} (h:r<64):(zaB x r).toNat=x.toNat/2^r:=by
  unfold zaB;have hx:x.toNat<18446744073709551616:=x.toNat_lt;rw[Nat.min_eq_left ya,UInt64.toNat_ofNat_of_lt' (by show _<18446744073709551616;have:=Nat.div_le_self x.toNat (2^r);omega)]
def upU (x y:UInt64) (r:Nat):UInt64:=zhJ x r|||zaB (zaB y 1) (63-r)
def zkv (x y:UInt64) (r:Nat):UInt64:=zaB x r|||zhJ (zhJ y 1) (63-r)
theorem zr2 {a b i:Nat} (h:b<2^i):(a*2^i)|||b=a*2^i+b:=by
  rw[←Nat.shiftLeft_eq,Nat.shiftLeft_add_eq_or_of_lt h]
theorem upU_n {x y:UInt64} {r:Nat} (h:r<64):(upU x y r).toNat=x.toNat%2^(64-r)*2^r+y.toNat/2^(64-r):=by
  have hy:y.toNat<18446744073709551616:=y.toNat_lt;unfold upU;rw[UInt64.toNat_or,shl_n h,shr_n ya,shr_n ya,Nat.div_div_eq_div_mul,←Nat.pow_add,show 1+(63-r)=64-r by omega];have e:x.toNat*2^r%18446744073709551616=x.toNat%2^(64-r)*2^r:=by
    rw[←ze2 (r:=r) ya,Nat.mul_comm (2^r) (2^(64-r)),Nat.mul_mod_mul_right]
  rw[e,zr2];rw[Nat.div_lt_iff_lt_mul (Nat.two_pow_pos _),ze2 ya];exact hy
theorem zoC {x y:UInt64} {r:Nat} (h:r<64):(zkv x y r).toNat=x.toNat/2^r+y.toNat%2^r*2^(64-r):=by
  have hx:x.toNat<18446744073709551616:=x.toNat_lt;unfold zkv;rw[UInt64.toNat_or,shr_n h,shl_n ya,shl_n ya];have e:y.toNat*2^1%18446744073709551616*2^(63-r)%18446744073709551616=y.toNat%2^r*2^(64-r):=by
    rw[Nat.mod_mul_mod,Nat.mul_assoc,←Nat.pow_add,show 1+(63-r)=64-r by omega,←ze2 (r:=r) ya,Nat.mul_mod_mul_right]
  rw[e,Nat.or_comm,zr2,Nat.add_comm];rw[Nat.div_lt_iff_lt_mul (Nat.two_pow_pos _),Nat.mul_comm,ze2 ya];exact hx
theorem up_small {a0 a1 a2 a3:UInt64} {r:Nat} (h:r<64):nW [upU a0 0 r,upU a1 a0 r,upU a2 a1 r,upU a3 a2 r]=nW [a0,a1,a2,a3]*2^r%W256:=by
  have hs:=ze2 (r:=r) ya;unfold nW;simp only[List.getD_cons_zero,List.getD_cons_succ];rw[upU_n h,upU_n h,upU_n h,upU_n h];have hz:(0:UInt64).toNat=0:=rfl;rw[hz,Nat.zero_div];obtain⟨p,hp⟩:∃p,p=2^r:=⟨_,rfl⟩;obtain⟨s,hs'⟩:∃s,s=2^(64-r):=⟨_,rfl⟩;rw[←hp,←hs'] at hs ⊢;have key:∀x:UInt64,∃t c:Nat,x.toNat*p=t+18446744073709551616*c∧x.toNat%s*p=t∧x.toNat/s=c∧c<18446744073709551616:=fun x=>by
    have hx:x.toNat<18446744073709551616:=x.toNat_lt;refine⟨_,_,?_,rfl,rfl,?_⟩
    · have e:=Nat.mod_add_div x.toNat s
      conv=>lhs;rw[←e]
      rw[Nat.add_mul,←hs,Nat.mul_comm s (x.toNat/s),Nat.mul_assoc,Nat.mul_comm s p,Nat.mul_comm (x.toNat/s)]
    exact Nat.lt_of_le_of_lt (Nat.div_le_self _ _) hx
  obtain⟨t0,c0,e0,f0,g0,l0⟩:=key a0;obtain⟨t1,c1,e1,f1,g1,l1⟩:=key a1;obtain⟨t2,c2,e2,f2,g2,l2⟩:=key a2;obtain⟨t3,c3,e3,f3,g3,l3⟩:=key a3;have b3:t3<18446744073709551616:=by
    rw[←f3,←hs,Nat.mul_comm p s];exact Nat.mul_lt_mul_of_pos_right (Nat.mod_lt _ yba) (by rw[hp];exact Nat.two_pow_pos _)
  have b:∀{x:UInt64} {t:Nat},x.toNat%s*p=t→t<18446744073709551616:=fun {x t} f=>by
    rw[←f,←hs,Nat.mul_comm p s];exact Nat.mul_lt_mul_of_pos_right (Nat.mod_lt _ yba) (by rw[hp];exact Nat.two_pow_pos _)
  have b0:=b f0;have b1:=b f1;have b2:=b f2;have hd:∀{x:UInt64} {c:Nat},x.toNat/s=c→c<p:=fun {x c} f=>by
    rw[←f,Nat.div_lt_iff_lt_mul yba,hs];exact x.toNat_lt
  have hm:∀{x:UInt64} {t:Nat},x.toNat%s*p=t→t+p≤18446744073709551616:=fun {x t} f=>by
    rw[←f,←hs,Nat.mul_comm p s];have h1:x.toNat%s+1≤s:=Nat.mod_lt _ yba;have h2:=Nat.mul_le_mul_right p h1;rw[Nat.add_mul,Nat.one_mul] at h2;exact h2
  have d0:=hd g0;have d1:=hd g1;have d2:=hd g2;have m1:=hm f1;have m2:=hm f2;have m3:=hm f3;rw[f0,f1,f2,f3,g0,g1,g2];have e:(a0.toNat+18446744073709551616*a1.toNat+340282366920938463463374607431768211456*a2.toNat+6277101735386680763835789423207666416102355444464034512896*a3.toNat)*p=a0.toNat*p+18446744073709551616*(a1.toNat*p)+340282366920938463463374607431768211456*(a2.toNat*p)+6277101735386680763835789423207666416102355444464034512896*(a3.toNat*p):=by
    rw[Nat.add_mul,Nat.add_mul,Nat.add_mul,Nat.mul_assoc,Nat.mul_assoc,Nat.mul_assoc]
  rw[e,e0,e1,e2,e3];unfold W256;omega
theorem down_small {a0 a1 a2 a3:UInt64} {r:Nat} (h:r<64):nW [zkv a0 a1 r,zkv a1 a2 r,zkv a2 a3 r,zkv a3 0 r]=nW [a0,a1,a2,a3]/2^r:=by
  have hs:=ze2 (r:=r) ya;unfold nW;simp only[List.getD_cons_zero,List.getD_cons_succ];rw[zoC h,zoC h,zoC h,zoC h];have hz:(0:UInt64).toNat=0:=rfl;rw[hz,Nat.zero_mod,Nat.zero_mul];have hpos:=Nat.two_pow_pos r;obtain⟨p,hp⟩:∃p,p=2^r:=⟨_,rfl⟩;obtain⟨s,hs'⟩:∃s,s=2^(64-r):=⟨_,rfl⟩;rw[←hp,←hs'] at hs ⊢;rw[←hp] at hpos;have key:∀x:UInt64,∃c d:Nat,x.toNat=p*c+d∧x.toNat/p=c∧x.toNat%p=d∧d<p:=fun x=>⟨_,_,(Nat.div_add_mod _ _).symm,rfl,rfl,Nat.mod_lt _ hpos⟩
  obtain⟨c0,d0,e0,f0,g0,l0⟩:=key a0;obtain⟨c1,d1,e1,f1,g1,l1⟩:=key a1;obtain⟨c2,d2,e2,f2,g2,l2⟩:=key a2;obtain⟨c3,d3,e3,f3,g3,l3⟩:=key a3;rw[f0,f1,f2,f3,g1,g2,g3];symm;have e:a0.toNat+18446744073709551616*a1.toNat+340282366920938463463374607431768211456*a2.toNat+6277101735386680763835789423207666416102355444464034512896*a3.toNat=d0+p*(c0+d1*s+18446744073709551616*(c1+d2*s)+340282366920938463463374607431768211456*(c2+d3*s)+6277101735386680763835789423207666416102355444464034512896*(c3+0)):=by
    rw[e0,e1,e2,e3];simp only[Nat.mul_add,Nat.mul_left_comm p,hs];omega
  rw[e,Nat.add_mul_div_left _ _ hpos,Nat.div_eq_of_lt l0,Nat.zero_add]
theorem zfi {a:Wide} (h:a.length=4):∃a0 a1 a2 a3,a=[a0,a1,a2,a3]:=by
  match a,h with
  | [a0,a1,a2,a3],_=>exact⟨a0,a1,a2,a3,rfl⟩
theorem zhW {a:Wide} {n:Int} (h:a.length=4):(upW a n).length=4:=by
  unfold upW;split
  · exact h
  split
  · rfl
  simp
theorem zdG {a:Wide} {n:Int} (h:a.length=4):(zc2 a n).length=4:=by
  unfold zc2;split
  · exact h
  split
  · rfl
  simp
theorem nW_up {a:Wide} {n:Nat} (h:a.length=4) (hn:n<256):nW (upW a n)=nW a*2^n%W256:=by
  obtain⟨a0,a1,a2,a3,rfl⟩:=zfi h;obtain⟨q,r,rfl,hr⟩:∃q r,n=64*q+r∧r<64:=⟨n/64,n%64,by omega,by omega⟩;have h1:((64*q+r:Nat):Int)/64=q:=ya;have h2:(((64*q+r:Nat):Int)%64).toNat=r:=ya;have hz:=UInt64.toNat_lt a0;have h3:q<4:=ya;have h4:(63-((64*q+r:Nat):Int)%64).toNat=63-r:=ya;have e:∀b:Wide,b.length=4→(∀i:Nat,i<4→atW [a0,a1,a2,a3] ((i:Int)-q)=b.getD i 0∧atW [a0,a1,a2,a3] ((i:Int)-q-1)=if i=0 then 0 else b.getD (i-1) 0)→nW b=nW [a0,a1,a2,a3]*18446744073709551616^q%W256→nW (upW [a0,a1,a2,a3] ((64*q+r:Nat):Int))=nW [a0,a1,a2,a3]*2^(64*q+r)%W256:=fun b hb hat hnb=>by
    obtain⟨b0,b1,b2,b3,rfl⟩:=zfi hb;unfold upW;rw[ur ya,ur ya];have hF:(List.range 4).map (upF [a0,a1,a2,a3] ((64*q+r:Nat):Int))=[upU b0 0 r,upU b1 b0 r,upU b2 b1 r,upU b3 b2 r]:=by
      have hu:∀i,upF [a0,a1,a2,a3] ((64*q+r:Nat):Int) i=upU (atW [a0,a1,a2,a3] ((i:Int)-q)) (atW [a0,a1,a2,a3] ((i:Int)-q-1)) r:=fun i=>by unfold upF upU;rw[h1,h2,h4]
      show [upF _ _ 0,upF _ _ 1,upF _ _ 2,upF _ _ 3]=_;rw[hu,hu,hu,hu,(hat 0 yp).1,(hat 0 yp).2,(hat 1 yp).1,(hat 1 yp).2,(hat 2 yp).1,(hat 2 yp).2,(hat 3 yp).1,(hat 3 yp).2];rfl
    rw[hF,up_small hr,hnb,Nat.mod_mul_mod,Nat.pow_add,Nat.pow_mul,Nat.mul_assoc]
  have hb0:a0.toNat<18446744073709551616:=a0.toNat_lt;have hb1:a1.toNat<18446744073709551616:=a1.toNat_lt;have hb2:a2.toNat<18446744073709551616:=a2.toNat_lt;have hb3:a3.toNat<18446744073709551616:=a3.toNat_lt;have hq:q=0∨q=1∨q=2∨q=3:=ya;rcases hq with rfl|rfl|rfl|rfl
  · refine e [a0,a1,a2,a3] rfl (fun i hi=>?_) ?_
    · match i,hi with
      | 0,_=>exact⟨rfl,rfl⟩
      | 1,_=>exact⟨rfl,rfl⟩
      | 2,_=>exact⟨rfl,rfl⟩
      | 3,_=>exact⟨rfl,rfl⟩
    rw[Nat.pow_zero,Nat.mul_one,Nat.mod_eq_of_lt (zpC h)]
  · refine e [0,a0,a1,a2] rfl (fun i hi=>?_) ?_
    · match i,hi with
      | 0,_=>exact⟨rfl,rfl⟩
      | 1,_=>exact⟨rfl,rfl⟩
      | 2,_=>exact⟨rfl,rfl⟩
      | 3,_=>exact⟨rfl,rfl⟩
    unfold nW W256;simp only[List.getD_cons_zero,List.getD_cons_succ];have:(0:UInt64).toNat=0:=rfl;omega
  · refine e [0,0,a0,a1] rfl (fun i hi=>?_) ?_
    · match i,hi with
      | 0,_=>exact⟨rfl,rfl⟩
      | 1,_=>exact⟨rfl,rfl⟩
      | 2,_=>exact⟨rfl,rfl⟩
      | 3,_=>exact⟨rfl,rfl⟩
    unfold nW W256;simp only[List.getD_cons_zero,List.getD_cons_succ];have:(0:UInt64).toNat=0:=rfl;omega
  refine e [0,0,0,a0] rfl (fun i hi=>?_) ?_
  · match i,hi with
    | 0,_=>exact⟨rfl,rfl⟩
    | 1,_=>exact⟨rfl,rfl⟩
    | 2,_=>exact⟨rfl,rfl⟩
    | 3,_=>exact⟨rfl,rfl⟩
  unfold nW W256;simp only[List.getD_cons_zero,List.getD_cons_succ];have:(0:UInt64).toNat=0:=rfl;omega
theorem zh8 {a:Wide} {n:Nat} (h:a.length=4) (hn:n<256):nW (zc2 a n)=nW a/2^n:=by
  obtain⟨a0,a1,a2,a3,rfl⟩:=zfi h;obtain⟨q,r,rfl,hr⟩:∃q r,n=64*q+r∧r<64:=⟨n/64,n%64,by omega,by omega⟩;have h1:((64*q+r:Nat):Int)/64=q:=ya;have h2:(((64*q+r:Nat):Int)%64).toNat=r:=ya;have h3:q<4:=ya;have h4:(63-((64*q+r:Nat):Int)%64).toNat=63-r:=ya;have e:∀b:Wide,b.length=4→(∀i:Nat,i<4→atW [a0,a1,a2,a3] ((i:Int)+q)=b.getD i 0∧atW [a0,a1,a2,a3] ((i:Int)+q+1)=if i=3 then 0 else b.getD (i+1) 0)→nW b=nW [a0,a1,a2,a3]/18446744073709551616^q→nW (zc2 [a0,a1,a2,a3] ((64*q+r:Nat):Int))=nW [a0,a1,a2,a3]/2^(64*q+r):=fun b hb hat hnb=>by
    obtain⟨b0,b1,b2,b3,rfl⟩:=zfi hb;unfold zc2;rw[ur ya,ur ya];have hF:(List.range 4).map (zmL [a0,a1,a2,a3] ((64*q+r:Nat):Int))=[zkv b0 b1 r,zkv b1 b2 r,zkv b2 b3 r,zkv b3 0 r]:=by
      have hu:∀i,zmL [a0,a1,a2,a3] ((64*q+r:Nat):Int) i=zkv (atW [a0,a1,a2,a3] ((i:Int)+q)) (atW [a0,a1,a2,a3] ((i:Int)+q+1)) r:=fun i=>by unfold zmL zkv;rw[h1,h2,h4]
      show [zmL _ _ 0,zmL _ _ 1,zmL _ _ 2,zmL _ _ 3]=_;rw[hu,hu,hu,hu,(hat 0 yp).1,(hat 0 yp).2,(hat 1 yp).1,(hat 1 yp).2,(hat 2 yp).1,(hat 2 yp).2,(hat 3 yp).1,(hat 3 yp).2];rfl
    rw[hF,down_small hr,hnb,Nat.div_div_eq_div_mul,Nat.pow_add,Nat.pow_mul]
  have hb0:a0.toNat<18446744073709551616:=a0.toNat_lt;have hb1:a1.toNat<18446744073709551616:=a1.toNat_lt;have hb2:a2.toNat<18446744073709551616:=a2.toNat_lt;have hb3:a3.toNat<18446744073709551616:=a3.toNat_lt;have hq:q=0∨q=1∨q=2∨q=3:=ya;rcases hq with rfl|rfl|rfl|rfl
  · refine e [a0,a1,a2,a3] rfl (fun i hi=>?_) (by rw[Nat.pow_zero,Nat.div_one])
    match i,hi with
      | 0,_=>exact⟨rfl,rfl⟩
      | 1,_=>exact⟨rfl,rfl⟩
      | 2,_=>exact⟨rfl,rfl⟩
      | 3,_=>exact⟨rfl,rfl⟩
  · refine e [a1,a2,a3,0] rfl (fun i hi=>?_) ?_
    · match i,hi with
      | 0,_=>exact⟨rfl,rfl⟩
      | 1,_=>exact⟨rfl,rfl⟩
      | 2,_=>exact⟨rfl,rfl⟩
      | 3,_=>exact⟨rfl,rfl⟩
    unfold nW;simp only[List.getD_cons_zero,List.getD_cons_succ];have:(0:UInt64).toNat=0:=rfl;omega
  · refine e [a2,a3,0,0] rfl (fun i hi=>?_) ?_
    · match i,hi with
      | 0,_=>exact⟨rfl,rfl⟩
      | 1,_=>exact⟨rfl,rfl⟩
      | 2,_=>exact⟨rfl,rfl⟩
      | 3,_=>exact⟨rfl,rfl⟩
    unfold nW;simp only[List.getD_cons_zero,List.getD_cons_succ];have:(0:UInt64).toNat=0:=rfl;omega
  refine e [a3,0,0,0] rfl (fun i hi=>?_) ?_
  · match i,hi with
    | 0,_=>exact⟨rfl,rfl⟩
    | 1,_=>exact⟨rfl,rfl⟩
    | 2,_=>exact⟨rfl,rfl⟩
    | 3,_=>exact⟨rfl,rfl⟩
  unfold nW;simp only[List.getD_cons_zero,List.getD_cons_succ];have:(0:UInt64).toNat=0:=rfl;omega
theorem zmi {a b:Wide} (ha:a.length=4) (hb:b.length=4):cmpW a b=if nW a<nW b then -1 else if nW b<nW a then 1 else 0:=by
  obtain⟨a0,a1,a2,a3,rfl⟩:=zfi ha;obtain⟨b0,b1,b2,b3,rfl⟩:=zfi hb;have h0:a0.toNat<18446744073709551616:=a0.toNat_lt;have h1:a1.toNat<18446744073709551616:=a1.toNat_lt;have h2:a2.toNat<18446744073709551616:=a2.toNat_lt;have h3:a3.toNat<18446744073709551616:=a3.toNat_lt;have k0:b0.toNat<18446744073709551616:=b0.toNat_lt;have k1:b1.toNat<18446744073709551616:=b1.toNat_lt;have k2:b2.toNat<18446744073709551616:=b2.toNat_lt;have k3:b3.toNat<18446744073709551616:=b3.toNat_lt;show orL [cmpU a3 b3,cmpU a2 b2,cmpU a1 b1,cmpU a0 b0]=if a0.toNat+18446744073709551616*a1.toNat+340282366920938463463374607431768211456*a2.toNat+6277101735386680763835789423207666416102355444464034512896*a3.toNat<b0.toNat+18446744073709551616*b1.toNat+340282366920938463463374607431768211456*b2.toNat+6277101735386680763835789423207666416102355444464034512896*b3.toNat then -1 else if b0.toNat+18446744073709551616*b1.toNat+340282366920938463463374607431768211456*b2.toNat+6277101735386680763835789423207666416102355444464034512896*b3.toNat<a0.toNat+18446744073709551616*a1.toNat+340282366920938463463374607431768211456*a2.toNat+6277101735386680763835789423207666416102355444464034512896*a3.toNat then 1 else 0
  have c:∀x y:UInt64,cmpU x y=if x.toNat<y.toNat then -1 else if y.toNat<x.toNat then 1 else 0:=fun x y=>by unfold cmpU;simp only[UInt64.lt_iff_toNat_lt]
  rw[c,c,c,c];by_cases d3:a3.toNat=b3.toNat
  · by_cases d2:a2.toNat=b2.toNat
    · by_cases d1:a1.toNat=b1.toNat
      · rw[d3,d2,d1,ur (Nat.lt_irrefl _),ur (Nat.lt_irrefl _),ur (Nat.lt_irrefl _),ur (Nat.lt_irrefl _),ur (Nat.lt_irrefl _),ur (Nat.lt_irrefl _)]
        by_cases l:a0.toNat<b0.toNat
        · rw[ut l];show(-1:Int)=_;rw[ut ya]
        rw[ur l];by_cases l2:b0.toNat<a0.toNat
        · rw[ut l2];show(1:Int)=_;rw[ur ya,ut ya]
        rw[ur l2];show(0:Int)=_;rw[ur ya,ur ya]
      rw[d3,d2,ur (Nat.lt_irrefl _),ur (Nat.lt_irrefl _),ur (Nat.lt_irrefl _),ur (Nat.lt_irrefl _)];by_cases l:a1.toNat<b1.toNat
      · rw[ut l];show(-1:Int)=_;rw[ut ya]
      rw[ur l,ut (show b1.toNat<a1.toNat by omega)];show(1:Int)=_;rw[ur ya,ut ya]
    rw[d3,ur (Nat.lt_irrefl _),ur (Nat.lt_irrefl _)];by_cases l:a2.toNat<b2.toNat
    · rw[ut l];show(-1:Int)=_;rw[ut ya]
    rw[ur l,ut (show b2.toNat<a2.toNat by omega)];show(1:Int)=_;rw[ur ya,ut ya]
  by_cases l:a3.toNat<b3.toNat
  · rw[ut l];show(-1:Int)=_;rw[ut ya]
  rw[ur l,ut (show b3.toNat<a3.toNat by omega)];show(1:Int)=_;rw[ur ya,ut ya]
end Go.Proofs.YtgoebfjaaklopaaGreat
