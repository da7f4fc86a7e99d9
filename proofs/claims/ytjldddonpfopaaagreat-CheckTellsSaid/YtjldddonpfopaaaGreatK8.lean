/- Parts of the proof: the layer that reads Go values as data, and what the functions of the program tell. -/
import Derived.Test.YtjldddonpfopaaaGreatK7
set_option linter.unusedVariables false
set_option linter.unusedSimpArgs false
set_option maxRecDepth 20000
namespace Go.Proofs.YtjldddonpfopaaaGreat
open Go.Ab Go.RowKit
def sealedL (h:Head):List UInt8:=5::headBytes h
def zBlockD:Block:=⟨zHead,[],[]⟩
def bAt (l:List Block) (id:Ab.Id):Block:=(l[(findOf l id).toNat]?).getD zBlockD
def extF (p:Proof) (l:List Block):Nat→List UInt8×List UInt8×Bool
  | 0=>([],[],false)
  | i+1 =>
    if findOf l (headId (yAt p i).h)<0 then ([],[],false)
    else if ¬(bAt l (headId (yAt p i).h)).h=(yAt p i).h then (sealedL (yAt p i).h,sealedL (bAt l (headId (yAt p i).h)).h,true)
    else if ¬(bAt l (headId (yAt p i).h)).l=(yAt p i).l then differOf (yAt p i).l (bAt l (headId (yAt p i).h)).l
    else extF p l i
def extOf (p:Proof) (l:List Block):List UInt8×List UInt8×Bool :=
  if ¬(checkOf l).2=0∨¬checkP p=0 then ([],[],false)
  else if ¬headId (yAt p (p.p.length-1)).h=headId (checkOf l).1.b.h then ([],[],false)
  else extF p l p.p.length
section
variable {p:Proof} {l:List Block} {i:Nat} {b:Block}
theorem bAt_of (h:l[(findOf l (headId (yAt p i).h)).toNat]?=some b):bAt l (headId (yAt p i).h)=b:=by unfold bAt;rw [h];rfl
theorem ext_none (h:findOf l (headId (yAt p i).h)<0):extF p l (i+1)=([],[],false):=if_pos h
theorem ext_heads (h:¬findOf l (headId (yAt p i).h)<0) (hb:l[(findOf l (headId (yAt p i).h)).toNat]?=some b) (hh:¬b.h=(yAt p i).h):extF p l (i+1)=(sealedL (yAt p i).h,sealedL b.h,true):=by
  show (if _ then _ else _)=_
  rw [if_neg h,bAt_of hb,if_pos hh]
theorem ext_links (h:¬findOf l (headId (yAt p i).h)<0) (hb:l[(findOf l (headId (yAt p i).h)).toNat]?=some b) (hh:b.h=(yAt p i).h) (hl:¬b.l=(yAt p i).l):extF p l (i+1)=differOf (yAt p i).l b.l:=by
  show (if _ then _ else _)=_
  rw [if_neg h,bAt_of hb,if_neg (fun c=>c hh),if_pos hl]
theorem ext_go (h:¬findOf l (headId (yAt p i).h)<0) (hb:l[(findOf l (headId (yAt p i).h)).toNat]?=some b) (hh:b.h=(yAt p i).h) (hl:b.l=(yAt p i).l):extF p l (i+1)=extF p l i:=by
  show (if _ then _ else _)=_
  rw [if_neg h,bAt_of hb,if_neg (fun c=>c hh),if_neg (fun c=>c hl)]
end
section
variable {p:Proof} {l:List Block} {k:Nat} {x:Part} {b:Block}
theorem yat_of (h:p.p[k]?=some x):yAt p k=x:=by unfold yAt;simp [h]
theorem zeV (h0:0<k) (hx:p.p[k-1]?=some x) (h:findOf l (headId x.h)<0):extF p l k=([],[],false):=by
  obtain ⟨j,rfl⟩:∃j,k=j+1:=⟨k-1,by omega⟩
  have e:yAt p j=x:=yat_of hx
  subst e
  exact ext_none h
theorem zdR (h0:0<k) (hx:p.p[k-1]?=some x) (h:¬findOf l (headId x.h)<0) (hb:l[(findOf l (headId x.h)).toNat]?=some b) (hh:¬b.h=x.h):extF p l k=(sealedL x.h,sealedL b.h,true):=by
  obtain ⟨j,rfl⟩:∃j,k=j+1:=⟨k-1,by omega⟩
  have e:yAt p j=x:=yat_of hx
  subst e
  exact ext_heads h hb hh
theorem zdQ (h0:0<k) (hx:p.p[k-1]?=some x) (h:¬findOf l (headId x.h)<0) (hb:l[(findOf l (headId x.h)).toNat]?=some b) (hh:¬¬b.h=x.h) (hl:¬b.l=x.l):extF p l k=differOf x.l b.l:=by
  obtain ⟨j,rfl⟩:∃j,k=j+1:=⟨k-1,by omega⟩
  have e:yAt p j=x:=yat_of hx
  subst e
  exact ext_links h hb (Classical.not_not.1 hh) hl
theorem extk_go (h0:0<k) (hx:p.p[k-1]?=some x) (h:¬findOf l (headId x.h)<0) (hb:l[(findOf l (headId x.h)).toNat]?=some b) (hh:¬¬b.h=x.h) (hl:¬¬b.l=x.l):extF p l k=extF p l (k-1):=by
  obtain ⟨j,rfl⟩:∃j,k=j+1:=⟨k-1,by omega⟩
  have e:yAt p j=x:=yat_of hx
  subst e
  exact ext_go h hb (Classical.not_not.1 hh) (Classical.not_not.1 hl)
end
theorem find_block {l:List Block} {id:Ab.Id} (h:¬findOf l id<0):∃b,l[(findOf l id).toNat]?=some b:=by
  obtain ⟨b,hb,_⟩:=(find_range (l:=l) (id:=id)).2.2 (by omega)
  exact ⟨b,hb⟩
theorem chain_short {l:List Block} {t:Tip} {k:Nat} {b:Block} (h:Chain l t) (hb:l[k]?=some b):b.l.length≤32:=by
  obtain ⟨hk,_⟩:=List.getElem?_eq_some_iff.1 hb
  by_cases k0:k=0
  · subst k0
    obtain ⟨t',h1,_⟩:=chain_take h (i:=1) (Nat.le_refl _) (by omega)
    have e:l.take 1=[b]:=by rw [show (1:Nat)=0+1 from rfl,List.take_add_one,hb];rfl
    rw [e] at h1
    obtain ⟨_,hb,_⟩:=chain_one h1
    rw [hb]
    exact Nat.zero_le _
  · obtain ⟨t',h1,h2,_⟩:=chain_at h (by omega) hb
    have e:b.l=linksT t':=(push_iff.1 h2).2.2.1
    rw [e];exact (chain_links h1).2.1
theorem holds_short {p:Proof} {k:Nat} {x:Part} (h:checkP p=0) (hx:p.p[k]?=some x):x.l.length≤32:=by
  have hp:=zer.1 h
  obtain ⟨hk,_⟩:=List.getElem?_eq_some_iff.1 hx
  rw [←yat_of hx]
  by_cases k0:k=0
  · subst k0
    rw [List.length_eq_zero_iff.1 hp.fst.2.1];exact Nat.zero_le _
  · exact (linkF_zero.1 (hp.steps k (by omega) hk).2.1).2.1
theorem chain_end {l:List Block} (h:(checkOf l).2=0):l[l.length-1]?=some (checkOf l).1.b:=by
  have:=(chain_tip (chain_of h)).1
  rwa [List.getLast?_eq_getElem?] at this
theorem chain_pos {l:List Block} (h:(checkOf l).2=0):0<l.length:=List.length_pos_iff.2 (chain_ne h)
theorem zdE {p:Proof} {l:List Block} (h:¬(checkOf l).2=0∨¬checkP p=0):extOf p l=([],[],false):=if_pos h
theorem ext_end {p:Proof} {l:List Block} (h1:(checkOf l).2=0) (h2:checkP p=0) (h:¬headId (yAt p (p.p.length-1)).h=headId (checkOf l).1.b.h):extOf p l=([],[],false):=by
  unfold extOf
  rw [if_neg (fun q=>q.elim (fun c=>c h1) (fun c=>c h2)),if_pos h]
theorem ext_in {p:Proof} {l:List Block} (h1:(checkOf l).2=0) (h2:checkP p=0) (h:¬¬headId (yAt p (p.p.length-1)).h=headId (checkOf l).1.b.h):extOf p l=extF p l p.p.length:=by
  unfold extOf
  rw [if_neg (fun q=>q.elim (fun c=>c h1) (fun c=>c h2)),if_neg h]
def rdF (n:Nat) (a b:List Ab.Id):List UInt8×List UInt8×Bool:=if (diffF n a b).2.2=true then diffF n a b else ([],[],false)
theorem rd_ne {n:Nat} {a b:List Ab.Id} (h:¬textL a=textL b):rdF n a b=(textL a,textL b,true):=by unfold rdF;rw [diff_ne h];rfl
theorem rd_few {n:Nat} {a b:List Ab.Id} (h:¬¬textL a=textL b) (h2:a.length<2∨b.length<2):rdF n a b=([],[],false):=by unfold rdF;rw [diff_few (Classical.not_not.1 h) h2];rfl
theorem rd_is {n:Nat} {a b:List Ab.Id}:(rdF n a b).2.2=(diffF n a b).2.2:=by
  unfold rdF
  split
  · rfl
  · rename_i c;exact (Bool.eq_false_iff.2 c).symm
theorem rd_step {m : Nat} {a b : List Ab.Id} (h : ¬ ¬ textL a = textL b) (h2 : ¬ (a.length < 2 ∨ b.length < 2)) :
    diffF (m+1) a b=if (diffF m (a.take (halfN a.length)) (b.take (halfN b.length))).2.2=true then diffF m (a.take (halfN a.length)) (b.take (halfN b.length)) else diffF m (a.drop (halfN a.length)) (b.drop (halfN b.length)):=by
  rw [diffF,if_neg h,if_neg h2]
theorem rd_left {m : Nat} {a b : List Ab.Id} (h : ¬ ¬ textL a = textL b) (h2 : ¬ (a.length < 2 ∨ b.length < 2)) (hr : (rdF m (a.take (halfN a.length)) (b.take (halfN b.length))).2.2 = true) :
    rdF (m+1) a b=rdF m (a.take (halfN a.length)) (b.take (halfN b.length)):=by
  rw [rd_is] at hr
  unfold rdF
  rw [rd_step h h2,if_pos hr]
theorem rd_right {m : Nat} {a b : List Ab.Id} (h : ¬ ¬ textL a = textL b) (h2 : ¬ (a.length < 2 ∨ b.length < 2)) (hr : ¬ (rdF m (a.take (halfN a.length)) (b.take (halfN b.length))).2.2 = true) :
    rdF (m+1) a b=rdF m (a.drop (halfN a.length)) (b.drop (halfN b.length)):=by
  rw [rd_is] at hr
  unfold rdF
  rw [rd_step h h2,if_neg hr]
theorem zdS {a b:List Ab.Id} (h:a=b∨¬linkRoot a=linkRoot b):differOf a b=([],[],false):=if_pos h
theorem differ_in {a b:List Ab.Id} (h1:¬a=b) (h2:¬¬linkRoot a=linkRoot b):differOf a b=rdF a.length a b:=if_neg (fun c=>c.elim h1 h2)
theorem holds_pos {p:Proof} (h:checkP p=0):0<p.p.length:=by
  have h:=zer.1 h
  have:=h.k1
  have:=h.l1
  omega
theorem sealedH_ok (h:Head):Tells P 57 [.val headT h] (.fresh 5 u8T (sealedL h)):=by
 refine zc Tryz.func57 rfl rfl rfl (fun ext w hext=>?_)
 refine ze (d:=0) rfl zeU (fun hh=>?_)
 obtain ⟨hh1,hh2,hh3,hh4,hh5⟩:=hh
 have hbl:(headBytes h).length≤176:=by unfold headBytes;split<;>simp [putHead,hh1,hh2,hh3,hh4,zcl,zN]
 refine qbi ?_;refine CNQR ?_;refine qb1 ?_;refine A0 (oCl (zcg (hput_ok h)) rfl fn_37 ⟨(zd rfl),trivial⟩) ?_;refine A0 mX ?_;refine A0 (by first|exact zW rfl rfl|exact zU rfl rfl) ?_;refine A0 (by first|exact zY rfl rfl|exact zX rfl rfl) ?_;refine A0 aV ?_;refine qai ?_;refine zaN (T:=u8T) (xs:=[_]) rfl rfl rfl rfl zaW zR ⟨rfl,rfl,trivial⟩ rfl rfl ?_;refine qar ?_;refine zn rfl rfl rfl rfl rfl rfl rfl zR (by simp;omega) ?_;refine qbe ?_
 exact zb rfl rfl (zg rfl rfl (rfl))
theorem rsealedH_ok (h:Head):Tells P 60 [.val headT h] (.fresh 5 u8T (sealedL h)):=by
 refine zc Tryz.func60 rfl rfl rfl (fun ext w hext=>?_)
 refine ze (d:=0) rfl zeU (fun hh=>?_)
 obtain ⟨hh1,hh2,hh3,hh4,hh5⟩:=hh
 have hbl:(headBytes h).length≤176:=by unfold headBytes;split<;>simp [putHead,hh1,hh2,hh3,hh4,zcl,zN]
 refine qbi ?_;refine CNQR ?_;refine qb1 ?_;refine A0 (oCl (zcg (rputHead_ok h)) rfl fn_90 ⟨(zd rfl),trivial⟩) ?_;refine A0 mX ?_;refine A0 (by first|exact zW rfl rfl|exact zU rfl rfl) ?_;refine A0 (by first|exact zY rfl rfl|exact zX rfl rfl) ?_;refine A0 aV ?_;refine qai ?_;refine zaN (T:=u8T) (xs:=[_]) rfl rfl rfl rfl zaW zR ⟨rfl,rfl,trivial⟩ rfl rfl ?_;refine qar ?_;refine zn rfl rfl rfl rfl rfl rfl rfl zR (by simp;omega) ?_;refine qbe ?_
 exact zb rfl rfl (zg rfl rfl (rfl))
theorem extract_ok (p:Proof) (l:List Block) (hl:smallC l):Tells P 25 [.val proofT p,.val (bsl blockT) l] (.tup3 (.val (sl u8T) (extOf p l).1) (.val (sl u8T) (extOf p l).2.1) (.val boolT (extOf p l).2.2)):=by
 obtain ⟨A,hA⟩:∃A,A=idsP p:=⟨_,rfl⟩
 refine zc Tryz.func25 rfl rfl rfl (fun ext w hext=>?_)
 refine ze (d:=1) rfl zi (fun hsl1=>?_)
 refine qav ?_;refine zI ze_46 rfl rfl rfl rfl ?_;refine zI ze_46 rfl rfl rfl rfl ?_;refine zI ze_4 rfl rfl rfl rfl ?_;refine CNQR ?_;refine A0 (oLs rfl rfl rfl ty_52) ?_;refine A0 (oCl (check_ok l hl) rfl fn_28 ⟨(zd rfl),trivial⟩) ?_;refine A0 mX ?_;refine A0 (by first|exact zW rfl rfl|exact zU rfl rfl) ?_;refine A0 (by first|exact zY rfl rfl|exact zX rfl rfl) ?_;refine qbm ?_;refine qan ?_;refine qah ?_;refine A0 zd2 ?_;refine zaa (d:=19) (p:=¬(checkOf l).2=0) rfl (by simp [IntL.toI]) (fun g19=>?_) (fun g19=>?_)
 ·
  refine qar ?_;refine qbA ?_;refine Ct ?_;refine CQR ?_;refine zba rfl rfl rfl rfl rfl (Lens.self _) zbT rfl ?_;refine zba rfl rfl rfl rfl rfl (Lens.self _) zbT rfl ?_;refine qbo ?_
  exact zfq rfl rfl (zw rfl rfl zbT (by rw [zdE (.inl g19)])) (zw rfl rfl zbT (by rw [zdE (.inl g19)])) (zw rfl rfl ty_4 (by rw [zdE (.inl g19)]))
 ·
  refine qar ?_;refine A1 (oLs rfl rfl rfl zdG) ?_;refine A1 (oCl (checkP_ok p) rfl fn_11 ⟨(zd rfl),trivial⟩) ?_;refine A1 zd2 ?_;refine qaq ?_;refine zj (p:=¬checkP p=0) rfl (by simp [IntL.toI]) (fun ht24=>?_) (fun ht24=>?_)
  ·
   refine CQR ?_;refine zba rfl rfl rfl rfl rfl (Lens.self _) zbT rfl ?_;refine zba rfl rfl rfl rfl rfl (Lens.self _) zbT rfl ?_;refine qbo ?_
   exact zfq rfl rfl (zw rfl rfl zbT (by rw [zdE (.inr ht24)])) (zw rfl rfl zbT (by rw [zdE (.inr ht24)])) (zw rfl rfl ty_4 (by rw [zdE (.inr ht24)]))
  ·
   have hc0:(checkOf l).2=0:=Classical.not_not.1 g19
   have hp0:checkP p=0:=Classical.not_not.1 ht24
   have hlp:=holds_pos hp0
   have hcp:=chain_pos hc0
   have hsz:=(zer.1 hp0).l2
   have hle:=chain_end hc0
   have hal:A.length=p.p.length:=by rw [hA];unfold idsP;simp
   have hids:=zs (ids_ok p (by omega))
   rw [←hA] at hids
   have hiy:A[A.length-1]?=some (headId (yAt p (p.p.length-1)).h):=by rw [hal,hA];exact ids_at p (by omega)
   refine CSQR ?_;refine qbQ ?_;refine A0 (oCl (hids) rfl fn_20 ⟨(zd rfl),trivial⟩) ?_;refine zI ze_39 rfl rfl rfl rfl ?_;refine zh rfl rfl rfl rfl rfl (Lens.self _) zbj rfl ?_;refine CNQ ?_;refine qa0 ?_;refine G0 (oLs rfl rfl rfl zbj) ?_;refine G0 (oLs rfl rfl rfl zbj) ?_;refine G0 (zah rfl rfl zaJ) ?_;refine G0 zay ?_;refine G0 (zm (i:=A.length-1) rfl rfl rfl (by omega) zak (by assumption)) ?_;refine qb4 ?_;refine G0 (oFp zcH) ?_;refine G0 (oFp zan) ?_;refine G0 (oLb (za6.comp zE) zao) ?_
   refine G0 (oCl (zdx (checkOf l).1.b.h) rfl fn_14 ⟨(zd rfl),trivial⟩) ?_;refine G0 (zbQ rfl rfl rfl (zbJ)) ?_;refine GK.nil ?_;refine zj (p:=¬headId (yAt p (p.p.length-1)).h=headId (checkOf l).1.b.h) rfl (by simp) (fun ht37=>?_) (fun ht37=>?_)
   ·
    refine CQR ?_;refine zba rfl rfl rfl rfl rfl (Lens.self _) zbT rfl ?_;refine zba rfl rfl rfl rfl rfl (Lens.self _) zbT rfl ?_;refine qbo ?_
    exact zfq rfl rfl (zw rfl rfl zbT (by rw [ext_end hc0 hp0 ht37])) (zw rfl rfl zbT (by rw [ext_end hc0 hp0 ht37])) (zw rfl rfl ty_4 (by rw [ext_end hc0 hp0 ht37]))
   ·
    have hex:=ext_in hc0 hp0 ht37
    refine CSQQR ?_;refine qa5 ?_;refine zcf rfl rfl rfl rfl Tryz.func55 fn_55 rfl rfl (fun ia1 iok1=>?_)
    refine qbi ?_;refine CNQR ?_;refine A0 (g_mkf (caps:=[_]) rfl rfl) ?_;refine A0 aC ?_;refine CN ?_;refine zc2 rfl ?_;refine CNB ?_;refine aw_range rfl rfl rfl Tryz.func98 fn_98 rfl rfl (by intro n hn;simp only [List.mem_cons,List.not_mem_nil,or_false] at hn;rcases hn with rfl<;>rfl) (fun fid2 ca2 lN2 DN2 cok2 rc2 hrc2=>?_)
    refine CQR ?_;refine A0 (oLs rfl rfl rfl ze2) ?_;refine A0 (zah rfl rfl isl_22) ?_;refine A0 zay ?_;refine qbC ?_
    refine Lp (ι:=Nat) 10 (fun (k:Nat)=>(((Fr.none).set 0 (.lit (.func (.yield lN2) #[] #[]))).set 1 (.ptr 7 0)).set 3 (.val i64T ((k:Int)-1))) (fun (k:Nat)=>((((((((Hp.none).set 1 (.box 52 (bsl blockT) l)).set 2 (.box 46 (sl u8T) [])).set 3 (.box 46 (sl u8T) [])).set 4 (.box 4 boolT false)).set 6 (.box 39 (sl idT) A)).set 7 (.box 22 (sl partT) p.p)).set 8 (.objAt DN2 (.deferred (some [])))).set 9 (.objAt lN2 (rc2 .ready none))) (fun (k:Nat)=>k≤p.p.length∧extOf p l=extF p l k) (fun (k:Nat)=>k) (p.p.length) (⟨Nat.le_refl _,hex⟩) ?_
    intro k hinv
    refine qa9 ?_;refine qbk ?_;refine Cf (p:=0<k) (fun ht8=>?_) (fun ht8=>?_)
    ·
     obtain ⟨x,hx⟩:∃x,p.p[k-1]?=some x:=⟨_,List.getElem?_eq_getElem (by omega)⟩
     have hxi:A[k-1]?=some (headId x.h):=by rw [hA,←yat_of hx];exact ids_at p (by omega)
     have hxl:=holds_short hp0 hx
     refine CSQBQR ?_;refine A0 mL ?_;refine qar ?_;refine A0 (oLs rfl rfl rfl ze2) ?_;refine qar ?_;refine A0 (zm (i:=k-1) rfl rfl rfl (by omega) zds (by assumption)) ?_;refine A0 (zf rfl rfl ty_41) ?_;refine aw_yield (nL:=9) rfl rfl rfl rfl rfl hrc2 rfl rfl rfl (fun ya3 yok3=>?_)
     refine CQR ?_;refine qb2 ?_;refine qbJ ?_;refine CN ?_;refine aw_begin (nL:=9) hrc2 rfl ?_;refine CB ?_;refine qa0 ?_;refine G0 (oLs rfl rfl rfl ty_52) ?_;refine G0 (oLs rfl rfl rfl zbj) ?_;refine G0 mV ?_;refine G0 (zm (i:=k-1) rfl rfl rfl (by omega) zak (by assumption)) ?_;refine qb4 ?_;refine G0 (oCl (findC_ok l (headId x.h)) rfl fn_56 ⟨(zd rfl),(by first|exact zq rfl|exact zC rfl|exact zy rfl rfl|exact zA rfl|exact zr rfl|exact zL rfl rfl|exact zB rfl),trivial⟩) ?_;refine qa3 ?_;refine CB ?_;refine qa2 ?_;refine A0 zbh ?_;refine qab ?_
     refine Cf (p:=findOf l (headId x.h)<0) (fun ht49=>?_) (fun ht49=>?_)
     ·
      refine CQR ?_;refine zba rfl rfl rfl rfl rfl (Lens.self _) zbT rfl ?_;refine zba rfl rfl rfl rfl rfl (Lens.self _) zbT rfl ?_;refine qbo ?_;refine zeu (nL:=9) hrc2 rfl ?_;refine qaE ?_;refine Ct ?_;refine zfr (nL:=9) rfl hrc2 rfl (by decide) ?_;refine zaK (zc6 (nD:=8) rfl rfl rfl ?_)
      exact ar_retr3 rfl rfl (zw rfl rfl zbT (by rw [hinv.2,zeV ht8 hx ht49])) (zw rfl rfl zbT (by rw [hinv.2,zeV ht8 hx ht49])) (zw rfl rfl ty_4 (by rw [hinv.2,zeV ht8 hx ht49]))
     ·
      obtain ⟨b,hb⟩:=find_block ht49
      have hbl:=chain_short (chain_of hc0) hb
      refine qa0 ?_;refine G0 (oLs rfl rfl rfl ty_52) ?_;refine G0 mV ?_;refine G0 (zm (i:=(findOf l (headId x.h)).toNat) rfl rfl rfl (by omega) zcR (by assumption)) ?_;refine qbs ?_;refine G0 (oFp zbS) ?_;refine G0 (oLb za7 zao) ?_;refine G0 (zbQ rfl rfl rfl (eqt_38)) ?_;refine qa3 ?_;refine zj (p:=¬b.h=x.h) rfl (by simp) (fun ht52=>?_) (fun ht52=>?_)
      ·
       refine CQ ?_;refine zx [some 1,some 1,some 1,some 1,some 1,some 1,some 1,some 1,some 1,none,none,none] mixed (by decide +kernel) ?_;refine X0 (oFp zbS) ?_;refine X0 (oLb za7 zao) ?_;refine X0 (oCl (zs (sealedH_ok x.h)) rfl fn_57 ⟨(zd rfl),trivial⟩) ?_;refine X0 (oLs rfl rfl rfl ty_52) ?_;refine X0 mV ?_;refine X0 (zm (i:=(findOf l (headId x.h)).toNat) rfl rfl rfl (by omega) zcR (by assumption)) ?_;refine X0 (oFr zan zE) ?_;refine X0 (zf rfl rfl zao) ?_
       refine X0 (oCl (zs (sealedH_ok b.h)) rfl fn_57 ⟨(by first|exact zq rfl|exact zC rfl|exact zy rfl rfl|exact zA rfl|exact zr rfl|exact zL rfl rfl|exact zB rfl),trivial⟩) ?_;refine XK.e (x:=.idk) (fun fr' hfr kk H=>by exact zh rfl rfl rfl ((hfr 4 (by decide +kernel)).trans rfl) rfl (Lens.self _) zbT ((hfr 63 (by decide +kernel)).trans rfl) (zz H)) ?_;refine XK.e (x:=.idk) (fun fr' hfr kk H=>by exact zh rfl rfl rfl ((hfr 5 (by decide +kernel)).trans rfl) rfl (Lens.self _) zbT ((hfr 69 (by decide +kernel)).trans rfl) (zz H)) ?_
       refine XK.e (x:=.idk) (fun fr' hfr kk H=>by exact zh rfl rfl rfl ((hfr 6 (by decide +kernel)).trans rfl) rfl (Lens.self _) ty_4 rfl (zz H)) ?_;refine XK.nil' ?_;refine zeu (nL:=9) hrc2 rfl ?_;refine qaE ?_;refine Ct ?_;refine zfr (nL:=9) rfl hrc2 rfl (by decide) ?_;refine zaK (zc6 (nD:=8) rfl rfl rfl ?_)
       exact ar_retr3 rfl rfl (zw rfl rfl zbT (by rw [hinv.2,zdR ht8 hx ht49 hb ht52])) (zw rfl rfl zbT (by rw [hinv.2,zdR ht8 hx ht49 hb ht52])) (zw rfl rfl ty_4 (by rw [hinv.2,zdR ht8 hx ht49 hb ht52]))
      ·
       refine qa0 ?_;refine G0 (oLs rfl rfl rfl ty_52) ?_;refine G0 mV ?_;refine G0 (zm (i:=(findOf l (headId x.h)).toNat) rfl rfl rfl (by omega) zcR (by assumption)) ?_;refine G0 (oFr zbR zaH) ?_;refine G0 (zf rfl rfl zbj) ?_;refine G0 (oFp zdi) ?_;refine G0 (oLb zcE zbj) ?_;refine G0 (oCl (equalId b.l x.l) rfl fn_39 ⟨(by first|exact zq rfl|exact zC rfl|exact zy rfl rfl|exact zA rfl|exact zr rfl|exact zL rfl rfl|exact zB rfl),(zd rfl),trivial⟩) ?_;refine G0 oN ?_;refine qa3 ?_
       refine zj (p:=¬b.l=x.l) rfl (by simp) (fun ht70=>?_) (fun ht70=>?_)
       ·
        refine CQ ?_;refine zx [some 1,some 1,some 1,some 1,some 1,some 1,some 1,some 1,some 1,some 1,some 1,none,none,none] mixed (by decide +kernel) ?_;refine X0 (oFp zdi) ?_;refine X0 (oLb zcE zbj) ?_;refine X0 (oLs rfl rfl rfl ty_52) ?_;refine X0 mV ?_;refine X0 (zm (i:=(findOf l (headId x.h)).toNat) rfl rfl rfl (by omega) zcR (by assumption)) ?_;refine X0 (oFr zbR zaH) ?_;refine X0 (zf rfl rfl zbj) ?_
        refine X0 (oCl (differ_ok x.l b.l (by omega) (by omega)) rfl fn_15 ⟨(zd rfl),(by first|exact zq rfl|exact zC rfl|exact zy rfl rfl|exact zA rfl|exact zr rfl|exact zL rfl rfl|exact zB rfl),trivial⟩) ?_;refine X0 (by first|exact zW rfl rfl|exact zU rfl rfl) ?_;refine X0 (by first|exact zY rfl rfl|exact zX rfl rfl) ?_;refine X0 e32 ?_;refine XK.e (x:=.idk) (fun fr' hfr kk H=>by exact zh rfl rfl rfl ((hfr 4 (by decide +kernel)).trans rfl) rfl (Lens.self _) zbT ((hfr 88 (by decide +kernel)).trans rfl) (zz H)) ?_
        refine XK.e (x:=.idk) (fun fr' hfr kk H=>by exact zh rfl rfl rfl ((hfr 5 (by decide +kernel)).trans rfl) rfl (Lens.self _) zbT ((hfr 89 (by decide +kernel)).trans rfl) (zz H)) ?_;refine XK.e (x:=.idk) (fun fr' hfr kk H=>by exact zh rfl rfl rfl ((hfr 6 (by decide +kernel)).trans rfl) rfl (Lens.self _) ty_4 ((hfr 90 (by decide +kernel)).trans rfl) (zz H)) ?_;refine XK.nil' ?_;refine zeu (nL:=9) hrc2 rfl ?_;refine qaE ?_;refine Ct ?_;refine zfr (nL:=9) rfl hrc2 rfl (by decide) ?_;refine zaK (zc6 (nD:=8) rfl rfl rfl ?_)
        exact ar_retr3 rfl rfl (zw rfl rfl zbT (by rw [hinv.2,zdQ ht8 hx ht49 hb ht52 ht70])) (zw rfl rfl zbT (by rw [hinv.2,zdQ ht8 hx ht49 hb ht52 ht70])) (zw rfl rfl ty_4 (by rw [hinv.2,zdQ ht8 hx ht49 hb ht52 ht70]))
       ·
        refine CS ?_;refine CI ?_;refine CI ?_;refine zdz (nL:=9) hrc2 rfl ?_;refine qaE ?_;refine Cg ?_;refine CSIR ?_;refine qby ?_;refine qab ?_;refine zp (d:=3) (y:=((k-1:Nat):Int)-1) rfl (by omega) ?_
        exact Nx (k-1) (⟨by omega,by rw [hinv.2];exact extk_go ht8 hx ht49 hb ht52 ht70⟩) (by omega)
    ·
     refine CE ?_;refine zdA (nL:=9) rfl hrc2 rfl (by decide) ?_;refine CI ?_;refine CQR ?_;refine zba rfl rfl rfl rfl rfl (Lens.self _) zbT rfl ?_;refine zba rfl rfl rfl rfl rfl (Lens.self _) zbT rfl ?_;refine qbo ?_;refine zaK (zc6 (nD:=8) rfl rfl rfl ?_)
     exact ar_retr3 rfl rfl (zw rfl rfl zbT (by rw [hinv.2,show k=0 by omega];rfl)) (zw rfl rfl zbT (by rw [hinv.2,show k=0 by omega];rfl)) (zw rfl rfl ty_4 (by rw [hinv.2,show k=0 by omega];rfl))
theorem r18leaves_ok (l:List Ab.Id) (hl:l.length≤4000000000000):Tells P 153 [.val (bsl idT) l] (.fresh 32 idT (l.map linkLeaf)):=by
 refine zc Tryz.func153 rfl rfl rfl (fun ext w hext=>?_)
 refine ze (d:=0) rfl zi (fun hsl0=>?_)
 refine ze (d:=0) rfl fact_idsL (fun hids=>?_)
 refine qbP ?_;refine A0 aL ?_;refine qax ?_;refine za0 (T:=idT) (d:=3) 32 rfl ?_;refine Lp (ι:=Nat) 1 (fun (k:Nat)=>(((Fr.none).set 0 (.val (bsl idT) l)).set 3 (.own 0)).set 4 (.val i64T (k:Int))) (fun (k:Nat)=>(Hp.none).set 0 (.row 32 idT ((l.take k).map linkLeaf))) (fun (k:Nat)=>k≤l.length) (fun (k:Nat)=>l.length-k) (0) (Nat.zero_le _) ?_
 intro k hinv
 refine qbg ?_;refine qci ?_;refine qaz ?_;refine Cf (p:=k<l.length) (fun ht8=>?_) (fun ht8=>?_)
 ·
  obtain ⟨x,hx⟩:∃x,l[k]?=some x:=⟨_,List.getElem?_eq_getElem ht8⟩
  have hx32:=hids x (List.mem_of_getElem? hx)
  refine qa4 ?_;refine CR ?_;refine A0 mO ?_;refine qag ?_;refine A0 (zm (i:=k) rfl rfl rfl (by omega) zak (by assumption)) ?_;refine A0 (zae rfl rfl za5 rfl rfl) ?_;refine A0 (oCl (rleaf_ok x (by omega)) rfl fn_152 ⟨(zd rfl),trivial⟩) ?_;refine A0 (zo (T:=idT) (xs:=[_]) rfl zak zbI ⟨rfl,rfl,trivial⟩ rfl rfl) ?_;refine zn rfl rfl rfl rfl rfl rfl rfl zbI (by simp;omega) ?_;refine A0 aO ?_;refine qaR ?_;refine zaB 1 0 2 rfl rfl rfl rfl rfl rfl ?_;refine zK (n:=0) (y:=(l.take (k+1)).map linkLeaf) rfl (by rw [List.take_add_one,hx];simp [linkLeaf]) ?_
  exact Nx (k+1) (by omega) (by omega)
 ·
  refine qat ?_
  exact zb rfl rfl (zg rfl rfl (by rw [List.take_of_length_le (by omega)]))
theorem r18text_ok (l:List Ab.Id) (hl:l.length≤1000000):Tells P 96 [.val (bsl idT) l] (.fresh 5 u8T (textL l)):=by
 refine zc Tryz.func96 rfl rfl rfl (fun ext w hext=>?_)
 refine ze (d:=0) rfl zi (fun hsl0=>?_)
 refine ze (d:=0) rfl fact_idsL (fun hids=>?_)
 refine qay ?_;refine CNQQR ?_;refine qa6 ?_;refine A0 zbU ?_;refine CN ?_;refine zj (p:=l.length=0) rfl (by simp [IntL.toI]) (fun ht7=>?_) (fun ht7=>?_)
 ·
  refine CQR ?_;refine zaN (T:=u8T) (xs:=[_]) rfl rfl rfl rfl zaW zR ⟨rfl,rfl,trivial⟩ rfl rfl ?_;refine qbe ?_
  exact zb rfl rfl (zg rfl rfl (by unfold textL;rw [if_pos ht7];rfl))
 ·
  refine CSQQR ?_;refine qa6 ?_;refine A0 zbU ?_;refine CN ?_;refine zj (p:=l.length=1) rfl (by rw [decide_eq_decide];simp only [IntL.toI,id_eq];omega) (fun ht11=>?_) (fun ht11=>?_)
  ·
   obtain ⟨x,hx⟩:∃x,l[0]?=some x:=⟨_,List.getElem?_eq_getElem (by omega)⟩
   have hxl:=hids x (List.mem_of_getElem? hx)
   refine CQR ?_;refine zaN (T:=u8T) (xs:=[_]) rfl rfl rfl rfl zaW zR ⟨rfl,rfl,trivial⟩ rfl rfl ?_;refine qar ?_;refine A0 (zm (i:=0) rfl rfl rfl (by omega) zak (by assumption)) ?_;refine A0 (zae rfl rfl za5 rfl rfl) ?_;refine zn rfl rfl rfl rfl rfl rfl rfl zR (by simp;omega) ?_;refine qbe ?_
   exact zb rfl rfl (zg rfl rfl (by unfold textL;rw [if_neg ht7,if_pos (by omega)];cases l with|nil=>simp at hx|cons y m=>simp at hx;simp [hx]))
  ·
   have hp:=zdK l.length
   have hh:=zff (n:=l.length) (by omega)
   obtain ⟨M,hM⟩:∃M,M=l.map linkLeaf:=⟨_,rfl⟩
   have hlv:=zs (r18leaves_ok l (by omega))
   rw [←hM] at hlv
   have hml:M.length=l.length:=by rw [hM];simp
   have hra:(rootOf (M.take (halfN l.length))).length=32:=by rw [hM,←List.map_take];exact zek _
   have hrb:(rootOf (M.drop (halfN l.length))).length=32:=by rw [hM,←List.map_drop];exact zek _
   refine CSQR ?_;refine qa6 ?_;refine A0 (oCl (rhalfN_ok l.length (by omega) (by omega)) rfl fn_97 ⟨(zd rfl),trivial⟩) ?_;refine qa7 ?_;refine A0 (oCl (hlv) rfl fn_153 ⟨(zd rfl),trivial⟩) ?_;refine qaA ?_;refine zx [some 1,some 1,some 1,some 1,some 1,some 1,some 1,some 1,none,some 1] mixed (by decide +kernel) ?_;refine qaP ?_;refine X0 (by first|exact zbt rfl rfl rfl (by first|rfl|omega) zak|exact zdy rfl rfl rfl zak (by first|assumption|omega|(simp;omega))) ?_;refine X0 (oCl (rroot_ok (M.take (halfN l.length)) (by simp;omega)) rfl fn_94 ⟨(zd rfl),trivial⟩) ?_
   refine qaP ?_;refine X0 (zeP rfl rfl rfl zak (by first|assumption|omega|(simp;omega))) ?_;refine X0 (oCl (rroot_ok (M.drop (halfN l.length)) (by simp;omega)) rfl fn_94 ⟨(zd rfl),trivial⟩) ?_;refine XK.e (fun fr' hfr kk H=>by exact zaE (rtreeText_ok _ _ hra hrb) rfl fn_154 ⟨(zd ((hfr 25 (by decide +kernel)).trans rfl)),(zd ((hfr 29 (by decide +kernel)).trans rfl)),trivial⟩ rfl rfl rfl (zz H)) ?_;refine X0 aO ?_;refine XK.nil' ?_
   exact zb rfl rfl (zg rfl rfl (by unfold textL;rw [if_neg ht7,if_neg (by omega),hM,←List.map_take,←List.map_drop];rfl))
theorem rdiffer_ok (n:Nat) (a b:List Ab.Id) (hn:a.length≤n) (hal:a.length≤1000000) (hbl:b.length≤1000000):Tells P 54 [.val (bsl idT) a,.val (bsl idT) b] (.tup3 (.val (sl u8T) (rdF n a b).1) (.val (sl u8T) (rdF n a b).2.1) (.val boolT (rdF n a b).2.2)):=by
 refine zc Tryz.func54 rfl rfl rfl (fun ext w hext=>?_)
 refine ze (d:=0) rfl zi (fun hsl0=>?_)
 refine ze (d:=1) rfl zi (fun hsl1=>?_)
 refine qay ?_;refine A0 aL ?_;refine qa7 ?_;refine A0 (oCl (zs (r18text_ok a (by omega))) rfl fn_96 ⟨(zd rfl),trivial⟩) ?_;refine qa7 ?_;refine A0 (oCl (zs (r18text_ok b (by omega))) rfl fn_96 ⟨(zd rfl),trivial⟩) ?_;refine qah ?_;refine A0 (g_cvs rfl rfl uu_46 ui_5 st_9) ?_;refine qar ?_;refine A0 (g_cvs rfl rfl uu_46 ui_5 st_9) ?_;refine A0 (g_neqstr rfl rfl rfl) ?_;refine CN ?_;refine zj (p:=¬textL a=textL b) rfl (by simp) (fun ht22=>?_) (fun ht22=>?_)
 ·
  refine CQR ?_;refine qag ?_;refine A0 aV ?_;refine qaY ?_
  exact zap rfl rfl (za rfl (by rw [rd_ne ht22])) (za rfl (by rw [rd_ne ht22])) (za rfl (by rw [rd_ne ht22]))
 ·
  refine CSQQR ?_;refine qa6 ?_;refine A0 zbh ?_;refine Sp (d:=27) (p:=a.length<2) (fun g27=>?_) (fun g27=>?_)
  ·
   refine qar ?_;refine qbA ?_;refine Ct ?_;refine qb0 ?_
   exact zap rfl rfl (by rw [rd_few ht22 (.inl g27)];exact zau rfl) (by rw [rd_few ht22 (.inl g27)];exact zau rfl) (za rfl (by rw [rd_few ht22 (.inl g27)]))
  ·
   refine qar ?_;refine A1 mV ?_;refine A1 (zah rfl rfl zaJ) ?_;refine A1 zbh ?_;refine qaq ?_;refine Cf (p:=b.length<2) (fun ht32=>?_) (fun ht32=>?_)
   ·
    refine qb0 ?_
    exact zap rfl rfl (by rw [rd_few ht22 (.inr ht32)];exact zau rfl) (by rw [rd_few ht22 (.inr ht32)];exact zau rfl) (za rfl (by rw [rd_few ht22 (.inr ht32)]))
   ·
    obtain ⟨m,rfl⟩:∃m,n=m+1:=⟨n-1,by omega⟩
    have hpa:=zdK a.length
    have hha:=zff (n:=a.length) (by omega)
    have hpb:=zdK b.length
    have hhb:=zff (n:=b.length) (by omega)
    have hno:¬(a.length<2∨b.length<2):=fun h=>h.elim g27 ht32
    refine CSQR ?_;refine qa6 ?_;refine A0 (oCl (rhalfN_ok a.length (by omega) (by omega)) rfl fn_97 ⟨(zd rfl),trivial⟩) ?_;refine qai ?_;refine qa6 ?_;refine A0 (oCl (rhalfN_ok b.length (by omega) (by omega)) rfl fn_97 ⟨(zd rfl),trivial⟩) ?_;refine qbF ?_;refine qaF ?_;refine G0 (by first|exact zbt rfl rfl rfl (by first|rfl|omega) zak|exact zdy rfl rfl rfl zak (by first|assumption|omega|(simp;omega))) ?_;refine qaF ?_;refine G0 (by first|exact zbt rfl rfl rfl (by first|rfl|omega) zak|exact zdy rfl rfl rfl zak (by first|assumption|omega|(simp;omega))) ?_
    refine G0 (oCl (rdiffer_ok m (a.take (halfN a.length)) (b.take (halfN b.length)) (by simp;omega) (by simp;omega) (by simp;omega)) rfl fn_54 ⟨(zd rfl),(zd rfl),trivial⟩) ?_;refine G0 mX ?_;refine G0 (by first|exact zW rfl rfl|exact zU rfl rfl) ?_;refine G0 (by first|exact zY rfl rfl|exact zX rfl rfl) ?_;refine G0 e32 ?_;refine G0 aV ?_;refine G0 aV ?_;refine qa3 ?_;refine qa9 ?_;refine CN ?_;refine zj (p:=(rdF m (a.take (halfN a.length)) (b.take (halfN b.length))).2.2=true) rfl (by simp) (fun ht50=>?_) (fun ht50=>?_)
    ·
     refine CQR ?_;refine qag ?_;refine A0 aV ?_;refine qaY ?_
     exact zap rfl rfl (za rfl (by rw [rd_left ht22 hno ht50])) (za rfl (by rw [rd_left ht22 hno ht50])) (za rfl (by rw [rd_left ht22 hno ht50];exact ht50.symm))
    ·
     refine CS ?_;refine qa0 ?_;refine qaF ?_;refine G0 (zeP rfl rfl rfl zak (by first|assumption|omega|(simp;omega))) ?_;refine qaF ?_;refine G0 (zeP rfl rfl rfl zak (by first|assumption|omega|(simp;omega))) ?_;refine G0 (oCl (rdiffer_ok m (a.drop (halfN a.length)) (b.drop (halfN b.length)) (by simp;omega) (by simp;omega) (by simp;omega)) rfl fn_54 ⟨(zd rfl),(zd rfl),trivial⟩) ?_;refine G0 mX ?_;refine G0 (by first|exact zW rfl rfl|exact zU rfl rfl) ?_;refine G0 (by first|exact zY rfl rfl|exact zX rfl rfl) ?_;refine G0 e32 ?_;refine G0 aV ?_;refine G0 aV ?_;refine qa3 ?_
     refine CQR ?_;refine qag ?_;refine qar ?_;refine A0 aV ?_;refine qaY ?_
     exact zap rfl rfl (za rfl (by rw [rd_right ht22 hno ht50])) (za rfl (by rw [rd_right ht22 hno ht50])) (za rfl (by rw [rd_right ht22 hno ht50]))
termination_by n
theorem r18differ_ok (a b:List Ab.Id) (hal:a.length≤1000000) (hbl:b.length≤1000000):Tells P 24 [.val (bsl idT) a,.val (bsl idT) b] (.tup3 (.val (sl u8T) (differOf a b).1) (.val (sl u8T) (differOf a b).2.1) (.val boolT (differOf a b).2.2)):=by
 refine zc Tryz.func24 rfl rfl rfl (fun ext w hext=>?_)
 refine ze (d:=0) rfl zi (fun hsl0=>?_)
 refine ze (d:=1) rfl zi (fun hsl1=>?_)
 refine qay ?_;refine A0 aL ?_;refine qb7 ?_;refine A0 (oCl (refIds_ok a b) rfl fn_16 ⟨(zd rfl),(zd rfl),trivial⟩) ?_;refine qah ?_;refine zaa (d:=14) (p:=a=b) rfl (by simp) (fun g14=>?_) (fun g14=>?_)
 ·
  refine qar ?_;refine qaJ ?_;refine A2 ?_;refine qaq ?_;refine Ct ?_;refine qb0 ?_
  exact zap rfl rfl (by rw [zdS (.inl g14)];exact zau rfl) (by rw [zdS (.inl g14)];exact zau rfl) (za rfl (by rw [zdS (.inl g14)]))
 ·
  refine qar ?_;refine A1 mV ?_;refine A1 (oCl (zdu a (by omega)) rfl fn_53 ⟨(zd rfl),trivial⟩) ?_;refine A1 mV ?_;refine A1 (oCl (zdu b (by omega)) rfl fn_53 ⟨(zd rfl),trivial⟩) ?_;refine A1 (zbQ rfl rfl rfl (zbJ)) ?_;refine qaq ?_;refine zj (p:=¬linkRoot a=linkRoot b) rfl (by simp) (fun ht21=>?_) (fun ht21=>?_)
  ·
   refine qb0 ?_
   exact zap rfl rfl (by rw [zdS (.inr ht21)];exact zau rfl) (by rw [zdS (.inr ht21)];exact zau rfl) (za rfl (by rw [zdS (.inr ht21)]))
  ·
   refine qcl ?_;refine A0 (oCl (rdiffer_ok a.length a b (Nat.le_refl _) hal hbl) rfl fn_54 ⟨(zd rfl),(zd rfl),trivial⟩) ?_;refine A0 mX ?_;refine A0 (by first|exact zW rfl rfl|exact zU rfl rfl) ?_;refine A0 (by first|exact zY rfl rfl|exact zX rfl rfl) ?_;refine qcn ?_;refine qb7 ?_;refine qar ?_;refine A0 aV ?_;refine qaY ?_
   exact zap rfl rfl (za rfl (by rw [differ_in g14 ht21])) (za rfl (by rw [differ_in g14 ht21])) (za rfl (by rw [differ_in g14 ht21]))
theorem rextract_ok (p:Proof) (l:List Block) (hl:smallC l):Tells P 26 [.val proofT p,.val (bsl blockT) l] (.tup3 (.val (sl u8T) (extOf p l).1) (.val (sl u8T) (extOf p l).2.1) (.val boolT (extOf p l).2.2)):=by
 obtain ⟨A,hA⟩:∃A,A=idsP p:=⟨_,rfl⟩
 refine zc Tryz.func26 rfl rfl rfl (fun ext w hext=>?_)
 refine ze (d:=1) rfl zi (fun hsl1=>?_)
 refine qbi ?_;refine A0 aL ?_;refine qa7 ?_;refine A0 (oCl (rcheck_ok l hl) rfl fn_58 ⟨(zd rfl),trivial⟩) ?_;refine A0 mX ?_;refine A0 (by first|exact zW rfl rfl|exact zU rfl rfl) ?_;refine A0 (by first|exact zY rfl rfl|exact zX rfl rfl) ?_;refine qbm ?_;refine qan ?_;refine qbB ?_;refine qbQ ?_;refine A0 (oCl (rcheckP_ok p) rfl fn_27 ⟨(zd rfl),trivial⟩) ?_;refine A0 zd2 ?_;refine zaa (d:=23) (p:=¬checkP p=0) rfl (by simp [IntL.toI]) (fun g23=>?_) (fun g23=>?_)
 ·
  refine qar ?_;refine qcc ?_;refine Ct ?_;refine qb0 ?_
  exact zap rfl rfl (by rw [zdE (.inr g23)];exact zau rfl) (by rw [zdE (.inr g23)];exact zau rfl) (za rfl (by rw [zdE (.inr g23)]))
 ·
  refine qar ?_;refine A1 mV ?_;refine A1 zd2 ?_;refine qaq ?_;refine zj (p:=¬(checkOf l).2=0) rfl (by simp [IntL.toI]) (fun ht27=>?_) (fun ht27=>?_)
  ·
   refine qb0 ?_
   exact zap rfl rfl (by rw [zdE (.inl ht27)];exact zau rfl) (by rw [zdE (.inl ht27)];exact zau rfl) (za rfl (by rw [zdE (.inl ht27)]))
  ·
   have hc0:(checkOf l).2=0:=Classical.not_not.1 ht27
   have hp0:checkP p=0:=Classical.not_not.1 g23
   have hlp:=holds_pos hp0
   have hcp:=chain_pos hc0
   have hsz:=(zer.1 hp0).l2
   have hle:=chain_end hc0
   have hal:A.length=p.p.length:=by rw [hA];unfold idsP;simp
   have hids:=zs (r18ids_ok p (by omega))
   rw [←hA] at hids
   have hiy:A[A.length-1]?=some (headId (yAt p (p.p.length-1)).h):=by rw [hal,hA];exact ids_at p (by omega)
   refine CSQR ?_;refine qbQ ?_;refine A0 (oCl (hids) rfl fn_21 ⟨(zd rfl),trivial⟩) ?_;refine qaA ?_;refine qa0 ?_;refine qaF ?_;refine G0 (zah rfl rfl zaJ) ?_;refine G0 zay ?_;refine G0 (zm (i:=A.length-1) rfl rfl rfl (by omega) zak (by assumption)) ?_;refine qb4 ?_;refine qaF ?_;refine G0 (zah rfl rfl isl_52) ?_;refine G0 zay ?_;refine G0 (zm (i:=l.length-1) rfl rfl rfl (by omega) zcR (by assumption)) ?_;refine qbs ?_
   refine G0 (oCl (zdf (checkOf l).1.b.h) rfl fn_51 ⟨(by first|exact zq rfl|exact zC rfl|exact zy rfl rfl|exact zA rfl|exact zr rfl|exact zL rfl rfl|exact zB rfl),trivial⟩) ?_;refine G0 (zbQ rfl rfl rfl (zbJ)) ?_;refine GK.nil ?_;refine zj (p:=¬headId (yAt p (p.p.length-1)).h=headId (checkOf l).1.b.h) rfl (by simp) (fun ht44=>?_) (fun ht44=>?_)
   ·
    refine qb0 ?_
    exact zap rfl rfl (by rw [ext_end hc0 hp0 ht44];exact zau rfl) (by rw [ext_end hc0 hp0 ht44];exact zau rfl) (za rfl (by rw [ext_end hc0 hp0 ht44]))
   ·
    have hex:=ext_in hc0 hp0 ht44
    refine CSQQR ?_;refine qbD ?_;refine A0 zay ?_;refine qbC ?_;refine Lp (ι:=Nat) 1 (fun (k:Nat)=>((((Fr.none).set 1 (.val (bsl blockT) l)).set 2 (.ptr 0 0)).set 9 (.val (sl idT) A)).set 10 (.val i64T ((k:Int)-1))) (fun (k:Nat)=>(Hp.none).set 0 (.box 24 proofT p)) (fun (k:Nat)=>k≤p.p.length∧extOf p l=extF p l k) (fun (k:Nat)=>k) (p.p.length) (⟨Nat.le_refl _,hex⟩) ?_
    intro k hinv
    refine qa9 ?_;refine qbk ?_;refine Cf (p:=0<k) (fun ht50=>?_) (fun ht50=>?_)
    ·
     obtain ⟨x,hx⟩:∃x,p.p[k-1]?=some x:=⟨_,List.getElem?_eq_getElem (by omega)⟩
     have hxi:A[k-1]?=some (headId x.h):=by rw [hA,←yat_of hx];exact ids_at p (by omega)
     have hxl:=holds_short hp0 hx
     refine CSQBQR ?_;refine qag ?_;refine qar ?_;refine A0 (zm (i:=k-1) rfl rfl rfl (by omega) zak (by assumption)) ?_;refine A0 (zf rfl rfl zM) ?_;refine A0 (oCl (rfindC_ok l (headId x.h)) rfl fn_59 ⟨(zd rfl),(by first|exact zq rfl|exact zC rfl|exact zy rfl rfl|exact zA rfl|exact zr rfl|exact zL rfl rfl|exact zB rfl),trivial⟩) ?_;refine qah ?_;refine qaz ?_;refine Cf (p:=findOf l (headId x.h)<0) (fun ht60=>?_) (fun ht60=>?_)
     ·
      refine qb0 ?_
      exact zap rfl rfl (by rw [hinv.2,zeV ht50 hx ht60];exact zau rfl) (by rw [hinv.2,zeV ht50 hx ht60];exact zau rfl) (za rfl (by rw [hinv.2,zeV ht50 hx ht60]))
     ·
      obtain ⟨b,hb⟩:=find_block ht60
      have hbl:=chain_short (chain_of hc0) hb
      refine CS ?_;refine CQ ?_;refine qa0 ?_;refine qaF ?_;refine G0 (zm (i:=(findOf l (headId x.h)).toNat) rfl rfl rfl (by omega) zcR (by assumption)) ?_;refine qbs ?_;refine qbY ?_;refine G0 mV ?_;refine G0 (zm (i:=k-1) rfl rfl rfl (by omega) zds (by assumption)) ?_;refine G0 (oFr zbS za7) ?_;refine G0 (zf rfl rfl zao) ?_;refine G0 (zbQ rfl rfl rfl (eqt_38)) ?_;refine GK.nil ?_;refine zj (p:=¬b.h=x.h) rfl (by simp) (fun ht72=>?_) (fun ht72=>?_)
      ·
       refine qa0 ?_;refine qbY ?_;refine G0 mV ?_;refine G0 (zm (i:=k-1) rfl rfl rfl (by omega) zds (by assumption)) ?_;refine G0 (oFr zbS za7) ?_;refine G0 (zf rfl rfl zao) ?_;refine G0 (oCl (zs (rsealedH_ok x.h)) rfl fn_60 ⟨(by first|exact zq rfl|exact zC rfl|exact zy rfl rfl|exact zA rfl|exact zr rfl|exact zL rfl rfl|exact zB rfl),trivial⟩) ?_;refine qaF ?_;refine G0 (zm (i:=(findOf l (headId x.h)).toNat) rfl rfl rfl (by omega) zcR (by assumption)) ?_;refine qbs ?_
       refine G0 (oCl (zs (rsealedH_ok b.h)) rfl fn_60 ⟨(by first|exact zq rfl|exact zC rfl|exact zy rfl rfl|exact zA rfl|exact zr rfl|exact zL rfl rfl|exact zB rfl),trivial⟩) ?_;refine G0 aV ?_;refine G0 aV ?_;refine qa3 ?_
       exact zap rfl rfl (za rfl (by rw [hinv.2,zdR ht50 hx ht60 hb ht72])) (za rfl (by rw [hinv.2,zdR ht50 hx ht60 hb ht72])) (za rfl (by rw [hinv.2,zdR ht50 hx ht60 hb ht72]))
      ·
       refine CS ?_;refine qa0 ?_;refine qbY ?_;refine G0 mV ?_;refine G0 (zm (i:=k-1) rfl rfl rfl (by omega) zds (by assumption)) ?_;refine G0 (oFr zdi zcE) ?_;refine G0 (zf rfl rfl zbj) ?_;refine qaF ?_;refine G0 (zm (i:=(findOf l (headId x.h)).toNat) rfl rfl rfl (by omega) zcR (by assumption)) ?_;refine G0 (oFr zbR zaH) ?_;refine G0 (zf rfl rfl zbj) ?_
       refine G0 (oCl (refIds_ok x.l b.l) rfl fn_16 ⟨(by first|exact zq rfl|exact zC rfl|exact zy rfl rfl|exact zA rfl|exact zr rfl|exact zL rfl rfl|exact zB rfl),(by first|exact zq rfl|exact zC rfl|exact zy rfl rfl|exact zA rfl|exact zr rfl|exact zL rfl rfl|exact zB rfl),trivial⟩) ?_;refine qa3 ?_;refine qa2 ?_;refine qaE ?_;refine zj (p:=¬b.l=x.l) rfl (by rw [←decide_not,decide_eq_decide];exact ⟨fun h c=>h c.symm,fun h c=>h c.symm⟩) (fun ht99=>?_) (fun ht99=>?_)
       ·
        refine qa0 ?_;refine qbY ?_;refine G0 mV ?_;refine G0 (zm (i:=k-1) rfl rfl rfl (by omega) zds (by assumption)) ?_;refine G0 (oFr zdi zcE) ?_;refine G0 (zf rfl rfl zbj) ?_;refine qaF ?_;refine G0 (zm (i:=(findOf l (headId x.h)).toNat) rfl rfl rfl (by omega) zcR (by assumption)) ?_;refine G0 (oFr zbR zaH) ?_;refine G0 (zf rfl rfl zbj) ?_
        refine G0 (oCl (r18differ_ok x.l b.l (by omega) (by omega)) rfl fn_24 ⟨(by first|exact zq rfl|exact zC rfl|exact zy rfl rfl|exact zA rfl|exact zr rfl|exact zL rfl rfl|exact zB rfl),(by first|exact zq rfl|exact zC rfl|exact zy rfl rfl|exact zA rfl|exact zr rfl|exact zL rfl rfl|exact zB rfl),trivial⟩) ?_;refine G0 mX ?_;refine G0 (by first|exact zW rfl rfl|exact zU rfl rfl) ?_;refine G0 (by first|exact zY rfl rfl|exact zX rfl rfl) ?_;refine G0 e32 ?_;refine G0 aV ?_;refine G0 aV ?_;refine qa3 ?_;refine CQR ?_
        refine qag ?_;refine qar ?_;refine A0 aV ?_;refine qaY ?_
        exact zap rfl rfl (za rfl (by rw [hinv.2,zdQ ht50 hx ht60 hb ht72 ht99])) (za rfl (by rw [hinv.2,zdQ ht50 hx ht60 hb ht72 ht99])) (za rfl (by rw [hinv.2,zdQ ht50 hx ht60 hb ht72 ht99]))
       ·
        refine CSIR ?_;refine qby ?_;refine qab ?_;refine zp (d:=10) (y:=((k-1:Nat):Int)-1) rfl (by omega) ?_
        exact Nx (k-1) (⟨by omega,by rw [hinv.2];exact extk_go ht50 hx ht60 hb ht72 ht99⟩) (by omega)
    ·
     refine CE ?_;refine qb0 ?_
     exact zap rfl rfl (by rw [hinv.2,show k=0 by omega,show extF p l 0=([],[],false) from rfl];exact zau rfl) (by rw [hinv.2,show k=0 by omega,show extF p l 0=([],[],false) from rfl];exact zau rfl) (za rfl (by rw [hinv.2,show k=0 by omega,show extF p l 0=([],[],false) from rfl]))
set_option maxRecDepth 20000
theorem CheckTells_ok (p:Proof) (l:List Block) (a b:List Ab.Id):Tells P 7 [.val proofT p,.val (sl blockT) l,.val (sl idT) a,.val (sl idT) b] (.val boolT true):=by
 refine zc Tryz.func7 rfl rfl rfl (fun ext w hext=>?_)
 refine ze (d:=1) rfl zi (fun hsl1=>?_)
 refine ze (d:=2) rfl zi (fun hsl2=>?_)
 refine ze (d:=3) rfl zi (fun hsl3=>?_)
 refine qad ?_;refine qai ?_;refine A0 (oCl (awake18_ok) rfl fn_9 trivial) ?_;refine qai ?_;refine qbQ ?_;refine A0 (oCl (fewPr_ok p) rfl fn_10 ⟨(zd rfl),trivial⟩) ?_;refine qa7 ?_;refine A0 (oCl (fewC_ok l) rfl fn_19 ⟨(zd rfl),trivial⟩) ?_;refine qah ?_;refine A0 oN ?_;refine zd9 (d:=32) rfl (rfl) ?_;refine qar ?_;refine A1 mV ?_;refine A1 oN ?_;refine zaa (d:=35) (p:=fewPr p=false) rfl (by cases fewPr p<;>rfl) (fun g35=>?_) (fun g35=>?_)
 ·
  refine qaw ?_;refine A2 ?_;refine A2 ?_;refine qaw ?_;refine qbf ?_;refine qaq ?_;refine Ct ?_;refine qb8 ?_
  exact zb rfl rfl (za rfl (rfl))
 ·
  have hpl:=fewPr_len (by simpa using g35)
  refine qaw ?_;refine A1 mV ?_;refine A1 oN ?_;refine zaa (d:=39) (p:=¬fewC l=true) rfl (by cases fewC l<;>rfl) (fun g39=>?_) (fun g39=>?_)
  ·
   refine qaw ?_;refine qbf ?_;refine qaq ?_;refine Ct ?_;refine qb8 ?_
   exact zb rfl rfl (za rfl (rfl))
  ·
   have hl:=fewC_small (Classical.not_not.1 g39)
   refine qaw ?_;refine A1 mV ?_;refine A1 (zah rfl rfl zaJ) ?_;refine A1 zbb ?_;refine Sp (d:=44) (p:=40<a.length) (fun g44=>?_) (fun g44=>?_)
   ·
    refine qaw ?_;refine qbA ?_;refine Ct ?_;refine qb8 ?_
    exact zb rfl rfl (za rfl (rfl))
   ·
    refine qaw ?_;refine A1 mV ?_;refine A1 (zah rfl rfl zaJ) ?_;refine A1 zbb ?_;refine qaq ?_;refine Cf (p:=40<b.length) (fun ht50=>?_) (fun ht50=>?_)
    ·
     refine qb8 ?_
     exact zb rfl rfl (za rfl (rfl))
    ·
     refine CS ?_;refine qa0 ?_;refine G0 (oLs rfl rfl rfl zdG) ?_;refine G0 (oCl (zs (ids_ok p (by omega))) rfl fn_20 ⟨(zd rfl),trivial⟩) ?_;refine G0 (oLs rfl rfl rfl zdG) ?_;refine G0 (oCl (zs (r18ids_ok p (by omega))) rfl fn_21 ⟨(zd rfl),trivial⟩) ?_;refine G0 (oCl (refIds_ok (idsP p) (idsP p)) rfl fn_16 ⟨(zd rfl),(zd rfl),trivial⟩) ?_;refine qa3 ?_;refine qa0 ?_;refine G0 (oLs rfl rfl rfl zdG) ?_;refine G0 (oCl (zs (levelsP_ok p (by omega))) rfl fn_12 ⟨(zd rfl),trivial⟩) ?_;refine G0 (oLs rfl rfl rfl zdG) ?_
     refine G0 (oCl (zs (r18levels_ok p (by omega))) rfl fn_23 ⟨(zd rfl),trivial⟩) ?_;refine G0 (oCl (refInts_ok (levelsP p) (levelsP p)) rfl fn_22 ⟨(zd rfl),(zd rfl),trivial⟩) ?_;refine qa3 ?_;refine CQR ?_;refine qag ?_;refine A0 (oCl (differ_ok a b (by omega) (by omega)) rfl fn_15 ⟨(zd rfl),(zd rfl),trivial⟩) ?_;refine A0 mX ?_;refine A0 (by first|exact zW rfl rfl|exact zU rfl rfl) ?_;refine A0 (by first|exact zY rfl rfl|exact zX rfl rfl) ?_;refine qcn ?_;refine qb7 ?_
     refine A0 (oCl (r18differ_ok a b (by omega) (by omega)) rfl fn_24 ⟨(zd rfl),(zd rfl),trivial⟩) ?_;refine A0 mX ?_;refine A0 (by first|exact zW rfl rfl|exact zU rfl rfl) ?_;refine A0 (by first|exact zY rfl rfl|exact zX rfl rfl) ?_;refine qcn ?_;refine qai ?_;refine qbQ ?_;refine qar ?_;refine A0 (oCl (extract_ok p l hl) rfl fn_25 ⟨(zd rfl),(zd rfl),trivial⟩) ?_;refine A0 mX ?_;refine A0 (by first|exact zW rfl rfl|exact zU rfl rfl) ?_;refine A0 (by first|exact zY rfl rfl|exact zX rfl rfl) ?_;refine qcn ?_;refine qai ?_;refine qbQ ?_;refine qar ?_
     refine A0 (oCl (rextract_ok p l hl) rfl fn_26 ⟨(zd rfl),(zd rfl),trivial⟩) ?_;refine A0 mX ?_;refine A0 (by first|exact zW rfl rfl|exact zU rfl rfl) ?_;refine A0 (by first|exact zY rfl rfl|exact zX rfl rfl) ?_;refine qcn ?_;refine qah ?_;refine A0 oN ?_;refine zd9 (d:=91) rfl (by simp) ?_;refine qar ?_;refine A1 mV ?_;refine A1 oN ?_;refine zd9 (d:=94) rfl (by simp) ?_;refine qaw ?_;refine A1 mV ?_;refine A1 (g_cvs rfl rfl uu_46 ui_5 st_9) ?_;refine A1 mV ?_;refine A1 (g_cvs rfl rfl uu_46 ui_5 st_9) ?_;refine A1 (g_neqstr rfl rfl rfl) ?_
     refine zd9 (d:=101) rfl (by simp) ?_;refine qaw ?_;refine A1 mV ?_;refine A1 (g_cvs rfl rfl uu_46 ui_5 st_9) ?_;refine A1 mV ?_;refine A1 (g_cvs rfl rfl uu_46 ui_5 st_9) ?_;refine A1 (g_neqstr rfl rfl rfl) ?_;refine zd9 (d:=108) rfl (by simp) ?_;refine qaw ?_;refine A1 mV ?_;refine A1 mV ?_;refine A1 (g_neqB rfl rfl rfl ub_4) ?_;refine qaq ?_;refine zeG rfl (by simp) ?_;refine CS ?_;refine qcd ?_;refine G0 (g_cvs rfl rfl uu_46 ui_5 st_9) ?_;refine G0 mV ?_;refine G0 (g_cvs rfl rfl uu_46 ui_5 st_9) ?_;refine G0 (g_eqlstr rfl rfl rfl) ?_;refine GK_ist (d:=119) rfl (by simp) ?_
     refine G0 mV ?_;refine G1 mV ?_;refine G1 (g_cvs rfl rfl uu_46 ui_5 st_9) ?_;refine G1 mV ?_;refine G1 (g_cvs rfl rfl uu_46 ui_5 st_9) ?_;refine G1 (g_eqlstr rfl rfl rfl) ?_;refine GK_ist (d:=125) rfl (by simp) ?_;refine qbj ?_;refine G1 mV ?_;refine G1 mV ?_;refine G1 (g_eqlB rfl rfl rfl ub_4) ?_;refine GK_ist (d:=130) rfl (by simp) ?_;refine qbj ?_;refine G1 (oLs rfl rfl rfl zdG) ?_;refine G1 (oCl (checkP_ok p) rfl fn_11 ⟨(zd rfl),trivial⟩) ?_;refine G1 (oLs rfl rfl rfl zdG) ?_;refine G1 (oCl (rcheckP_ok p) rfl fn_27 ⟨(zd rfl),trivial⟩) ?_;refine G1 zbU ?_;refine G0 oK ?_
     refine qa3 ?_
     exact zb rfl rfl (za rfl (by simp))
end Go.Proofs.YtjldddonpfopaaaGreat
