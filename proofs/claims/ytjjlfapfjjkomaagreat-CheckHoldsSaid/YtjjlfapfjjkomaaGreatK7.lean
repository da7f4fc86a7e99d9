/- Parts of the proof: the layer that reads Go values as data, and what the functions of the program tell. -/
import Derived.Test.YtjjlfapfjjkomaaGreatK6
set_option linter.unusedVariables false
set_option linter.unusedSimpArgs false
set_option maxRecDepth 20000
namespace Go.Proofs.YtjjlfapfjjkomaaGreat
open Go.Ab Go.RowKit
theorem equalFPart (l m:List Part):Tells P 54 [.val (bsl partT) l,.val (bsl partT) m,.fn2 P partT partT boolT (fun x y=>decide (x=y))] (.val boolT (decide (l=m))):=by
 refine zc Tryz.func54 rfl rfl rfl (fun ext w hext=>?_)
 refine ze (d:=0) rfl zl (fun hsl0=>?_)
 refine ze (d:=1) rfl zl (fun hsl1=>?_)
 refine CQR ?_;refine qaj ?_;refine A0 (zK rfl rfl zbY) ?_;refine qav ?_;refine A0 (zK rfl rfl zbY) ?_;refine qaO ?_;refine Cf (p:=¬l.length=m.length) (fun ht14=>?_) (fun ht14=>?_)
 ·
  refine qay ?_
  exact za rfl rfl (zb rfl (decide_eq_false (fun e=>ht14 (by rw [e]))).symm)
 ·
  refine qb2 ?_;refine A0 (zK rfl rfl zbY) ?_;refine qaA ?_;refine Lp (ι:=Nat) 0 (fun (k:Nat)=>((((((Fr.none).set 0 (.val (bsl partT) l)).set 1 (.val (bsl partT) m)).set 2 (.fn2 P partT partT boolT (fun x y=>decide (x=y)))).set 15 (.val (bsl partT) l)).set 16 (.val i64T (l.length:Int))).set 17 (.val i64T (k:Int))) (fun (k:Nat)=>Hp.none) (fun (k:Nat)=>k≤l.length∧l.take k=m.take k) (fun (k:Nat)=>l.length-k) (0) (⟨Nat.zero_le _,by simp⟩) ?_
  intro k hinv
  refine qak ?_;refine Cf (p:=k<l.length) (fun ht18=>?_) (fun ht18=>?_)
  ·
   obtain ⟨x,hx⟩:∃x,l[k]?=some x:=⟨_,List.getElem?_eq_getElem ht18⟩
   obtain ⟨y,hy⟩:∃y,m[k]?=some y:=⟨_,List.getElem?_eq_getElem (by omega)⟩
   refine qaQ ?_;refine A0 (zaK rfl rfl rfl zaP (by assumption)) ?_;refine A0 (zf rfl rfl ty_55) ?_;refine zw ze_55 rfl rfl rfl rfl ?_;refine A0 aV ?_;refine zh rfl rfl rfl rfl rfl (Lens.self _) ty_55 rfl ?_;refine CNQR ?_;refine qal ?_;refine A0 (zaK rfl rfl rfl zaP (by assumption)) ?_;refine qaP ?_;refine CNQR ?_;refine A0 mH ?_;refine A0 (oLs rfl rfl rfl ty_55) ?_;refine A0 (oLs rfl rfl rfl ty_55) ?_;refine A0 (g_callf2 rfl rfl (zd rfl) (zd rfl)) ?_;refine qaR ?_;refine zp (p:=¬x=y) rfl (by simp) (fun ht30=>?_) (fun ht30=>?_)
   ·
    refine qay ?_
    exact za rfl rfl (zb rfl (decide_eq_false (ne_of_at hx hy ht30)).symm)
   ·
    refine qbe ?_
    exact Nx (k+1) (⟨by omega,zdH hx hy hinv.2 (by simpa using ht30)⟩) (by omega)
  ·
   refine CE ?_;refine qay ?_
   exact za rfl rfl (zb rfl (decide_eq_true (by have h:=hinv.2;rw [List.take_of_length_le (by omega),List.take_of_length_le (by omega)] at h;exact h)).symm)
theorem sameParts_ok (x y:Part):Tells P 52 [.val partT x,.val partT y] (.val boolT (decide (x=y))):=by
 refine zc Tryz.func52 rfl rfl rfl (fun ext w hext=>?_)
 refine qa9 ?_;refine qat ?_;refine A0 (oFp za6) ?_;refine A0 (oLb zaO zal) ?_;refine A0 (oFp za6) ?_;refine A0 (oLb zaO zal) ?_;refine A0 (g_eqlS rfl rfl rfl (eqt_52)) ?_;refine qav ?_;refine zI (d:=10) (p:=x.h=y.h) rfl (by simp) (fun g10=>?_) (fun g10=>?_)
 ·
  refine A1 (oFp zbv) ?_;refine A1 (oLb zbA zbc) ?_;refine A1 (oFp zbv) ?_;refine A1 (oLb zbA zbc) ?_;refine A1 (oCl (equalId x.l y.l) rfl fn_53 ⟨(zd rfl),(zd rfl),trivial⟩) ?_;refine qa1 ?_
  exact za rfl rfl (zb rfl ((by rw [decide_eq_decide];exact ⟨fun h=>by cases x;cases y;simp_all,fun h=>by rw [h]⟩)))
 ·
  refine qab ?_;refine qaE ?_;refine qa1 ?_
  exact za rfl rfl (zb rfl ((by symm;apply decide_eq_false;intro h;exact g10 (by rw [h]))))
theorem sameP_ok (a b:Proof):Tells P 23 [.val proofT a,.val proofT b] (.val boolT (decide (a=b))):=by
 refine zc Tryz.func23 rfl rfl rfl (fun ext w hext=>?_)
 refine qa9 ?_;refine qat ?_;refine A0 aC ?_;refine CNQR ?_;refine A0 (oFp zcG) ?_;refine A0 (oLb zdO ty_3) ?_;refine A0 (oFp zcG) ?_;refine A0 (oLb zdO ty_3) ?_;refine A0 zaW ?_;refine qav ?_;refine zI (d:=11) (p:=a.m=b.m) rfl (by simp [IntL.toI]) (fun g11=>?_) (fun g11=>?_)
 ·
  refine A1 (oFp zb6) ?_;refine A1 (oLb zct ty_3) ?_;refine A1 (oFp zb6) ?_;refine A1 (oLb zct ty_3) ?_;refine A1 zaW ?_;refine qag ?_;refine zI (d:=18) (p:=a.k=b.k) rfl (by simp [IntL.toI]) (fun g18=>?_) (fun g18=>?_)
  ·
   refine A1 (oFp zaq) ?_;refine A1 (oLb zao zcd) ?_;refine A1 (oFp zaq) ?_;refine A1 (oLb zao zcd) ?_;refine A1 mC ?_;refine A1 (oCl (equalFPart a.p b.p) rfl fn_54 ⟨(zd rfl),(zd rfl),(by first|exact zc6 (Cs:=[]) rfl fn_52 (by intro n hn;cases hn) trivial rfl (fun x=>sameParts_ok x y)|exact zc5 (Cs:=[]) rfl fn_52 (by intro n hn;cases hn) trivial rfl (fun x y=>sameParts_ok x y)|exact zc7 rfl),trivial⟩) ?_;refine qa1 ?_
   exact za rfl rfl (zb rfl ((by rw [decide_eq_decide];exact ⟨fun h=>by cases a;cases b;simp_all,fun h=>by rw [h]⟩)))
  ·
   refine qab ?_;refine qab ?_;refine qa1 ?_
   exact za rfl rfl (zb rfl ((by symm;apply decide_eq_false;intro h;exact g18 (by rw [h]))))
 ·
  refine qab ?_;refine qaE ?_;refine qaM ?_;refine qab ?_;refine qa1 ?_
  exact za rfl rfl (zb rfl ((by symm;apply decide_eq_false;intro h;exact g11 (by rw [h]))))
set_option maxRecDepth 20000
def valU (l:List UInt8):UInt64:=l.foldl (fun n c=>shl64 n 8|||u64OfI (IntL.toI u8T c)) 0
def getOk (b:List UInt8) (p size:Int):Bool:=decide (0≤size∧size≤8∧0≤p∧p≤b.length∧size≤(b.length:Int)-p)
def getU (b:List UInt8) (p size:Int):UInt64:=if getOk b p size=true then valU ((b.drop p.toNat).take size.toNat) else 0
def cutE (b:List UInt8) (p:Int):Bool:=getOk b p 2&&decide (((getU b p 2).toNat:Int)≤(b.length:Int)-p-2)
def cutX (b:List UInt8) (p:Int):List UInt8:=if cutE b p=true then (b.drop (p.toNat+2)).take (getU b p 2).toNat else []
def cutP2 (b:List UInt8) (p:Int):Int:=if cutE b p=true then p+2+(getU b p 2).toNat else 0
def blobL (x:List UInt8):List UInt8:=numBytes (u64OfI (x.length:Int)) 2++x
def blobOk (x:List UInt8):Bool:=decide (x.length≤65535)
def rowsL (l:List (List UInt8)):List UInt8:=u8OfI (l.length:Int)::(l.map blobL).flatten
def rowsOk (l:List (List UInt8)):Bool:=decide (l.length≤255)&&l.all blobOk
def cutN:List UInt8→Option (List UInt8×List UInt8)
  | a::c::r=>if 256*a.toNat+c.toNat≤r.length then some (r.take (256*a.toNat+c.toNat),r.drop (256*a.toNat+c.toNat)) else none
  | _=>none
def pieces:Nat→List UInt8→List (List UInt8)×List UInt8
  | 0,r=>([],r)
  | n+1,r=>match cutN r with
    | none=>([],r)
    | some (x,z)=>(x::(pieces n z).1,(pieces n z).2)
def splitOf (b:List UInt8):List (List UInt8)×Bool :=
  match b with
  | []=>([],false)
  | n::r=>if (pieces n.toNat r).1.length=n.toNat∧(pieces n.toNat r).2=[] then ((pieces n.toNat r).1,true) else ([],false)
theorem or_low {a c:Nat} (hc:c<256):a*256|||c=a*256+c:=by
  have:=Nat.two_pow_add_eq_or_of_lt (i:=8) (b:=c) hc a
  rw [show (2:Nat)^8=256 from rfl,Nat.mul_comm] at this
  exact this.symm
theorem val_step (n:UInt64) (c:UInt8):(shl64 n 8|||u64OfI (IntL.toI u8T c)).toNat=(256*n.toNat+c.toNat)%18446744073709551616:=by
  have hc:c.toNat<256:=c.toNat_lt
  have hn:n.toNat<18446744073709551616:=n.toNat_lt
  have e1:(u64OfI (IntL.toI u8T c)).toNat=c.toNat:=zdg (n:=(c.toNat:Int)) (by omega) (by omega)
  have e2:(shl64 n 8).toNat=n.toNat*256%18446744073709551616:=by
    unfold shl64
    rw [UInt64.toNat_ofNat']
    rfl
  rw [UInt64.toNat_or,e1,e2]
  have e3:n.toNat*256%18446744073709551616=(n.toNat%72057594037927936)*256:=by omega
  rw [e3,or_low hc]
  omega
def valN (l:List UInt8):Nat:=l.foldl (fun n c=>256*n+c.toNat) 0
theorem valN_snoc (l:List UInt8) (c:UInt8):valN (l++[c])=256*valN l+c.toNat:=by unfold valN;rw [List.foldl_append];rfl
theorem valU_snoc (l:List UInt8) (c:UInt8):valU (l++[c])=shl64 (valU l) 8|||u64OfI (IntL.toI u8T c):=by unfold valU;rw [List.foldl_append];rfl
theorem snoc_ind {α:Type} {P:List α→Prop} (h0:P []) (h1:∀l x,P l→P (l++[x])) (l:List α):P l:=by
  have:∀n:Nat,∀l:List α,l.length=n→P l:=by
    intro n
    induction n with
    | zero=>intro l hl;rw [List.length_eq_zero_iff.1 hl];exact h0
    | succ n ih =>
      intro l hl
      have hne:l≠[]:=by intro e;rw [e] at hl;cases hl
      rw [←List.dropLast_concat_getLast hne]
      exact h1 _ _ (ih _ (by rw [List.length_dropLast];omega))
  exact this _ l rfl
theorem valN_lt (l:List UInt8):valN l<256^l.length:=by
  refine snoc_ind (P:=fun l=>valN l<256^l.length) (by decide) (fun l c ih=>?_) l
  have hc:c.toNat<256:=c.toNat_lt
  rw [valN_snoc,List.length_append,List.length_singleton,Nat.pow_succ]
  omega
theorem valU_n:∀l:List UInt8,l.length≤8→(valU l).toNat=valN l:=by
  refine snoc_ind (P:=fun l=>l.length≤8→(valU l).toNat=valN l) (fun _=>rfl) (fun l c ih hl=>?_)
  rw [List.length_append,List.length_singleton] at hl
  rw [valU_snoc,valN_snoc,val_step,ih (by omega)]
  have h1:=valN_lt (l++[c])
  rw [valN_snoc] at h1
  have h2:256^(l++[c]).length≤256^8:=Nat.pow_le_pow_right (by decide) (by simp;omega)
  have h3:(256:Nat)^8=18446744073709551616:=rfl
  exact Nat.mod_eq_of_lt (by omega)
theorem numBytes_snoc (n:UInt64) (s:Nat) (hs:s<8):numBytes n (s+1)=numBytes (shr64 n 8) s++[u8OfI (IntL.toI u64T n)]:=by
  unfold numBytes
  rw [List.range_succ,List.map_append]
  congr 1
  · apply List.map_congr_left
    intro j hj
    rw [List.mem_range] at hj
    congr 2
    apply UInt64.toNat_inj.1
    rw [zel _ (by omega),zel _ (by omega),zel _ (by omega),Nat.div_div_eq_div_mul,←Nat.pow_add]
    congr 2;omega
  · show [u8OfI (IntL.toI u64T (shr64 n (8*(s+1-1-s))))]=_
    rw [show s+1-1-s=0 by omega,←shr_zero]
theorem zdG:∀l:List UInt8,l.length≤8→numBytes (valU l) l.length=l:=by
  refine snoc_ind (P:=fun l=>l.length≤8→numBytes (valU l) l.length=l) (fun _=>rfl) (fun l c ih hl=>?_)
  rw [List.length_append,List.length_singleton] at hl ⊢
  have hc:c.toNat<256:=c.toNat_lt
  have hv:=valU_n (l++[c]) (by simp;omega)
  have hw:=valU_n l (by omega)
  rw [valN_snoc] at hv
  rw [numBytes_snoc _ _ (by omega)]
  have e1:shr64 (valU (l++[c])) 8=valU l:=by
    apply UInt64.toNat_inj.1
    rw [zel _ (by decide),hv,hw]
    omega
  have e2:u8OfI (IntL.toI u64T (valU (l++[c])))=c:=by
    apply UInt8.toNat_inj.1
    unfold u8OfI
    show (UInt8.ofNat ((((valU (l++[c])).toNat:Nat):Int)%256).toNat).toNat=_
    rw [UInt8.toNat_ofNat_of_lt' (by show _<256;omega),hv]
    omega
  rw [e1,e2,ih (by omega)]
theorem val_bytes (n:UInt64):∀s:Nat,s≤8→valN (numBytes n s)=n.toNat%256^s
  | 0,_=>by show 0=_;simp [Nat.mod_one]
  | s+1,hs=>by
    have ih:=val_bytes (shr64 n 8) s (by omega)
    rw [numBytes_snoc _ _ (by omega),valN_snoc,ih,zel _ (by decide)]
    have e:(u8OfI (IntL.toI u64T n)).toNat=n.toNat%256:=by
      unfold u8OfI
      show (UInt8.ofNat (((n.toNat:Nat):Int)%256).toNat).toNat=_
      rw [UInt8.toNat_ofNat_of_lt' (by show _<256;omega)]
      omega
    have e8:(2:Nat)^8=256:=rfl
    have ep:256^(s+1)=256*256^s:=by rw [Nat.pow_succ,Nat.mul_comm]
    rw [e,e8,ep,Nat.mod_mul]
    omega
theorem two_bytes {n:Nat} (h:n≤65535):∃a c:UInt8,numBytes (u64OfI (n:Int)) 2=[a,c]∧256*a.toNat+c.toNat=n:=by
  have hl:=zN (u64OfI (n:Int)) 2
  have hv:=val_bytes (u64OfI (n:Int)) 2 (by decide)
  rw [zdg (by omega) (by omega)] at hv
  match hb:numBytes (u64OfI (n:Int)) 2 with
  | [a,c] =>
    rw [hb] at hv
    refine ⟨a,c,rfl,?_⟩
    have e:valN [a,c]=256*(256*0+a.toNat)+c.toNat:=rfl
    rw [e] at hv
    have:(256:Nat)^2=65536:=rfl
    omega
  | []=>rw [hb] at hl;cases hl
  | [_]=>rw [hb] at hl;cases hl
  | _::_::_::_=>rw [hb] at hl;simp at hl
theorem bytes_two (a c:UInt8):numBytes (u64OfI ((256*a.toNat+c.toNat:Nat):Int)) 2=[a,c]:=by
  have ha:a.toNat<256:=a.toNat_lt
  have hc:c.toNat<256:=c.toNat_lt
  have e:u64OfI ((256*a.toNat+c.toNat:Nat):Int)=valU [a,c]:=by
    apply UInt64.toNat_inj.1
    rw [zdg (by omega) (by omega),valU_n [a,c] (by simp)]
    show _=256*(256*0+a.toNat)+c.toNat
    omega
  rw [e]
  exact zdG [a,c] (by simp)
theorem cut_blob {x r:List UInt8} (h:blobOk x=true):cutN (blobL x++r)=some (x,r):=by
  have hx:=of_decide_eq_true h
  obtain ⟨a,c,e1,e2⟩:=two_bytes hx
  unfold blobL
  rw [e1]
  have e3:[a,c]++x++r=a::c::(x++r):=rfl
  rw [e3,cutN,e2,if_pos (by simp),List.take_left,List.drop_left]
theorem cut_back {b x z:List UInt8} (h:cutN b=some (x,z)):b=blobL x++z∧blobOk x=true:=by
  match b,h with
  | a::c::r,h =>
    have ha:a.toNat<256:=a.toNat_lt
    have hc:c.toNat<256:=c.toNat_lt
    rw [cutN] at h
    by_cases q:256*a.toNat+c.toNat≤r.length
    · rw [if_pos q] at h
      simp only [Option.some.injEq,Prod.mk.injEq] at h
      obtain ⟨rfl,rfl⟩:=h
      have hl:(r.take (256*a.toNat+c.toNat)).length=256*a.toNat+c.toNat:=by rw [List.length_take];omega
      refine ⟨?_,decide_eq_true (by rw [hl];omega)⟩
      unfold blobL
      rw [hl,bytes_two]
      show a::c::r=a::c::(r.take _++r.drop _)
      rw [List.take_append_drop]
    · rw [if_neg q] at h;cases h
  | [],h=>cases h
  | [_],h=>cases h
theorem zfy (r:List UInt8):∀l:List (List UInt8),l.all blobOk=true→pieces l.length ((l.map blobL).flatten++r)=(l,r)
  | [],_=>rfl
  | x::l,h=>by
    rw [List.all_cons,Bool.and_eq_true] at h
    rw [List.map_cons,List.flatten_cons,List.append_assoc,List.length_cons,pieces,cut_blob h.1]
    simp only []
    rw [zfy r l h.2]
theorem pieces_back:∀(n:Nat) (r:List UInt8),(pieces n r).1.length≤n∧r=((pieces n r).1.map blobL).flatten++(pieces n r).2∧(pieces n r).1.all blobOk=true
  | 0,r=>⟨Nat.le_refl _,rfl,rfl⟩
  | n+1,r=>by
    rw [pieces]
    match hc:cutN r with
    | none=>exact ⟨Nat.zero_le _,rfl,rfl⟩
    | some (x,z) =>
      obtain ⟨h1,h2⟩:=cut_back hc
      obtain ⟨i1,i2,i3⟩:=pieces_back n z
      refine ⟨Nat.succ_le_succ i1,?_,?_⟩
      · show r=((x::(pieces n z).1).map blobL).flatten++(pieces n z).2
        rw [List.map_cons,List.flatten_cons,List.append_assoc,←i2];exact h1
      · show (x::(pieces n z).1).all blobOk=true
        rw [List.all_cons,h2,i3];rfl
theorem u8_len {n:Nat} (h:n≤255):(u8OfI (n:Int)).toNat=n:=by
  unfold u8OfI
  rw [UInt8.toNat_ofNat_of_lt' (by show _<256;omega)]
  omega
theorem split_rows {l:List (List UInt8)} (h:rowsOk l=true):splitOf (rowsL l)=(l,true):=by
  unfold rowsOk at h
  rw [Bool.and_eq_true,decide_eq_true_eq] at h
  unfold rowsL splitOf
  have hp:=zfy [] l h.2
  rw [List.append_nil] at hp
  simp only []
  rw [u8_len h.1,hp,if_pos ⟨rfl,rfl⟩]
theorem rows_split {b:List UInt8} (h:(splitOf b).2=true):rowsL (splitOf b).1=b∧rowsOk (splitOf b).1=true:=by
  match b,h with
  | n::r,h =>
    have hn:n.toNat<256:=n.toNat_lt
    unfold splitOf at h ⊢
    simp only [] at h ⊢
    by_cases q:(pieces n.toNat r).1.length=n.toNat∧(pieces n.toNat r).2=[]
    · rw [if_pos q]
      obtain ⟨i1,i2,i3⟩:=pieces_back n.toNat r
      rw [q.2,List.append_nil] at i2
      refine ⟨?_,?_⟩
      · show u8OfI ((pieces n.toNat r).1.length:Int)::((pieces n.toNat r).1.map blobL).flatten=n::r
        rw [←i2,q.1]
        congr 1
        apply UInt8.toNat_inj.1
        rw [u8_len (by omega)]
      · unfold rowsOk
        rw [i3,decide_eq_true (show (pieces n.toNat r).1.length≤255 by omega)];rfl
    · rw [if_neg q] at h;cases h
  | [],h=>cases h
theorem blob_len (x:List UInt8):(blobL x).length=2+x.length:=by unfold blobL;rw [List.length_append,zN]
theorem rows_len:∀l:List (List UInt8),(rowsL l).length=1+(l.map fun x=>2+x.length).sum
  | []=>rfl
  | x::l=>by
    have ih:=rows_len l
    unfold rowsL at ih ⊢
    rw [List.length_cons,List.map_cons,List.flatten_cons,List.length_append,blob_len,List.map_cons,List.sum_cons]
    rw [List.length_cons] at ih
    omega
set_option maxRecDepth 20000
def readHd (b:List UInt8):Head:=⟨((valU (b.take 4)).toNat:Int),(b.drop 4).take 32,(b.drop 36).take 32,(b.drop 68).take 32,(b.drop 100).take 32,of32W ((b.drop 132).take 32),UInt32.ofNat (valU ((b.drop 164).take 4)).toNat,valU ((b.drop 168).take 8)⟩
def readHOk (b:List UInt8):Bool:=decide (b.length=176)&&decide ((valU (b.take 4)).toNat≤1048576)
def readH (b:List UInt8):Head:=if readHOk b=true then readHd b else zHead
def sizeOk (p:Proof):Bool:=decide (1≤p.m∧p.m≤20∧1≤p.k∧p.k≤20∧p.p.length≤100)&&p.p.all fun x=>decide (x.l.length≤32)
def wOk (p:Proof):Bool:=sizeOk p&&p.p.all fun x=>hOk x.h
def partRow (x:Part):List UInt8:=rowsL (headBytes x.h::x.l)
def putL (p:Proof):List UInt8:=u8OfI p.m::u8OfI p.k::rowsL (p.p.map partRow)
def partOk (r:List UInt8):Bool:=(splitOf r).2&&match (splitOf r).1 with
  | []=>false
  | h::l=>readHOk h&&l.all fun x=>decide (x.length=32)
def readPart (r:List UInt8):Part:=match (splitOf r).1 with
  | []=>⟨zHead,[]⟩
  | h::l=>⟨readHd h,l⟩
def readP (b:List UInt8):Proof:=⟨((b.getD 0 0).toNat:Int),((b.getD 1 0).toNat:Int),(splitOf (b.drop 2)).1.map readPart⟩
def readOk (b:List UInt8):Bool:=decide (2<b.length)&&(splitOf (b.drop 2)).2&&(splitOf (b.drop 2)).1.all partOk&&sizeOk (readP b)
theorem u8_nat {n:Int} (h0:0≤n) (h1:n≤255):(u8OfI n).toNat=n.toNat:=by
  obtain ⟨m,rfl⟩:∃m:Nat,n=m:=⟨n.toNat,by omega⟩
  rw [u8_len (by omega)];rfl
theorem u8_back (c:UInt8):u8OfI (c.toNat:Int)=c:=by
  apply UInt8.toNat_inj.1
  have:c.toNat<256:=c.toNat_lt
  rw [u8_len (by omega)]
theorem of32_four (x0 x1 x2 x3 x4 x5 x6 x7 x8 x9 x10 x11 x12 x13 x14 x15 x16 x17 x18 x19 x20 x21 x22 x23 x24 x25 x26 x27 x28 x29 x30 x31:UInt8):of32W [x0,x1,x2,x3,x4,x5,x6,x7,x8,x9,x10,x11,x12,x13,x14,x15,x16,x17,x18,x19,x20,x21,x22,x23,x24,x25,x26,x27,x28,x29,x30,x31]=[valU [x24,x25,x26,x27,x28,x29,x30,x31],valU [x16,x17,x18,x19,x20,x21,x22,x23],valU [x8,x9,x10,x11,x12,x13,x14,x15],valU [x0,x1,x2,x3,x4,x5,x6,x7]]:=by kernel_rfl
theorem list32 {b:List UInt8} (h:b.length=32):∃x0 x1 x2 x3 x4 x5 x6 x7 x8 x9 x10 x11 x12 x13 x14 x15 x16 x17 x18 x19 x20 x21 x22 x23 x24 x25 x26 x27 x28 x29 x30 x31,b=[x0,x1,x2,x3,x4,x5,x6,x7,x8,x9,x10,x11,x12,x13,x14,x15,x16,x17,x18,x19,x20,x21,x22,x23,x24,x25,x26,x27,x28,x29,x30,x31]:=by
  match b,h with
  | [x0,x1,x2,x3,x4,x5,x6,x7,x8,x9,x10,x11,x12,x13,x14,x15,x16,x17,x18,x19,x20,x21,x22,x23,x24,x25,x26,x27,x28,x29,x30,x31],_=>exact ⟨x0,x1,x2,x3,x4,x5,x6,x7,x8,x9,x10,x11,x12,x13,x14,x15,x16,x17,x18,x19,x20,x21,x22,x23,x24,x25,x26,x27,x28,x29,x30,x31,rfl⟩
theorem bytes_of32 {b:List UInt8} (h:b.length=32):bytesW (of32W b)=b:=by
  obtain ⟨x0,x1,x2,x3,x4,x5,x6,x7,x8,x9,x10,x11,x12,x13,x14,x15,x16,x17,x18,x19,x20,x21,x22,x23,x24,x25,x26,x27,x28,x29,x30,x31,rfl⟩:=list32 h
  rw [of32_four,bytesW_four]
  have e1:=zdG [x0,x1,x2,x3,x4,x5,x6,x7] (Nat.le_refl _)
  have e2:=zdG [x8,x9,x10,x11,x12,x13,x14,x15] (Nat.le_refl _)
  have e3:=zdG [x16,x17,x18,x19,x20,x21,x22,x23] (Nat.le_refl _)
  have e4:=zdG [x24,x25,x26,x27,x28,x29,x30,x31] (Nat.le_refl _)
  have e1:numBytes (valU [x0,x1,x2,x3,x4,x5,x6,x7]) 8=[x0,x1,x2,x3,x4,x5,x6,x7]:=e1
  have e2:numBytes (valU [x8,x9,x10,x11,x12,x13,x14,x15]) 8=[x8,x9,x10,x11,x12,x13,x14,x15]:=e2
  have e3:numBytes (valU [x16,x17,x18,x19,x20,x21,x22,x23]) 8=[x16,x17,x18,x19,x20,x21,x22,x23]:=e3
  have e4:numBytes (valU [x24,x25,x26,x27,x28,x29,x30,x31]) 8=[x24,x25,x26,x27,x28,x29,x30,x31]:=e4
  rw [e1,e2,e3,e4];rfl
theorem of32_bytes {a:Wide} (ha:a.length=4):of32W (bytesW a)=a:=by
  have hl:(bytesW a).length=32:=zdn a
  exact bytesW_inj of32_len ha (bytes_of32 hl)
theorem zfA {h:Head} (hh:HW h) (ho:hOk h=true):(headBytes h).length=176:=by
  obtain ⟨h1,h2,h3,h4,h5⟩:=hh
  unfold headBytes
  rw [if_pos ho]
  simp [putHead,h1,h2,h3,h4,zdn,zN]
theorem head_parts {h : Head} (hh : HW h) : (putHead h).take 4 = numBytes (u64OfI (IntL.toI i64T h.height)) 4 ∧ ((putHead h).drop 4).take 32 = h.prev ∧ ((putHead h).drop 36).take 32 = h.links ∧ ((putHead h).drop 68).take 32 = h.txs ∧ ((putHead h).drop 100).take 32 = h.past ∧
    ((putHead h).drop 132).take 32=bytesW h.work∧((putHead h).drop 164).take 4=numBytes (u64OfI (IntL.toI u32T h.bits)) 4∧((putHead h).drop 168).take 8=numBytes h.nonce 8:=by
  obtain ⟨h1,h2,h3,h4,h5⟩:=hh
  have l0:=zN (u64OfI (IntL.toI i64T h.height)) 4
  have l6:=zN (u64OfI (IntL.toI u32T h.bits)) 4
  have l7:=zN h.nonce 8
  have l5:=zdn h.work
  unfold putHead
  simp only [List.flatten_cons,List.flatten_nil,List.append_nil]
  generalize numBytes (u64OfI (IntL.toI i64T h.height)) 4=A at *
  generalize numBytes (u64OfI (IntL.toI u32T h.bits)) 4=F at *
  generalize numBytes h.nonce 8=G at *
  generalize bytesW h.work=E at *
  have d1:(A++(h.prev++(h.links++(h.txs++(h.past++(E++(F++G))))))).drop 4=h.prev++(h.links++(h.txs++(h.past++(E++(F++G))))):=List.drop_left' l0
  have d2:(A++(h.prev++(h.links++(h.txs++(h.past++(E++(F++G))))))).drop 36=h.links++(h.txs++(h.past++(E++(F++G)))):=by rw [show 36=4+32 from rfl,←List.drop_drop,d1];exact List.drop_left' h1
  have d3:(A++(h.prev++(h.links++(h.txs++(h.past++(E++(F++G))))))).drop 68=h.txs++(h.past++(E++(F++G))):=by rw [show 68=36+32 from rfl,←List.drop_drop,d2];exact List.drop_left' h2
  have d4:(A++(h.prev++(h.links++(h.txs++(h.past++(E++(F++G))))))).drop 100=h.past++(E++(F++G)):=by rw [show 100=68+32 from rfl,←List.drop_drop,d3];exact List.drop_left' h3
  have d5:(A++(h.prev++(h.links++(h.txs++(h.past++(E++(F++G))))))).drop 132=E++(F++G):=by rw [show 132=100+32 from rfl,←List.drop_drop,d4];exact List.drop_left' h4
  have d6:(A++(h.prev++(h.links++(h.txs++(h.past++(E++(F++G))))))).drop 164=F++G:=by rw [show 164=132+32 from rfl,←List.drop_drop,d5];exact List.drop_left' l5
  have d7:(A++(h.prev++(h.links++(h.txs++(h.past++(E++(F++G))))))).drop 168=G:=by rw [show 168=164+4 from rfl,←List.drop_drop,d6];exact List.drop_left' l6
  rw [d1,d2,d3,d4,d5,d6,d7]
  exact ⟨List.take_left' l0,List.take_left' h1,List.take_left' h2,List.take_left' h3,List.take_left' h4,List.take_left' l5,List.take_left' l6,List.take_of_length_le (Nat.le_of_eq l7)⟩
theorem val_num (n:UInt64) {s:Nat} (hs:s≤8):(valU (numBytes n s)).toNat=n.toNat%256^s:=by rw [valU_n _ (by rw [zN];exact hs),val_bytes n s hs]
theorem val_of_bytes (n:UInt64):valU (numBytes n 8)=n:=by
  apply UInt64.toNat_inj.1
  have hn:n.toNat<18446744073709551616:=n.toNat_lt
  rw [val_num n (Nat.le_refl _),show (256:Nat)^8=18446744073709551616 from rfl,Nat.mod_eq_of_lt hn]
theorem read_put {h:Head} (hh:HW h) (ho:hOk h=true):readHOk (putHead h)=true∧readHd (putHead h)=h:=by
  obtain ⟨p1,p2,p3,p4,p5,p6,p7,p8⟩:=head_parts hh
  have ho2:=hOk_iff.1 ho
  have hlen:(putHead h).length=176:=by
    have:=zfA hh ho
    unfold headBytes at this
    rwa [if_pos ho] at this
  have hv:(valU ((putHead h).take 4)).toNat=h.height.toNat:=by
    rw [p1,val_num _ (by decide),show (256:Nat)^4=4294967296 from rfl]
    have e:(u64OfI (IntL.toI i64T h.height)).toNat=h.height.toNat:=zdg (n:=h.height) ho2.1 (by omega)
    rw [e];omega
  refine ⟨?_,?_⟩
  · unfold readHOk
    rw [decide_eq_true hlen,decide_eq_true (by rw [hv];omega)];rfl
  · unfold readHd
    rw [hv,p2,p3,p4,p5,p6,p7,p8,of32_bytes hh.2.2.2.2,val_of_bytes,val_num _ (by decide)]
    have eb:(u64OfI (IntL.toI u32T h.bits)).toNat=h.bits.toNat:=by
      have:h.bits.toNat<4294967296:=h.bits.toNat_lt
      exact zdg (n:=(h.bits.toNat:Int)) (by omega) (by omega)
    have eb2:UInt32.ofNat (h.bits.toNat%256^4)=h.bits:=by
      apply UInt32.toNat_inj.1
      have:h.bits.toNat<4294967296:=h.bits.toNat_lt
      rw [show (256:Nat)^4=4294967296 from rfl,Nat.mod_eq_of_lt this,UInt32.toNat_ofNat_of_lt' this]
    have eh:((h.height.toNat:Nat):Int)=h.height:=by omega
    rw [eb,eb2,eh]
theorem num4 {b:List UInt8} (h:b.length=4):numBytes (u64OfI (IntL.toI i64T ((valU b).toNat:Int))) 4=b:=by
  have v4:=valU_n b (by omega)
  have lt4:=valN_lt b
  rw [h,show (256:Nat)^4=4294967296 from rfl] at lt4
  have e:u64OfI (IntL.toI i64T ((valU b).toNat:Int))=valU b:=by
    apply UInt64.toNat_inj.1
    exact zdg (n:=((valU b).toNat:Int)) (by omega) (by omega)
  rw [e]
  have:=zdG b (by omega)
  rwa [h] at this
theorem bits4 {b:List UInt8} (h:b.length=4):numBytes (u64OfI (IntL.toI u32T (UInt32.ofNat (valU b).toNat))) 4=b:=by
  have v4:=valU_n b (by omega)
  have lt4:=valN_lt b
  rw [h,show (256:Nat)^4=4294967296 from rfl] at lt4
  have e0:(UInt32.ofNat (valU b).toNat).toNat=(valU b).toNat:=UInt32.toNat_ofNat_of_lt' (by show _<4294967296;omega)
  have e:u64OfI (IntL.toI u32T (UInt32.ofNat (valU b).toNat))=valU b:=by
    apply UInt64.toNat_inj.1
    show (u64OfI (((UInt32.ofNat (valU b).toNat).toNat:Nat):Int)).toNat=_
    rw [e0]
    exact zdg (n:=((valU b).toNat:Int)) (by omega) (by omega)
  rw [e]
  have:=zdG b (by omega)
  rwa [h] at this
theorem num8 {b:List UInt8} (h:b.length=8):numBytes (valU b) 8=b:=by
  have:=zdG b (by omega)
  rwa [h] at this
theorem step_at (b:List UInt8) (i n:Nat):(b.drop i).take n++b.drop (i+n)=b.drop i:=by rw [←List.drop_drop,List.take_append_drop]
theorem zev {b:List UInt8} (hl:b.length=176) {i n:Nat} (h:i+n≤176):((b.drop i).take n).length=n:=by rw [List.length_take,List.length_drop];omega
theorem chunks {b:List UInt8} (hl:b.length=176):b.take 4++((b.drop 4).take 32++((b.drop 36).take 32++((b.drop 68).take 32++((b.drop 100).take 32++((b.drop 132).take 32++((b.drop 164).take 4++(b.drop 168).take 8))))))=b:=by
  have r7:(b.drop 168).take 8=b.drop 168:=List.take_of_length_le (by rw [List.length_drop];omega)
  rw [r7,step_at b 164 4,step_at b 132 32,step_at b 100 32,step_at b 68 32,step_at b 36 32,step_at b 4 32,List.take_append_drop]
theorem rd_ok {b:List UInt8} (hv:(valU (b.take 4)).toNat≤1048576):0≤(readHd b).height∧(readHd b).height≤1048576:=by
  have e:(readHd b).height=((valU (b.take 4)).toNat:Int):=by simp only [readHd]
  rw [e];omega
theorem rd_hw {b:List UInt8} (hl:b.length=176):HW (readHd b):=by
  have w:=of32_len (b:=(b.drop 132).take 32)
  have e1:(readHd b).prev=(b.drop 4).take 32:=by simp only [readHd]
  have e2:(readHd b).links=(b.drop 36).take 32:=by simp only [readHd]
  have e3:(readHd b).txs=(b.drop 68).take 32:=by simp only [readHd]
  have e4:(readHd b).past=(b.drop 100).take 32:=by simp only [readHd]
  have e5:(readHd b).work=of32W ((b.drop 132).take 32):=by simp only [readHd]
  unfold HW
  rw [e1,e2,e3,e4,e5]
  exact ⟨zev hl (i:=4) (n:=32) (by decide),zev hl (i:=36) (n:=32) (by decide),zev hl (i:=68) (n:=32) (by decide),zev hl (i:=100) (n:=32) (by decide),w⟩
theorem put_read {b:List UInt8} (h:readHOk b=true):HW (readHd b)∧hOk (readHd b)=true∧putHead (readHd b)=b:=by
  unfold readHOk at h
  rw [Bool.and_eq_true,decide_eq_true_eq,decide_eq_true_eq] at h
  obtain ⟨hl,hv⟩:=h
  have t4:(b.take 4).length=4:=by rw [List.length_take];omega
  have e1:=num4 t4
  have e6:=bits4 (zev hl (i:=164) (n:=4) (by decide))
  have e7:=num8 (zev hl (i:=168) (n:=8) (by decide))
  have e5:=bytes_of32 (zev hl (i:=132) (n:=32) (by decide))
  refine ⟨rd_hw hl,hOk_iff.2 (rd_ok hv),?_⟩
  have ep : putHead (readHd b) = numBytes (u64OfI (IntL.toI i64T ((valU (b.take 4)).toNat : Int))) 4 ++ ((b.drop 4).take 32 ++ ((b.drop 36).take 32 ++ ((b.drop 68).take 32 ++ ((b.drop 100).take 32 ++ (bytesW (of32W ((b.drop 132).take 32)) ++
      (numBytes (u64OfI (IntL.toI u32T (UInt32.ofNat (valU ((b.drop 164).take 4)).toNat))) 4++numBytes (valU ((b.drop 168).take 8)) 8)))))):=by
    simp only [putHead,readHd,List.flatten_cons,List.flatten_nil,List.append_nil]
  rw [ep,e1,e5,e6,e7]
  exact chunks hl
theorem row_ok {x:Part} (hh:HW x.h) (ho:hOk x.h=true) (hi:∀y∈x.l,y.length=32) (hl:x.l.length≤32):rowsOk (headBytes x.h::x.l)=true:=by
  unfold rowsOk
  rw [Bool.and_eq_true,decide_eq_true_eq,List.all_cons,Bool.and_eq_true,List.all_eq_true]
  refine ⟨by simp;omega,decide_eq_true (by rw [zfA hh ho];omega),fun y hy=>decide_eq_true (by rw [hi y hy];omega)⟩
theorem sum_32:∀l:List (List UInt8),(∀y∈l,y.length=32)→(l.map fun x=>2+x.length).sum=34*l.length
  | [],_=>rfl
  | x::l,h=>by
    rw [List.map_cons,List.sum_cons,sum_32 l (fun y hy=>h y (List.mem_cons_of_mem _ hy)),h x (List.mem_cons_self ..),List.length_cons];omega
theorem partRow_len {x:Part} (hh:HW x.h) (ho:hOk x.h=true) (hi:∀y∈x.l,y.length=32):(partRow x).length=179+34*x.l.length:=by
  unfold partRow
  rw [rows_len,List.map_cons,List.sum_cons,zfA hh ho,sum_32 _ hi];omega
def PW (p:Proof):Prop:=∀x∈p.p,HW x.h∧∀y∈x.l,y.length=32
theorem za5 {p:Proof} (h:sizeOk p=true):(1≤p.m∧p.m≤20∧1≤p.k∧p.k≤20∧p.p.length≤100)∧∀x∈p.p,x.l.length≤32:=by
  unfold sizeOk at h
  rw [Bool.and_eq_true,decide_eq_true_eq,List.all_eq_true] at h
  exact ⟨h.1,fun x hx=>of_decide_eq_true (h.2 x hx)⟩
theorem wOk_spec {p:Proof} (h:wOk p=true):sizeOk p=true∧∀x∈p.p,hOk x.h=true:=by
  unfold wOk at h
  rw [Bool.and_eq_true,List.all_eq_true] at h
  exact h
theorem parts_ok {p:Proof} (hw:PW p) (h:wOk p=true):rowsOk (p.p.map partRow)=true:=by
  obtain ⟨h1,h2⟩:=wOk_spec h
  obtain ⟨h3,h4⟩:=za5 h1
  unfold rowsOk
  rw [Bool.and_eq_true,decide_eq_true_eq,List.all_eq_true]
  refine ⟨by simp;omega,fun r hr=>?_⟩
  obtain ⟨x,hx,rfl⟩:=List.mem_map.1 hr
  have:=h4 x hx
  exact decide_eq_true (by rw [partRow_len (hw x hx).1 (h2 x hx) (hw x hx).2];omega)
theorem part_read {x:Part} (hh:HW x.h) (ho:hOk x.h=true) (hi:∀y∈x.l,y.length=32) (hl:x.l.length≤32):partOk (partRow x)=true∧readPart (partRow x)=x:=by
  have hs:=split_rows (row_ok hh ho hi hl)
  have eb:headBytes x.h=putHead x.h:=by unfold headBytes;rw [if_pos ho]
  obtain ⟨r1,r2⟩:=read_put hh ho
  unfold partOk readPart partRow
  rw [hs]
  simp only []
  rw [eb,r1,r2]
  refine ⟨?_,rfl⟩
  rw [Bool.true_and,Bool.true_and,List.all_eq_true]
  exact fun y hy=>decide_eq_true (hi y hy)
theorem put_get {p:Proof} (h0:0≤p.m∧p.m≤255∧0≤p.k∧p.k≤255):(((putL p).getD 0 0).toNat:Int)=p.m∧(((putL p).getD 1 0).toNat:Int)=p.k:=by
  have e0:(putL p).getD 0 0=u8OfI p.m:=rfl
  have e1:(putL p).getD 1 0=u8OfI p.k:=rfl
  rw [e0,e1,u8_nat h0.1 h0.2.1,u8_nat h0.2.2.1 h0.2.2.2]
  omega
theorem proof_back {p:Proof} (hw:PW p) (h:wOk p=true):readOk (putL p)=true∧readP (putL p)=p:=by
  obtain ⟨h1,h2⟩:=wOk_spec h
  obtain ⟨h3,h4⟩:=za5 h1
  have hs:=split_rows (parts_ok hw h)
  have hd:(putL p).drop 2=rowsL (p.p.map partRow):=rfl
  have hm:(p.p.map partRow).map readPart=p.p:=by
    rw [List.map_map]
    conv=>rhs;rw [←List.map_id p.p]
    exact List.map_congr_left fun x hx=>(part_read (hw x hx).1 (h2 x hx) (hw x hx).2 (h4 x hx)).2
  obtain ⟨g1,g2⟩:=put_get (p:=p) (by omega)
  have hr:readP (putL p)=p:=by
    unfold readP
    rw [hd,hs,g1,g2]
    show (⟨p.m,p.k,(p.p.map partRow).map readPart⟩:Proof)=p
    rw [hm]
  refine ⟨?_,hr⟩
  unfold readOk
  rw [hr,h1,hd,hs,decide_eq_true (show 2<(putL p).length by unfold putL rowsL;simp)]
  simp only [Bool.true_and,Bool.and_true]
  rw [List.all_eq_true]
  intro r hr
  obtain ⟨x,hx,rfl⟩:=List.mem_map.1 hr
  exact (part_read (hw x hx).1 (h2 x hx) (hw x hx).2 (h4 x hx)).1
theorem part_put {r:List UInt8} (h:partOk r=true):HW (readPart r).h∧hOk (readPart r).h=true∧(∀y∈(readPart r).l,y.length=32)∧partRow (readPart r)=r:=by
  unfold partOk at h
  rw [Bool.and_eq_true] at h
  obtain ⟨h1,h2⟩:=h
  obtain ⟨e1,e2⟩:=rows_split h1
  unfold readPart partRow
  match hl:(splitOf r).1 with
  | []=>rw [hl] at h2;cases h2
  | b::l =>
    rw [hl] at h2 e1
    simp only [] at h2 ⊢
    rw [Bool.and_eq_true,List.all_eq_true] at h2
    obtain ⟨p1,p2,p3⟩:=put_read h2.1
    refine ⟨p1,p2,fun y hy=>of_decide_eq_true (h2.2 y hy),?_⟩
    unfold headBytes
    rw [if_pos p2,p3,e1]
theorem back_proof {b:List UInt8} (h:readOk b=true):wOk (readP b)=true∧PW (readP b)∧putL (readP b)=b:=by
  unfold readOk at h
  rw [Bool.and_eq_true,Bool.and_eq_true,Bool.and_eq_true,decide_eq_true_eq,List.all_eq_true] at h
  obtain ⟨⟨⟨h1,h2⟩,h3⟩,h4⟩:=h
  obtain ⟨e1,e2⟩:=rows_split h2
  have hp:(readP b).p=(splitOf (b.drop 2)).1.map readPart:=rfl
  refine ⟨?_,?_,?_⟩
  · unfold wOk
    rw [h4,Bool.true_and,List.all_eq_true]
    intro x hx
    rw [hp] at hx
    obtain ⟨r,hr,rfl⟩:=List.mem_map.1 hx
    exact (part_put (h3 r hr)).2.1
  · intro x hx
    rw [hp] at hx
    obtain ⟨r,hr,rfl⟩:=List.mem_map.1 hx
    exact ⟨(part_put (h3 r hr)).1,(part_put (h3 r hr)).2.2.1⟩
  · match b,h1 with
    | m::k::t,_ =>
      have hm:((splitOf t).1.map readPart).map partRow=(splitOf t).1:=by
        rw [List.map_map]
        conv=>rhs;rw [←List.map_id (splitOf t).1]
        exact List.map_congr_left fun r hr=>(part_put (h3 r hr)).2.2.2
      show u8OfI (m.toNat:Int)::u8OfI (k.toNat:Int)::rowsL (((splitOf t).1.map readPart).map partRow)=m::k::t
      rw [u8_back,u8_back,hm]
      congr 2
    | [],h1=>simp at h1
    | [_],h1=>simp at h1
theorem rows_ahead {l m:List (List UInt8)} {z:List UInt8} (hl:rowsOk l=true) (hm:rowsOk m=true) (h:rowsL l=rowsL m++z):z=[]:=by
  have h1:=split_rows hl
  unfold rowsOk at hl hm
  rw [Bool.and_eq_true,decide_eq_true_eq] at hl hm
  unfold rowsL at h
  rw [List.cons_append] at h
  injection h with e1 e2
  have e1:=congrArg UInt8.toNat e1
  rw [u8_len hl.1,u8_len hm.1] at e1
  have p1:=zfy [] l hl.2
  have p2:=zfy z m hm.2
  rw [List.append_nil,e2,e1,p2] at p1
  exact congrArg (·.2) p1
theorem put_ahead {p q:Proof} {z:List UInt8} (hp:PW p) (hq:PW q) (h1:wOk p=true) (h2:wOk q=true) (h:putL p=putL q++z):z=[]:=by
  unfold putL at h
  rw [List.cons_append,List.cons_append] at h
  injection h with _ h
  injection h with _ h
  exact rows_ahead (parts_ok hp h1) (parts_ok hq h2) h
theorem put_len {p:Proof} (hw:PW p) (h:wOk p=true):(putL p).length=3+(p.p.map fun x=>181+34*x.l.length).sum:=by
  obtain ⟨h1,h2⟩:=wOk_spec h
  unfold putL
  rw [List.length_cons,List.length_cons,rows_len,List.map_map]
  have:p.p.map ((fun x:List UInt8=>2+x.length) ∘ partRow)=p.p.map fun x=>181+34*x.l.length:=List.map_congr_left fun x hx=>by
    show 2+(partRow x).length=_
    rw [partRow_len (hw x hx).1 (h2 x hx) (hw x hx).2];omega
  rw [this];omega
set_option maxRecDepth 20000
theorem zcW {b:List UInt8} {p size:Int} (h:size<0∨8<size∨p<0∨(b.length:Int)<p∨(b.length:Int)-p<size):getOk b p size=false:=by
  unfold getOk;apply decide_eq_false;omega
theorem getOk_yes {b:List UInt8} {p size:Int} (h1:¬size<0) (h2:¬8<size) (h3:¬p<0) (h4:¬(b.length:Int)<p) (h5:¬(b.length:Int)-p<size):getOk b p size=true:=by
  unfold getOk;apply decide_eq_true;omega
theorem getU_no {b:List UInt8} {p size:Int} (h:getOk b p size=false):getU b p size=0:=by unfold getU;rw [h];rfl
theorem getU_yes {b:List UInt8} {p size:Int} (h:getOk b p size=true):getU b p size=valU ((b.drop p.toNat).take size.toNat):=by unfold getU;rw [if_pos h]
theorem get2_le {b:List UInt8} {p:Int} (h:getOk b p 2=true):(getU b p 2).toNat≤65535:=by
  rw [getU_yes h,show (2:Int).toNat=2 from rfl]
  have hl:((b.drop p.toNat).take 2).length≤2:=by rw [List.length_take];omega
  have h2:=valU_n ((b.drop p.toNat).take 2) (by omega)
  have h3:=valN_lt ((b.drop p.toNat).take 2)
  have h4:256^((b.drop p.toNat).take 2).length≤256^2:=Nat.pow_le_pow_right (by decide) hl
  have h5:(256:Nat)^2=65536:=rfl
  omega
theorem cut_no {b:List UInt8} {p:Int} (h:cutE b p=false):cutX b p=[]∧cutP2 b p=0:=by
  unfold cutX cutP2
  rw [h];exact ⟨rfl,rfl⟩
theorem cut_yes {b:List UInt8} {p:Int} (h:cutE b p=true):cutX b p=(b.drop (p.toNat+2)).take (getU b p 2).toNat∧cutP2 b p=p+2+(getU b p 2).toNat:=by
  unfold cutX cutP2
  rw [h];exact ⟨rfl,rfl⟩
def blobR (x:List UInt8):List UInt8:=if blobOk x=true then blobL x else []
def rowsR (l:List (List UInt8)):List UInt8:=if rowsOk l=true then rowsL l else []
theorem rows_no {l:List (List UInt8)} (h:255<l.length):rowsOk l=false:=by unfold rowsOk;rw [decide_eq_false (by omega)];rfl
theorem rows_bad {l:List (List UInt8)} {k:Nat} {x:List UInt8} (hx:l[k]?=some x) (h:¬blobOk x=true):rowsOk l=false:=by
  unfold rowsOk
  rw [Bool.and_eq_false_iff];right
  rw [List.all_eq_false]
  exact ⟨x,List.mem_of_getElem? hx,h⟩
theorem rows_all {l:List (List UInt8)} {k:Nat} (h:¬255<l.length) (hb:∀x∈l.take k,blobOk x=true) (hk:l.length≤k):rowsOk l=true:=by
  rw [List.take_of_length_le hk] at hb
  unfold rowsOk
  rw [decide_eq_true (by omega),Bool.true_and,List.all_eq_true];exact hb
def rowsN (l:List (List UInt8)) (k:Nat):List UInt8:=u8OfI (IntL.toI i64T (l.length:Int))::((l.take k).map blobL).flatten
theorem rowsN_step {l:List (List UInt8)} {k:Nat} {x:List UInt8} (h:l[k]?=some x):rowsN l (k+1)=rowsN l k++blobL x:=by
  unfold rowsN
  rw [List.take_add_one,h]
  simp
theorem rowsN_all {l:List (List UInt8)} {k:Nat} (h:l.length≤k):rowsN l k=rowsL l:=by
  unfold rowsN rowsL
  rw [List.take_of_length_le h];rfl
theorem rowsN_len {l:List (List UInt8)} {k:Nat} (h:∀x∈l.take k,blobOk x=true):(rowsN l k).length≤1+k*65537:=by
  unfold rowsN
  rw [List.length_cons]
  have:∀(m:List (List UInt8)),(∀x∈m,blobOk x=true)→(m.map blobL).flatten.length≤m.length*65537:=by
    intro m
    induction m with
    | nil=>intro _;simp
    | cons x m ih =>
      intro hm
      have h1:=ih (fun y hy=>hm y (List.mem_cons_of_mem _ hy))
      have h2:=of_decide_eq_true (hm x (List.mem_cons_self ..))
      rw [List.map_cons,List.flatten_cons,List.length_append,blob_len,List.length_cons]
      omega
  have h1:=this (l.take k) h
  have h2:(l.take k).length≤k:=by rw [List.length_take];omega
  have h3:(l.take k).length*65537≤k*65537:=Nat.mul_le_mul_right _ h2
  omega
theorem cloneU8 (l:List UInt8) (hl:l.length*1≤140737488355328∧l.length≤9223372036854775807):Tells P 306 [.val (bsl u8T) l] (.fresh 5 u8T l):=by
 refine zc Tryz.func306 rfl rfl rfl (fun ext w hext=>?_)
 refine ze (d:=0) rfl zl (fun hsl0=>?_)
 refine qaq ?_;refine qaZ ?_;refine zfI rfl rfl rfl rfl rfl zbi (fun c4 hc4=>?_)
 refine CN ?_;refine zp (p:=c4=true) rfl (by simp) (fun ht4=>?_) (fun ht4=>?_)
 ·
  obtain rfl:=hc4 ht4
  refine qaq ?_;refine CN ?_
  exact za rfl rfl (zm rfl)
 ·
  refine CSQR ?_;refine zbI (T:=u8T) (xs:=[]) rfl rfl rfl rfl zav zbf trivial rfl rfl ?_;refine qav ?_;refine zB rfl rfl rfl rfl rfl rfl rfl zbf (by simpa using hl) ?_;refine qbq ?_
  exact za rfl rfl (zg rfl rfl (by simp))
theorem binGet_ok (b:List UInt8) (p size:Int):Tells P 204 [.val (bsl u8T) b,.val i64T p,.val i64T size] (.tup2 (.val u64T (getU b p size)) (.val boolT (getOk b p size))):=by
 refine zc Tryz.func204 rfl rfl rfl (fun ext w hext=>?_)
 refine ze (d:=0) rfl zl (fun hsl0=>?_)
 refine ze (d:=1) rfl zn (fun hin1=>?_)
 refine ze (d:=2) rfl zn (fun hin2=>?_)
 refine CQR ?_;refine A0 aV ?_;refine qaj ?_;refine A0 zbF ?_;refine Sp (d:=12) (p:=size<0) (fun g12=>?_) (fun g12=>?_)
 ·
  refine qav ?_;refine qaE ?_;refine qag ?_;refine A2 ?_;refine qaz ?_;refine qaM ?_;refine qab ?_;refine qas ?_;refine Ct ?_;refine CQR ?_;refine qbt ?_
  exact zZ rfl rfl (zb rfl ((getU_no (zcW (.inl g12))).symm)) (zb rfl ((zcW (.inl g12)).symm))
 ·
  refine qbp ?_;refine A1 zaG ?_;refine Sp (d:=15) (p:=8<size) (fun g15=>?_) (fun g15=>?_)
  ·
   refine qag ?_;refine A2 ?_;refine qaz ?_;refine qaM ?_;refine qab ?_;refine qas ?_;refine Ct ?_;refine CQR ?_;refine qbt ?_
   exact zZ rfl rfl (zb rfl ((getU_no (zcW (.inr (.inl g15)))).symm)) (zb rfl ((zcW (.inr (.inl g15))).symm))
  ·
   refine qbv ?_;refine A1 zbF ?_;refine Sp (d:=19) (p:=p<0) (fun g19=>?_) (fun g19=>?_)
   ·
    refine qaM ?_;refine A2 ?_;refine qaM ?_;refine qab ?_;refine qas ?_;refine Ct ?_;refine CQR ?_;refine qbt ?_
    exact zZ rfl rfl (zb rfl ((getU_no (zcW (.inr (.inr (.inl g19))))).symm)) (zb rfl ((zcW (.inr (.inr (.inl g19)))).symm))
   ·
    refine qag ?_;refine qaG ?_;refine A1 (zK rfl rfl zbi) ?_;refine A1 zaG ?_;refine Sp (d:=25) (p:=(b.length:Int)<p) (fun g25=>?_) (fun g25=>?_)
    ·
     refine qaM ?_;refine qab ?_;refine qas ?_;refine Ct ?_;refine CQR ?_;refine qbt ?_
     exact zZ rfl rfl (zb rfl ((getU_no (zcW (.inr (.inr (.inr (.inl g25)))))).symm)) (zb rfl ((zcW (.inr (.inr (.inr (.inl g25))))).symm))
    ·
     refine qag ?_;refine qaG ?_;refine A1 (zK rfl rfl zbi) ?_;refine A1 mV ?_;refine A1 zaL ?_;refine A1 zaG ?_;refine qas ?_;refine Cf (p:=(b.length:Int)-p<size) (fun ht34=>?_) (fun ht34=>?_)
     ·
      refine CQR ?_;refine qbt ?_
      exact zZ rfl rfl (zb rfl ((getU_no (zcW (.inr (.inr (.inr (.inr ht34)))))).symm)) (zb rfl ((zcW (.inr (.inr (.inr (.inr ht34))))).symm))
     ·
      have hok:=getOk_yes g12 g15 g19 g25 ht34
      obtain ⟨M,hM⟩:∃M,M=(b.drop p.toNat).take size.toNat:=⟨_,rfl⟩
      have hml:M.length=size.toNat:=by rw [hM,List.length_take,List.length_drop];omega
      refine CSQR ?_;refine qaj ?_;refine qal ?_;refine qbd ?_;refine A0 (g_sl_lh rfl rfl rfl rfl zav (by first|assumption|omega|(simp;omega))) ?_;refine zi (d:=40) (y:=M) rfl (by rw [hM,List.drop_take];congr 1;omega) ?_;refine qbM ?_;refine qaA ?_;refine Lp (ι:=Nat) 0 (fun (k:Nat)=>((((Fr.none).set 8 (.val u64T (valU (M.take k)))).set 40 (.val (bsl u8T) M)).set 41 (.val i64T (M.length:Int))).set 42 (.val i64T (k:Int))) (fun (k:Nat)=>Hp.none) (fun (k:Nat)=>k≤M.length) (fun (k:Nat)=>M.length-k) (0) (Nat.zero_le _) ?_
      intro k hinv
      refine qak ?_;refine Cf (p:=k<M.length) (fun ht43=>?_) (fun ht43=>?_)
      ·
       obtain ⟨x,hx⟩:∃x,M[k]?=some x:=⟨_,List.getElem?_eq_getElem ht43⟩
       refine CSQBQR ?_;refine A0 (zo (i:=k) rfl rfl rfl (by omega) zav (by assumption)) ?_;refine A0 (zf rfl rfl ty_5) ?_;refine A0 aX ?_;refine CNR ?_;refine qav ?_;refine A0 (g_shl64 rfl rfl rfl (by first|decide|(simp [IntL.toI];done)|(simp [IntL.toI];omega)) rfl) ?_;refine A0 mX ?_;refine A0 (zd3 rfl (ui_47) (us_5) rfl) ?_;refine A0 (g_or64 rfl rfl rfl) ?_;refine A0 aV ?_;refine qaW ?_;refine zi (d:=8) (y:=valU (M.take (k+1))) rfl (by rw [List.take_add_one,hx];show _=valU (M.take k++[x]);rw [valU_snoc];rfl) ?_
       exact Nx (k+1) (by omega) (by omega)
      ·
       refine CE ?_;refine qa2 ?_;refine qbt ?_
       exact zZ rfl rfl (zb rfl (by rw [getU_yes hok,List.take_of_length_le (by omega),hM])) (zb rfl (hok.symm))
theorem binBlob_ok (x:List UInt8):Tells P 202 [.val (bsl u8T) x] (.tup2 (.fresh 5 u8T (blobR x)) (.val boolT (blobOk x))):=by
 refine zc Tryz.func202 rfl rfl rfl (fun ext w hext=>?_)
 refine ze (d:=0) rfl zl (fun hsl0=>?_)
 refine qaq ?_;refine qaj ?_;refine qbM ?_;refine A0 zaG ?_;refine CN ?_;refine Cf (p:=65535<x.length) (fun ht6=>?_) (fun ht6=>?_)
 ·
  refine qbg ?_
  exact zZ rfl rfl (by rw [show blobR x=[] by unfold blobR blobOk;rw [if_neg (by rw [decide_eq_true_eq];omega)]];exact zm rfl) (zb rfl (by unfold blobOk;symm;apply decide_eq_false;omega))
 ·
  have hbo:blobOk x=true:=decide_eq_true (by omega)
  have hn:=zN (u64OfI (IntL.toI i64T (x.length:Int))) 2
  refine qb4 ?_;refine qbM ?_;refine A0 (zd3 rfl (ui_47) (us_3) rfl) ?_;refine A0 (oCl (zq (zfi _ 2 (by decide))) rfl fn_144 ⟨(zd rfl),(zd rfl),trivial⟩) ?_;refine aw_lend (S:=bsl u8T) (d:=10) rfl ?_;refine qav ?_;refine A0 (zu (T:=(bsl u8T)) (xs:=[_,_]) rfl ze5 zdZ ⟨rfl,rfl,rfl,rfl,trivial⟩ rfl rfl) ?_;refine zaC (zfe [numBytes (u64OfI (IntL.toI i64T (x.length:Int))) 2,x] (by simp [hn];omega)) rfl fn_143 ⟨(zd rfl),trivial⟩ rfl rfl rfl ?_;refine qbW ?_
  exact zZ rfl rfl (zg rfl rfl (by unfold blobR;rw [if_pos hbo];unfold blobL;simp [IntL.toI])) (zb rfl (hbo.symm))
theorem binCut_ok (b:List UInt8) (p:Int) (hb:b.length≤1000000000):Tells P 262 [.val (bsl u8T) b,.val i64T p] (.tup3 (.fresh 5 u8T (cutX b p)) (.val i64T (cutP2 b p)) (.val boolT (cutE b p))):=by
 have hu:=get2_le (b:=b) (p:=p)
 refine zc Tryz.func262 rfl rfl rfl (fun ext w hext=>?_)
 refine ze (d:=0) rfl zl (fun hsl0=>?_)
 refine ze (d:=1) rfl zn (fun hin1=>?_)
 refine qaq ?_;refine qbz ?_;refine qav ?_;refine A0 (oCl (binGet_ok b p 2) rfl fn_204 ⟨(zd rfl),(zd rfl),(zd rfl),trivial⟩) ?_;refine A0 mX ?_;refine A0 (by first|exact zO rfl rfl|exact zM rfl rfl) ?_;refine A0 (by first|exact zR rfl rfl|exact zQ rfl rfl) ?_;refine A0 aV ?_;refine qaj ?_;refine A0 oN ?_;refine zI (d:=18) (p:=getOk b p 2=false) rfl (by cases getOk b p 2<;>rfl) (fun g18=>?_) (fun g18=>?_)
 ·
  have hcn:cutE b p=false:=by unfold cutE;rw [g18];rfl
  refine qby ?_;refine qab ?_;refine qaE ?_;refine qas ?_;refine Ct ?_;refine qaq ?_;refine qbt ?_
  exact zdU rfl rfl (by rw [(cut_no hcn).1];exact zm rfl) (zb rfl (by rw [(cut_no hcn).2])) (zb rfl hcn.symm)
 ·
  have hg:getOk b p 2=true:=by simpa using g18
  have hu2:=hu hg
  have hgs:0≤p∧p≤b.length∧2≤(b.length:Int)-p:=by have h:=hg;unfold getOk at h;rw [decide_eq_true_eq] at h;omega
  have hti:IntL.toI u64T (getU b p 2)=((getU b p 2).toNat:Int):=rfl
  refine qbp ?_;refine A1 (zeV rfl (ui_3) (us_47) rfl (by first|exact zae (by omega)|rfl)) ?_;refine A1 mV ?_;refine A1 (zK rfl rfl zbi) ?_;refine A1 mV ?_;refine A1 zaL ?_;refine A1 zaL ?_;refine A1 zaG ?_;refine qas ?_;refine Cf (p:=(b.length:Int)-p-2<((getU b p 2).toNat:Int)) (fun ht28=>?_) (fun ht28=>?_)
  ·
   have hcn:cutE b p=false:=by unfold cutE;rw [hg,Bool.true_and,decide_eq_false_iff_not];omega
   refine qaq ?_;refine qbt ?_
   exact zdU rfl rfl (by rw [(cut_no hcn).1];exact zm rfl) (zb rfl (by rw [(cut_no hcn).2])) (zb rfl hcn.symm)
  ·
   have hce:cutE b p=true:=by unfold cutE;rw [hg,Bool.true_and,decide_eq_true_eq];omega
   refine CSQR ?_;refine qbd ?_;refine qbd ?_;refine qav ?_;refine A0 (zeV rfl (ui_3) (us_47) rfl (by first|exact zae (by omega)|rfl)) ?_;refine A0 zbJ ?_;refine qbz ?_;refine qal ?_;refine qav ?_;refine A0 (g_sl_lhm rfl rfl rfl rfl rfl zav (by first|assumption|omega|(simp;omega))) ?_;refine zi (d:=40) (y:=cutX b p) rfl (by rw [(cut_yes hce).1,List.drop_take];congr 1<;>first|omega|(congr 1;omega)) ?_
   have hcl:(cutX b p).length≤b.length:=by rw [(cut_yes hce).1,List.length_take,List.length_drop];omega
   refine zaC (cloneU8 (cutX b p) (by constructor<;>omega)) rfl fn_306 ⟨(zd rfl),trivial⟩ rfl rfl rfl ?_;refine qav ?_;refine A0 aO ?_;refine qbt ?_
   exact zdU rfl rfl (zg rfl rfl (by simp)) (zb rfl (by rw [(cut_yes hce).2,hti])) (zb rfl hce.symm)
theorem binRows_ok (l:List (List UInt8)):Tells P 145 [.val (bsl (bsl u8T)) l] (.tup2 (.fresh 5 u8T (rowsR l)) (.val boolT (rowsOk l))):=by
 refine zc Tryz.func145 rfl rfl rfl (fun ext w hext=>?_)
 refine ze (d:=0) rfl zl (fun hsl0=>?_)
 refine qaq ?_;refine qaj ?_;refine A0 (zK rfl rfl isl_89) ?_;refine A0 zaG ?_;refine CN ?_;refine Cf (p:=255<l.length) (fun ht11=>?_) (fun ht11=>?_)
 ·
  refine qbg ?_
  exact zZ rfl rfl (by rw [show rowsR l=[] by unfold rowsR;rw [if_neg (by rw [rows_no ht11];decide)]];exact zm rfl) (zb rfl ((rows_no ht11).symm))
 ·
  refine qb4 ?_;refine A0 (zK rfl rfl isl_89) ?_;refine A0 (zeW rfl (ui_5) (us_3) rfl) ?_;refine zbI (T:=u8T) (xs:=[_]) rfl rfl rfl rfl zav zbf ⟨rfl,rfl,trivial⟩ rfl rfl ?_;refine A0 aO ?_;refine qaZ ?_;refine A0 (zK rfl rfl isl_89) ?_;refine qaA ?_;refine zz (n:=0) (y:=rowsN l 0) rfl (by rfl) ?_
  refine Lp (ι:=Nat) 1 (fun (k:Nat)=>(((((Fr.none).set 0 (.val (bsl (bsl u8T)) l)).set 4 (.own 0)).set 16 (.val (bsl (bsl u8T)) l)).set 17 (.val i64T (l.length:Int))).set 18 (.val i64T (k:Int))) (fun (k:Nat)=>(Hp.none).set 0 (.row 5 u8T (rowsN l k))) (fun (k:Nat)=>k≤l.length∧∀x∈l.take k,blobOk x=true) (fun (k:Nat)=>l.length-k) (0) (⟨Nat.zero_le _,fun x hx=>by simp at hx⟩) ?_
  intro k hinv
  refine qak ?_;refine Cf (p:=k<l.length) (fun ht19=>?_) (fun ht19=>?_)
  ·
   obtain ⟨x,hx⟩:∃x,l[k]?=some x:=⟨_,List.getElem?_eq_getElem ht19⟩
   have hnl:=rowsN_len hinv.2
   refine CSQBQR ?_;refine A0 (zo (i:=k) rfl rfl rfl (by omega) ze5 (by assumption)) ?_;refine A0 (zf rfl rfl zdu) ?_;refine qaV ?_;refine A0 (oCl (zce (binBlob_ok x)) rfl fn_202 ⟨(by first|exact zy rfl|exact zW rfl|exact zF rfl rfl|exact zU rfl|exact zs rfl|exact zag rfl rfl|exact zV rfl),trivial⟩) ?_;refine A0 mX ?_;refine A0 (by first|exact zO rfl rfl|exact zM rfl rfl) ?_;refine A0 (by first|exact zR rfl rfl|exact zQ rfl rfl) ?_;refine A0 aV ?_;refine qaj ?_;refine qaR ?_
   refine zp (p:=¬blobOk x=true) rfl (by cases blobOk x<;>rfl) (fun ht28=>?_) (fun ht28=>?_)
   ·
    refine qbg ?_
    exact zZ rfl rfl (by rw [show rowsR l=[] by unfold rowsR;rw [if_neg (by rw [rows_bad hx ht28];decide)]];exact zm rfl) (zb rfl ((rows_bad hx ht28).symm))
   ·
    have hbo:blobOk x=true:=Classical.not_not.1 ht28
    have hbr:blobR x=blobL x:=by unfold blobR;rw [if_pos hbo]
    have hbx:=of_decide_eq_true hbo
    have hbl:=blob_len x
    refine CS ?_;refine CR ?_;refine A0 mO ?_;refine qav ?_;refine zB rfl rfl rfl rfl rfl rfl rfl zbf (by rw [hbr];simp;omega) ?_;refine qbU ?_;refine zaH 1 0 2 rfl rfl rfl rfl rfl rfl ?_;refine zz (n:=0) (y:=rowsN l (k+1)) rfl (by rw [hbr,rowsN_step hx]) ?_
    exact Nx (k+1) (⟨by omega,fun y hy=>by rw [List.take_add_one,hx] at hy;rcases List.mem_append.1 hy with h|h;exact hinv.2 y h;simp at h;rw [h];exact hbo⟩) (by omega)
  ·
   refine CE ?_;refine qbA ?_;refine qbW ?_
   exact zZ rfl rfl (zg rfl rfl (by unfold rowsR;rw [rows_all ht11 hinv.2 (by omega),if_pos rfl];exact rowsN_all (by omega))) (zb rfl ((rows_all ht11 hinv.2 (by omega)).symm))
set_option maxRecDepth 20000
theorem ret_fnil {J:Job} {hp:Hp} {X:AV} {e:Nat} {α:Type} {T:GoT α} {l:List α} (h:X = .lit (.slice none 0 0)) (el:l=[]):RetOk J hp X (.fresh e T l):=by subst el;exact zm h
theorem zn_rows:ZeroAt P 89 nilT ():=ze0 zero_nil (by kernel_rfl)
theorem drop_two {b:List UInt8} {p:Nat} (h:p+2≤b.length):∃a c r,b.drop p=a::c::r∧r=b.drop (p+2):=by
  obtain ⟨a,ha⟩:∃a,b[p]?=some a:=⟨_,List.getElem?_eq_getElem (by omega)⟩
  obtain ⟨c,hc⟩:∃c,b[p+1]?=some c:=⟨_,List.getElem?_eq_getElem (by omega)⟩
  refine ⟨a,c,b.drop (p+2),?_,rfl⟩
  have h1:b.drop p=a::b.drop (p+1):=by
    obtain ⟨h1,e⟩:=List.getElem?_eq_some_iff.1 ha
    rw [List.drop_eq_getElem_cons h1,e]
  have h2:b.drop (p+1)=c::b.drop (p+2):=by
    obtain ⟨h1,e⟩:=List.getElem?_eq_some_iff.1 hc
    rw [List.drop_eq_getElem_cons h1,e]
  rw [h1,h2]
theorem cut_drop {b:List UInt8} {p:Nat} (hp:p≤b.length):cutN (b.drop p)=if cutE b p=true then some (cutX b p,b.drop (cutP2 b p).toNat) else none:=by
  by_cases h2:p+2≤b.length
  · obtain ⟨a,c,r,e,er⟩:=drop_two h2
    have hg:getOk b p 2=true:=by unfold getOk;rw [decide_eq_true_eq];omega
    have hu:(getU b p 2).toNat=256*a.toNat+c.toNat:=by
      rw [getU_yes hg]
      have e1:(b.drop (p:Int).toNat).take (2:Int).toNat=[a,c]:=by
        rw [show ((p:Int)).toNat=p by omega,show (2:Int).toNat=2 from rfl,e];rfl
      rw [e1,valU_n [a,c] (by simp)]
      show 256*(256*0+a.toNat)+c.toNat=_
      omega
    have hrl:r.length=b.length-(p+2):=by rw [er,List.length_drop]
    rw [e,cutN]
    by_cases h3:256*a.toNat+c.toNat≤r.length
    · have hce : cutE b p = true := by
        unfold cutE
        rw [hg,Bool.true_and,decide_eq_true_eq,hu];omega
      obtain ⟨c1,c2⟩:=cut_yes hce
      rw [if_pos h3,if_pos hce,c1,c2,hu,show ((p:Int)).toNat=p by omega,←er]
      congr 2
      rw [er,List.drop_drop]
      congr 1
    · have hce : ¬ cutE b p = true := by
        unfold cutE
        rw [hg,Bool.true_and,decide_eq_true_eq,hu];omega
      rw [if_neg h3,if_neg hce]
  · have hg:getOk b p 2=false:=zcW (by omega)
    have hce:¬cutE b p=true:=by unfold cutE;rw [hg];simp
    rw [if_neg hce]
    match hd:b.drop p with
    | []=>rfl
    | [_]=>rfl
    | _::_::r =>
      have:=congrArg List.length hd
      rw [List.length_drop] at this
      simp at this;omega
structure SplitAt (b:List UInt8) (N:Nat) (p:Nat) (out:List (List UInt8)):Prop where
  p1:1≤p
  p2:p≤b.length
  n:out.length≤N
  l:(pieces N (b.drop 1)).1=out++(pieces (N-out.length) (b.drop p)).1
  z:(pieces N (b.drop 1)).2=(pieces (N-out.length) (b.drop p)).2
theorem split_start {b:List UInt8} {N:Nat} (h:1≤b.length):SplitAt b N 1 []:=⟨Nat.le_refl _,h,Nat.zero_le _,rfl,rfl⟩
theorem cut_next {b:List UInt8} {p:Nat} (hp:p≤b.length) (hc:cutE b p=true):∃q:Nat,cutP2 b p=(q:Int)∧p<q∧q≤b.length∧(cutX b p).length≤65535:=by
  have hg:getOk b p 2=true:=by
    unfold cutE at hc
    rw [Bool.and_eq_true] at hc;exact hc.1
  have hu:=get2_le hg
  have hgs:=hg
  unfold getOk at hgs
  rw [decide_eq_true_eq] at hgs
  have h2:=hc
  unfold cutE at h2
  rw [Bool.and_eq_true,decide_eq_true_eq] at h2
  obtain ⟨c1,c2⟩:=cut_yes hc
  refine ⟨p+2+(getU b p 2).toNat,by rw [c2];omega,by omega,by omega,?_⟩
  rw [c1,List.length_take];omega
theorem split_go {b:List UInt8} {N p:Nat} {out:List (List UInt8)} (h:SplitAt b N p out) (hc:cutE b p=true) (hn:¬out.length=N):SplitAt b N (cutP2 b p).toNat (out++[cutX b p]):=by
  obtain ⟨q,hq,h1,h2,_⟩:=cut_next h.p2 hc
  have hN:N-out.length=(N-(out++[cutX b p]).length)+1:=by
    have:=h.n
    rw [List.length_append,List.length_singleton];omega
  have hp:pieces (N-out.length) (b.drop p)=(cutX b p::(pieces (N-(out++[cutX b p]).length) (b.drop (cutP2 b p).toNat)).1,(pieces (N-(out++[cutX b p]).length) (b.drop (cutP2 b p).toNat)).2):=by
    rw [hN,pieces,cut_drop h.p2,if_pos hc]
  have hp1:=h.p1
  have hnn:=h.n
  refine ⟨by rw [hq];omega,by rw [hq];omega,by rw [List.length_append,List.length_singleton];omega,?_,?_⟩
  · rw [h.l,hp,List.append_assoc];rfl
  · rw [h.z,hp]
theorem zbl {b:List UInt8} {N p:Nat} {out:List (List UInt8)} (h:SplitAt b N p out) (hc:cutE b p=false∨out.length=N):pieces N (b.drop 1)=(out,b.drop p):=by
  have hp:pieces (N-out.length) (b.drop p)=([],b.drop p):=by
    by_cases e:out.length=N
    · rw [show N-out.length=0 by omega];rfl
    · have hn:=h.n
      rw [show N-out.length=(N-out.length-1)+1 by omega,pieces,cut_drop h.p2,if_neg (by rw [hc.resolve_right e];decide)]
  have h1:=h.l
  have h2:=h.z
  rw [hp] at h1 h2
  rw [List.append_nil] at h1
  exact Prod.ext h1 h2
theorem zbm {b:List UInt8} {n0:UInt8} {p:Nat} {out:List (List UInt8)} (h0:b[0]?=some n0) (h:pieces n0.toNat (b.drop 1)=(out,b.drop p)):splitOf b=if out.length=n0.toNat∧b.drop p=[] then (out,true) else ([],false):=by
  match b,h0 with
  | n::r,h0 =>
    have e:n=n0:=by simpa using h0
    subst e
    have h:pieces n.toNat r=(out,(n::r).drop p):=h
    unfold splitOf
    simp only []
    rw [h]
theorem binSplit_ok (b:List UInt8) (hb:b.length≤1000000000):Tells P 147 [.val (bsl u8T) b] (.tup2 (.fresh 26 (sl u8T) (splitOf b).1) (.val boolT (splitOf b).2)):=by
 refine zc Tryz.func147 rfl rfl rfl (fun ext w hext=>?_)
 refine ze (d:=0) rfl zl (fun hsl0=>?_)
 refine qbV ?_;refine A0 aV ?_;refine CNQQR ?_;refine A0 (oLs rfl rfl rfl zdu) ?_;refine qbM ?_;refine A0 zaW ?_;refine CN ?_;refine zp (p:=b.length=0) rfl (by simp [IntL.toI]) (fun ht10=>?_) (fun ht10=>?_)
 ·
  refine qbg ?_
  exact zZ rfl rfl (by rw [List.length_eq_zero_iff.1 ht10];exact zm rfl) (zb rfl (by rw [List.length_eq_zero_iff.1 ht10];rfl))
 ·
  obtain ⟨n0,hn0⟩:∃n0,b[0]?=some n0:=⟨_,List.getElem?_eq_getElem (by omega)⟩
  have hn8:n0.toNat<256:=n0.toNat_lt
  have hti8:IntL.toI u8T n0=(n0.toNat:Int):=rfl
  refine CSQR ?_;refine zw zn_rows rfl rfl rfl rfl ?_;refine CN ?_;refine aw_nilbox 1 26 (sl u8T) rfl ?_;refine CQR ?_;refine zw ze_3 rfl rfl rfl rfl ?_;refine zh rfl rfl rfl rfl rfl (Lens.self _) ty_3 rfl ?_;refine CNQQR ?_;refine A0 (oLs rfl rfl rfl zdu) ?_;refine z6 rfl rfl rfl rfl Tryz.func203 fn_203 rfl rfl (fun ia2 iok2=>?_)
  refine qbV ?_;refine CNQR ?_;refine A0 (g_mkf (caps:=[_]) rfl rfl) ?_;refine A0 aC ?_;refine CN ?_;refine zaX rfl ?_;refine CNB ?_;refine aw_range rfl rfl rfl Tryz.func261 fn_261 rfl rfl (by intro n hn;simp only [List.mem_cons,List.not_mem_nil,or_false] at hn;rcases hn with rfl<;>rfl) (fun fid3 ca3 lN3 DN3 cok3 rc3 hrc3=>?_)
  refine CQR ?_;refine A0 aV ?_;refine CNB ?_;refine zaH 2 7 8 rfl rfl rfl rfl rfl rfl ?_
  refine Lp (ι:=Nat×List (List UInt8)) 8 (fun (i:Nat×List (List UInt8))=>match i with|(p,out)=>(((Fr.none).set 0 (.lit (.func (.yield lN3) #[] #[]))).set 1 (.ptr 4 0)).set 3 (.val i64T (p:Int))) (fun (i:Nat×List (List UInt8))=>match i with|(p,out)=>(((((((Hp.none).set 0 (.box 26 (bsl u8T) b)).set 1 (.parts 89 [.own 7])).set 3 (.box 3 i64T (p:Int))).set 4 (.box 26 (bsl u8T) b)).set 7 (.row 26 (sl u8T) out)).set 5 (.objAt DN3 (.deferred (some [])))).set 6 (.objAt lN3 (rc3 .ready none))) (fun (i:Nat×List (List UInt8))=>match i with|(p,out)=>SplitAt b n0.toNat p out) (fun (i:Nat×List (List UInt8))=>match i with|(p,out)=>b.length-p) ((1,[])) (split_start (by omega)) ?_
  intro ⟨p,out⟩ hinv
  dsimp only at hinv
  refine CB ?_;refine CQR ?_;refine A0 (oLs rfl rfl rfl zdu) ?_;refine qav ?_;refine A0 (oCl (tells_pub3 (binCut_ok b p hb)) rfl fn_262 ⟨(zd rfl),(zd rfl),trivial⟩) ?_;refine A0 mX ?_;refine A0 (by first|exact zO rfl rfl|exact zM rfl rfl) ?_;refine A0 (by first|exact zR rfl rfl|exact zQ rfl rfl) ?_;refine A0 e32 ?_;refine A0 aV ?_;refine A0 aV ?_;refine qaj ?_;refine A0 oN ?_;refine zI (d:=15) (p:=cutE b p=false) rfl (by cases cutE b p<;>rfl) (fun g15=>?_) (fun g15=>?_)
  ·
   refine qby ?_;refine qaE ?_;refine qas ?_;refine Ct ?_;refine aw_iter_ret (nL:=6) rfl hrc3 rfl (by decide) ?_;refine CI ?_;refine CQ ?_;refine qaU ?_;refine G0 (by first|exact zr rfl rfl rfl rfl rfl ty_89|exact za7 rfl rfl rfl rfl ty_89) ?_;refine G0 (zak rfl rfl rfl isl_89) ?_;refine G0 (oLs rfl rfl rfl zdu) ?_;refine G0 (zo (i:=0) rfl rfl rfl (by omega) zav (by assumption)) ?_;refine G0 (zf rfl rfl ty_5) ?_;refine G0 (zeV rfl (ui_3) (us_5) rfl (by first|exact zae (by omega)|rfl)) ?_;refine G0 zch ?_
   refine zT (d:=33) (p:=¬out.length=n0.toNat) rfl (by rw [←decide_not,decide_eq_decide,hti8];simp only [IntL.toI,id_eq];omega) (fun g33=>?_) (fun g33=>?_)
   ·
    refine G0 mV ?_;refine qan ?_;refine G2 ?_;refine qa4 ?_;refine Ct ?_;refine qbg ?_;refine zas (zb9 (nD:=5) rfl rfl rfl ?_)
    exact ar_ret2 rfl rfl (ret_fnil rfl (by rw [zbm hn0 (zbl hinv (.inl g15)),if_neg (fun h=>g33 h.1)])) (zb rfl (by rw [zbm hn0 (zbl hinv (.inl g15)),if_neg (fun h=>g33 h.1)]))
   ·
    refine G0 mV ?_;refine G1 (oLs rfl rfl rfl ty_3) ?_;refine G1 (oLs rfl rfl rfl zdu) ?_;refine G1 (zK rfl rfl zbi) ?_;refine G1 zch ?_;refine qa4 ?_;refine zp (p:=¬p=b.length) rfl (by simp [IntL.toI];omega) (fun ht39=>?_) (fun ht39=>?_)
    ·
     refine qbg ?_;refine zas (zb9 (nD:=5) rfl rfl rfl ?_)
     exact ar_ret2 rfl rfl (ret_fnil rfl (by rw [zbm hn0 (zbl hinv (.inl g15)),if_neg (fun h=>ht39 (by have:=List.drop_eq_nil_iff.1 h.2;have:=hinv.p2;omega))])) (zb rfl (by rw [zbm hn0 (zbl hinv (.inl g15)),if_neg (fun h=>ht39 (by have:=List.drop_eq_nil_iff.1 h.2;have:=hinv.p2;omega))]))
    ·
     refine CSQR ?_;refine A0 (by first|exact zr rfl rfl rfl rfl rfl ty_89|exact za7 rfl rfl rfl rfl ty_89) ?_;refine qbW ?_;refine zas (zb9 (nD:=5) rfl rfl rfl ?_)
     exact ar_ret2 rfl rfl (zg rfl rfl (by rw [zbm hn0 (zbl hinv (.inl g15)),if_pos (⟨Classical.not_not.1 g33,List.drop_eq_nil_iff.2 (by have:=Classical.not_not.1 ht39;omega)⟩)])) (zb rfl (by rw [zbm hn0 (zbl hinv (.inl g15)),if_pos (⟨Classical.not_not.1 g33,List.drop_eq_nil_iff.2 (by have:=Classical.not_not.1 ht39;omega)⟩)]))
  ·
   have hce:cutE b p=true:=by simpa using g15
   obtain ⟨q,hq,hpq,hqb,hxl⟩:=cut_next hinv.p2 hce
   have hol:=hinv.n
   refine qav ?_;refine A1 mL ?_;refine qaG ?_;refine aw_unguard rfl rfl rfl rfl rfl rfl ?_;refine aw_yield (nL:=6) rfl rfl rfl rfl rfl hrc3 rfl rfl rfl (fun ya4 yok4=>?_)
   refine CQR ?_;refine qbN ?_;refine qac ?_;refine aw_begin (nL:=6) hrc3 rfl ?_;refine CB ?_;refine CQ ?_;refine qaU ?_;refine G0 (by first|exact zr rfl rfl rfl rfl rfl ty_89|exact za7 rfl rfl rfl rfl ty_89) ?_;refine G0 (zak rfl rfl rfl isl_89) ?_;refine G0 (oLs rfl rfl rfl zdu) ?_;refine G0 (zo (i:=0) rfl rfl rfl (by omega) zav (by assumption)) ?_;refine G0 (zf rfl rfl ty_5) ?_;refine G0 (zeV rfl (ui_3) (us_5) rfl (by first|exact zae (by omega)|rfl)) ?_;refine G0 zaW ?_;refine GK.nil ?_;refine Cf (p:=out.length=n0.toNat) (fun ht21=>?_) (fun ht21=>?_)
   ·
    refine aw_round_exit (nL:=6) rfl hrc3 rfl ?_;refine A1 oN ?_;refine qas ?_;refine Ct ?_;refine aw_iter_ret (nL:=6) rfl hrc3 rfl (by decide) ?_;refine CE ?_;refine CQ ?_;refine qaU ?_;refine G0 (by first|exact zr rfl rfl rfl rfl rfl ty_89|exact za7 rfl rfl rfl rfl ty_89) ?_;refine G0 (zak rfl rfl rfl isl_89) ?_;refine G0 (oLs rfl rfl rfl zdu) ?_;refine G0 (zo (i:=0) rfl rfl rfl (by omega) zav (by assumption)) ?_;refine G0 (zf rfl rfl ty_5) ?_;refine G0 (zeV rfl (ui_3) (us_5) rfl (by first|exact zae (by omega)|rfl)) ?_;refine G0 zch ?_
    refine zT (d:=33) (p:=¬out.length=n0.toNat) rfl (by rw [←decide_not,decide_eq_decide,hti8];simp only [IntL.toI,id_eq];omega) (fun g33=>?_) (fun g33=>?_)
    ·
     refine G0 mV ?_;refine qan ?_;refine G2 ?_;refine qa4 ?_;refine Ct ?_;refine qbg ?_;refine zas (zb9 (nD:=5) rfl rfl rfl ?_)
     exact ar_ret2 rfl rfl (ret_fnil rfl (by rw [zbm hn0 (zbl hinv (.inr ht21)),if_neg (fun h=>g33 h.1)])) (zb rfl (by rw [zbm hn0 (zbl hinv (.inr ht21)),if_neg (fun h=>g33 h.1)]))
    ·
     refine G0 mV ?_;refine G1 (oLs rfl rfl rfl ty_3) ?_;refine G1 (oLs rfl rfl rfl zdu) ?_;refine G1 (zK rfl rfl zbi) ?_;refine G1 zch ?_;refine qa4 ?_;refine zp (p:=¬p=b.length) rfl (by simp [IntL.toI];omega) (fun ht39=>?_) (fun ht39=>?_)
     ·
      refine qbg ?_;refine zas (zb9 (nD:=5) rfl rfl rfl ?_)
      exact ar_ret2 rfl rfl (ret_fnil rfl (by rw [zbm hn0 (zbl hinv (.inr ht21)),if_neg (fun h=>ht39 (by have:=List.drop_eq_nil_iff.1 h.2;have:=hinv.p2;omega))])) (zb rfl (by rw [zbm hn0 (zbl hinv (.inr ht21)),if_neg (fun h=>ht39 (by have:=List.drop_eq_nil_iff.1 h.2;have:=hinv.p2;omega))]))
     ·
      refine CSQR ?_;refine A0 (by first|exact zr rfl rfl rfl rfl rfl ty_89|exact za7 rfl rfl rfl rfl ty_89) ?_;refine qbW ?_;refine zas (zb9 (nD:=5) rfl rfl rfl ?_)
      exact ar_ret2 rfl rfl (zg rfl rfl (by rw [zbm hn0 (zbl hinv (.inr ht21)),if_pos (⟨Classical.not_not.1 g33,List.drop_eq_nil_iff.2 (by have:=Classical.not_not.1 ht39;omega)⟩)])) (zb rfl (by rw [zbm hn0 (zbl hinv (.inr ht21)),if_pos (⟨Classical.not_not.1 g33,List.drop_eq_nil_iff.2 (by have:=Classical.not_not.1 ht39;omega)⟩)]))
   ·
    refine CSQR ?_;refine A0 (by first|exact zr rfl rfl rfl rfl rfl ty_89|exact za7 rfl rfl rfl rfl ty_89) ?_;refine qav ?_;refine A0 (zu (T:=(sl u8T)) (xs:=[_]) rfl ze5 zdZ ⟨rfl,rfl,trivial⟩ rfl rfl) ?_;refine zB rfl rfl rfl rfl rfl rfl rfl zdZ (by simp;omega) ?_;refine zaj rfl rfl rfl rfl rfl rfl rfl rfl rfl rfl ty_89 ?_;refine CNR ?_;refine qav ?_;refine zh rfl rfl rfl rfl rfl (Lens.self _) ty_3 rfl ?_;refine CN ?_;refine CI ?_;refine zdJ (nL:=6) hrc3 rfl ?_;refine A1 oN ?_;refine qas ?_;refine Cg ?_;refine CS ?_;refine CR ?_;refine qav ?_
    refine qac ?_;refine CI ?_;refine zaH 8 7 9 rfl rfl rfl rfl rfl rfl ?_;refine zS (n:=3) (y:=(((cutP2 b p).toNat:Nat):Int)) rfl (by rw [hq];omega) ?_;refine zi (d:=3) (y:=(((cutP2 b p).toNat:Nat):Int)) rfl (by rw [hq];omega) ?_
    exact Nx (((cutP2 b p).toNat,out++[cutX b p])) (split_go hinv hce ht21) (by show b.length-(cutP2 b p).toNat<b.length-p;omega)
set_option maxRecDepth 20000
theorem getU_all {l:List UInt8} {n:Nat} (h:l.length=n) (hn:n≤8):getU l 0 (n:Int)=valU l:=by
  have hg:getOk l 0 (n:Int)=true:=by unfold getOk;rw [decide_eq_true_eq];omega
  rw [getU_yes hg,show (0:Int).toNat=0 from rfl,List.drop_zero,show ((n:Int)).toNat=n by omega,List.take_of_length_le (by omega)]
theorem u32_of {l:List UInt8} (h:l.length≤4):u32OfI (IntL.toI u64T (valU l))=UInt32.ofNat (valU l).toNat:=by
  unfold u32OfI
  have e:IntL.toI u64T (valU l)=((valU l).toNat:Int):=rfl
  have h1:=valU_n l (by omega)
  have h2:=valN_lt l
  have h3:256^l.length≤256^4:=Nat.pow_le_pow_right (by decide) h
  have h4:(256:Nat)^4=4294967296:=rfl
  rw [e]
  congr 1
  omega
theorem dd (b:List UInt8) (i j k:Nat) (h:i+j=k):(b.drop i).drop j=b.drop k:=by rw [List.drop_drop,h]
theorem num4_at {X:List UInt8} (h:4≤X.length):getU (X.take (Int.toNat 4)) 0 4=valU (X.take 4):=getU_all (l:=X.take 4) (n:=4) (by rw [List.length_take];omega) (by decide)
theorem num8_at {X:List UInt8} (h:8≤X.length):getU (X.take (Int.toNat 8)) 0 8=valU (X.take 8):=getU_all (l:=X.take 8) (n:=8) (by rw [List.length_take];omega) (by decide)
theorem zfn {l:List UInt8} (h:l.length≤4):IntKind.i64.wrap (IntL.toI u64T (valU l))=((valU l).toNat:Int):=by
  have e:IntL.toI u64T (valU l)=((valU l).toNat:Int):=rfl
  have h1:=valU_n l (by omega)
  have h2:=valN_lt l
  have h3:256^l.length≤256^4:=Nat.pow_le_pow_right (by decide) h
  have h4:(256:Nat)^4=4294967296:=rfl
  rw [e]
  exact zae (by omega)
theorem head_mk {x y:Head} (h1:x.height=y.height) (h2:x.prev=y.prev) (h3:x.links=y.links) (h4:x.txs=y.txs) (h5:x.past=y.past) (h6:x.work=y.work) (h7:x.bits=y.bits) (h8:x.nonce=y.nonce):x=y:=by
  cases x;cases y
  simp only at h1 h2 h3 h4 h5 h6 h7 h8
  subst h1 h2 h3 h4 h5 h6 h7 h8
  rfl
def D1 (b:List UInt8):=b.drop (Int.toNat 4)
def D2 (b:List UInt8):=(D1 b).drop (Int.toNat 32)
def D3 (b:List UInt8):=(D2 b).drop (Int.toNat 32)
def D4 (b:List UInt8):=(D3 b).drop (Int.toNat 32)
def D5 (b:List UInt8):=(D4 b).drop (Int.toNat 32)
def D6 (b:List UInt8):=(D5 b).drop (Int.toNat 32)
def D7 (b:List UInt8):=(D6 b).drop (Int.toNat 4)
theorem d2 (b:List UInt8):D2 b=b.drop 36:=dd b 4 32 36 rfl
theorem d3 (b:List UInt8):D3 b=b.drop 68:=by unfold D3;rw [d2];exact dd b 36 32 68 rfl
theorem d4 (b:List UInt8):D4 b=b.drop 100:=by unfold D4;rw [d3];exact dd b 68 32 100 rfl
theorem d5 (b:List UInt8):D5 b=b.drop 132:=by unfold D5;rw [d4];exact dd b 100 32 132 rfl
theorem d6 (b:List UInt8):D6 b=b.drop 164:=by unfold D6;rw [d5];exact dd b 132 32 164 rfl
theorem d7 (b:List UInt8):D7 b=b.drop 168:=by unfold D7;rw [d6];exact dd b 164 4 168 rfl
theorem rd_is {b : List UInt8} (hl : b.length = 176) {x : Head} (h1 : x.height = IntKind.i64.wrap (IntL.toI u64T (getU (b.take (Int.toNat 4)) 0 4))) (h2 : x.prev = (D1 b).take (Int.toNat 32)) (h3 : x.links = (D2 b).take (Int.toNat 32)) (h4 : x.txs = (D3 b).take (Int.toNat 32)) (h5 : x.past = (D4 b).take (Int.toNat 32))
    (h6:x.work=of32W ((D5 b).take (Int.toNat 32))) (h7:x.bits=u32OfI (IntL.toI u64T (getU ((D6 b).take (Int.toNat 4)) 0 4))) (h8:x.nonce=getU ((D7 b).take (Int.toNat 8)) 0 8):x=readHd b:=by
  rw [num4_at (by omega),zfn (by rw [List.length_take];omega)] at h1
  rw [d2] at h3
  rw [d3] at h4
  rw [d4] at h5
  rw [d5] at h6
  rw [d6,num4_at (by rw [List.length_drop];omega),u32_of (by rw [List.length_take];omega)] at h7
  rw [d7,num8_at (by rw [List.length_drop];omega)] at h8
  exact head_mk (h1.trans (by simp only [readHd])) (h2.trans (by simp only [readHd];rfl)) (h3.trans (by simp only [readHd];rfl)) (h4.trans (by simp only [readHd];rfl)) (h5.trans (by simp only [readHd];rfl)) (h6.trans (by simp only [readHd];rfl)) (h7.trans (by simp only [readHd])) (h8.trans (by simp only [readHd]))
theorem readH_no {b:List UInt8} (h:¬readHOk b=true):readH b=zHead:=by unfold readH;rw [if_neg h]
theorem readH_yes {b:List UInt8} (h:readHOk b=true):readH b=readHd b:=by unfold readH;rw [if_pos h]
theorem readHead_ok (b:List UInt8):Tells P 95 [.val (bsl u8T) b] (.tup2 (.val headT (readH b)) (.val boolT (readHOk b))):=by
 refine zc Tryz.func95 rfl rfl rfl (fun ext w hext=>?_)
 refine ze (d:=0) rfl zl (fun hsl0=>?_)
 refine CQR ?_;refine qcc ?_;refine qaj ?_;refine qbM ?_;refine qaO ?_;refine zp (p:=¬b.length=176) rfl (by simp [IntL.toI];omega) (fun ht8=>?_) (fun ht8=>?_)
 ·
  have hno:¬readHOk b=true:=by unfold readHOk;rw [Bool.and_eq_true,decide_eq_true_eq];exact fun h=>ht8 h.1
  refine CQR ?_;refine A0 (zD rfl ze_52 bd_52 .nil rfl) ?_;refine qaS ?_;refine qac ?_
  exact zC rfl rfl (zJ rfl rfl zal ((readH_no hno).symm)) (zai (zb rfl ((Bool.eq_false_iff.2 hno).symm)))
 ·
  have hl:b.length=176:=Classical.not_not.1 ht8
  refine qb4 ?_;refine A0 (zD rfl ze_195 bd_195 (.cons fd_195_0 L_Reader_b zdu rfl .nil) rfl) ?_;refine aw_box rfl rfl rfl rfl rfl ?_;refine A0 aP ?_;refine CNQR ?_;refine qcc ?_;refine CNQR ?_;refine A0 mP ?_;refine z6 rfl rfl rfl rfl Tryz.func148 fn_148 rfl rfl (fun ia1 iok1=>?_)
  refine CQR ?_;refine qat ?_;refine A0 mP ?_;refine qav ?_;refine z6 rfl rfl rfl rfl Tryz.func205 fn_205 rfl rfl (fun ia2 iok2=>?_)
  refine qbc ?_;refine A0 mP ?_;refine A0 (g_nc rfl rfl) ?_;refine qa0 ?_;refine A0 (by first|exact zbx rfl rfl rfl (by first|rfl|omega) zav|exact zd2 rfl rfl rfl zav (by first|assumption|omega|(simp;omega))) ?_;refine qbY ?_;refine A0 (g_nc rfl rfl) ?_;refine qa0 ?_;refine A0 (zeK rfl rfl rfl zav (by first|assumption|omega|(simp;omega))) ?_;refine A0 (g_nc rfl rfl) ?_;refine qa5 ?_;refine zaX rfl ?_;refine qav ?_
  refine A0 (oCl (binGet_ok _ _ _) rfl fn_204 ⟨(by first|exact zy rfl|exact zW rfl|exact zF rfl rfl|exact zU rfl|exact zs rfl|exact zag rfl rfl|exact zV rfl),(zd rfl),(zd rfl),trivial⟩) ?_;refine A0 mX ?_;refine A0 (by first|exact zO rfl rfl|exact zM rfl rfl) ?_;refine A0 (by first|exact zR rfl rfl|exact zQ rfl rfl) ?_;refine qbz ?_;refine qac ?_;refine zaX rfl ?_;refine A0 (zeV rfl (ui_3) (us_47) rfl (by first|exact zae (by omega)|rfl)) ?_;refine A0 (oFp zaU) ?_;refine zh rfl rfl rfl rfl rfl z7 ty_3 rfl ?_
  refine CNQR ?_;refine A0 mP ?_;refine z6 rfl rfl rfl rfl Tryz.func149 fn_149 rfl rfl (fun ia3 iok3=>?_)
  refine qb8 ?_;refine A0 mP ?_;refine z6 rfl rfl rfl rfl Tryz.func205 fn_205 rfl rfl (fun ia4 iok4=>?_)
  refine qbc ?_;refine A0 mP ?_;refine A0 (g_nc rfl rfl) ?_;refine qa0 ?_;refine A0 (by first|exact zbx rfl rfl rfl (by first|rfl|omega) zav|exact zd2 rfl rfl rfl zav (by first|assumption|omega|(simp;omega))) ?_;refine qbY ?_;refine A0 (g_nc rfl rfl) ?_;refine qa0 ?_;refine A0 (zeK rfl rfl rfl zav (by first|assumption|omega|(simp;omega))) ?_;refine A0 (g_nc rfl rfl) ?_;refine qa5 ?_;refine zaX rfl ?_;refine A0 (g_s2a (T:=u8T) (n:=32) 5 (by decide) rfl rfl (by kernel_rfl) (by simp;omega)) ?_;refine A0 (zf rfl rfl zG) ?_;refine qau ?_
  refine zdM rfl rfl rfl zG ?_;refine A0 mP ?_;refine z6 rfl rfl rfl rfl Tryz.func149 fn_149 rfl rfl (fun ia5 iok5=>?_)
  refine qb8 ?_;refine A0 mP ?_;refine z6 rfl rfl rfl rfl Tryz.func205 fn_205 rfl rfl (fun ia6 iok6=>?_)
  refine qbc ?_;refine A0 mP ?_;refine A0 (g_nc rfl rfl) ?_;refine qa0 ?_;refine A0 (by first|exact zbx rfl rfl rfl (by first|rfl|omega) zav|exact zd2 rfl rfl rfl zav (by first|assumption|omega|(simp;omega))) ?_;refine qbY ?_;refine A0 (g_nc rfl rfl) ?_;refine qa0 ?_;refine A0 (zeK rfl rfl rfl zav (by first|assumption|omega|(simp;omega))) ?_;refine A0 (g_nc rfl rfl) ?_;refine qa5 ?_;refine zaX rfl ?_;refine A0 (g_s2a (T:=u8T) (n:=32) 5 (by decide) rfl rfl (by kernel_rfl) (by simp;omega)) ?_;refine A0 (zf rfl rfl zG) ?_;refine qau ?_
  refine zdM rfl rfl rfl zG ?_;refine A0 mP ?_;refine z6 rfl rfl rfl rfl Tryz.func149 fn_149 rfl rfl (fun ia7 iok7=>?_)
  refine qb8 ?_;refine A0 mP ?_;refine z6 rfl rfl rfl rfl Tryz.func205 fn_205 rfl rfl (fun ia8 iok8=>?_)
  refine qbc ?_;refine A0 mP ?_;refine A0 (g_nc rfl rfl) ?_;refine qa0 ?_;refine A0 (by first|exact zbx rfl rfl rfl (by first|rfl|omega) zav|exact zd2 rfl rfl rfl zav (by first|assumption|omega|(simp;omega))) ?_;refine qbY ?_;refine A0 (g_nc rfl rfl) ?_;refine qa0 ?_;refine A0 (zeK rfl rfl rfl zav (by first|assumption|omega|(simp;omega))) ?_;refine A0 (g_nc rfl rfl) ?_;refine qa5 ?_;refine zaX rfl ?_;refine A0 (g_s2a (T:=u8T) (n:=32) 5 (by decide) rfl rfl (by kernel_rfl) (by simp;omega)) ?_;refine A0 (zf rfl rfl zG) ?_;refine qau ?_
  refine zdM rfl rfl rfl zG ?_;refine A0 mP ?_;refine z6 rfl rfl rfl rfl Tryz.func149 fn_149 rfl rfl (fun ia9 iok9=>?_)
  refine qb8 ?_;refine A0 mP ?_;refine z6 rfl rfl rfl rfl Tryz.func205 fn_205 rfl rfl (fun ia10 iok10=>?_)
  refine qbc ?_;refine A0 mP ?_;refine A0 (g_nc rfl rfl) ?_;refine qa0 ?_;refine A0 (by first|exact zbx rfl rfl rfl (by first|rfl|omega) zav|exact zd2 rfl rfl rfl zav (by first|assumption|omega|(simp;omega))) ?_;refine qbY ?_;refine A0 (g_nc rfl rfl) ?_;refine qa0 ?_;refine A0 (zeK rfl rfl rfl zav (by first|assumption|omega|(simp;omega))) ?_;refine A0 (g_nc rfl rfl) ?_;refine qa5 ?_;refine zaX rfl ?_;refine A0 (g_s2a (T:=u8T) (n:=32) 5 (by decide) rfl rfl (by kernel_rfl) (by simp;omega)) ?_;refine A0 (zf rfl rfl zG) ?_;refine qau ?_
  refine zdM rfl rfl rfl zG ?_;refine A0 (oFp zcF) ?_;refine zh rfl rfl rfl rfl rfl zca zG rfl ?_;refine A0 (oFp zcE) ?_;refine zh rfl rfl rfl rfl rfl zbK zG rfl ?_;refine A0 (oFp zdS) ?_;refine zh rfl rfl rfl rfl rfl zfl zG rfl ?_;refine A0 (oFp zdR) ?_;refine zh rfl rfl rfl rfl rfl zeB zG rfl ?_;refine CNQR ?_;refine A0 mP ?_;refine z6 rfl rfl rfl rfl Tryz.func149 fn_149 rfl rfl (fun ia11 iok11=>?_)
  refine qb8 ?_;refine A0 mP ?_;refine z6 rfl rfl rfl rfl Tryz.func205 fn_205 rfl rfl (fun ia12 iok12=>?_)
  refine qbc ?_;refine A0 mP ?_;refine A0 (g_nc rfl rfl) ?_;refine qa0 ?_;refine A0 (by first|exact zbx rfl rfl rfl (by first|rfl|omega) zav|exact zd2 rfl rfl rfl zav (by first|assumption|omega|(simp;omega))) ?_;refine qbY ?_;refine A0 (g_nc rfl rfl) ?_;refine qa0 ?_;refine A0 (zeK rfl rfl rfl zav (by first|assumption|omega|(simp;omega))) ?_;refine A0 (g_nc rfl rfl) ?_;refine qa5 ?_;refine zaX rfl ?_;refine A0 (g_s2a (T:=u8T) (n:=32) 5 (by decide) rfl rfl (by kernel_rfl) (by simp;omega)) ?_;refine A0 (zf rfl rfl zG) ?_;refine qau ?_
  refine zdM rfl rfl rfl zG ?_;refine A0 (oCl (of32W_ok _) rfl fn_150 ⟨(zd rfl),trivial⟩) ?_;refine A0 (oFp zes) ?_;refine zh rfl rfl rfl rfl rfl zfK zam rfl ?_;refine CNQR ?_;refine A0 mP ?_;refine z6 rfl rfl rfl rfl Tryz.func148 fn_148 rfl rfl (fun ia13 iok13=>?_)
  refine CQR ?_;refine qat ?_;refine A0 mP ?_;refine qav ?_;refine z6 rfl rfl rfl rfl Tryz.func205 fn_205 rfl rfl (fun ia14 iok14=>?_)
  refine qbc ?_;refine A0 mP ?_;refine A0 (g_nc rfl rfl) ?_;refine qa0 ?_;refine A0 (by first|exact zbx rfl rfl rfl (by first|rfl|omega) zav|exact zd2 rfl rfl rfl zav (by first|assumption|omega|(simp;omega))) ?_;refine qbY ?_;refine A0 (g_nc rfl rfl) ?_;refine qa0 ?_;refine A0 (zeK rfl rfl rfl zav (by first|assumption|omega|(simp;omega))) ?_;refine A0 (g_nc rfl rfl) ?_;refine qa5 ?_;refine zaX rfl ?_;refine qav ?_
  refine A0 (oCl (binGet_ok _ _ _) rfl fn_204 ⟨(by first|exact zy rfl|exact zW rfl|exact zF rfl rfl|exact zU rfl|exact zs rfl|exact zag rfl rfl|exact zV rfl),(zd rfl),(zd rfl),trivial⟩) ?_;refine A0 mX ?_;refine A0 (by first|exact zO rfl rfl|exact zM rfl rfl) ?_;refine A0 (by first|exact zR rfl rfl|exact zQ rfl rfl) ?_;refine qbz ?_;refine qac ?_;refine zaX rfl ?_;refine A0 (g_cv32 rfl (ui_50) (us_47) rfl) ?_;refine A0 (oFp zbw) ?_;refine zh rfl rfl rfl rfl rfl zaD zbd rfl ?_;refine CNQR ?_;refine A0 mP ?_
  refine z6 rfl rfl rfl rfl Tryz.func148 fn_148 rfl rfl (fun ia15 iok15=>?_)
  refine CQR ?_;refine qat ?_;refine A0 mP ?_;refine qav ?_;refine z6 rfl rfl rfl rfl Tryz.func205 fn_205 rfl rfl (fun ia16 iok16=>?_)
  refine qbc ?_;refine A0 mP ?_;refine A0 (g_nc rfl rfl) ?_;refine qa0 ?_;refine A0 (by first|exact zbx rfl rfl rfl (by first|rfl|omega) zav|exact zd2 rfl rfl rfl zav (by first|assumption|omega|(simp;omega))) ?_;refine qbY ?_;refine A0 (g_nc rfl rfl) ?_;refine qa0 ?_;refine A0 (zeK rfl rfl rfl zav (by first|assumption|omega|(simp;omega))) ?_;refine A0 (g_nc rfl rfl) ?_;refine qa5 ?_;refine zaX rfl ?_;refine qav ?_
  refine A0 (oCl (binGet_ok _ _ _) rfl fn_204 ⟨(by first|exact zy rfl|exact zW rfl|exact zF rfl rfl|exact zU rfl|exact zs rfl|exact zag rfl rfl|exact zV rfl),(zd rfl),(zd rfl),trivial⟩) ?_;refine A0 mX ?_;refine A0 (by first|exact zO rfl rfl|exact zM rfl rfl) ?_;refine A0 (by first|exact zR rfl rfl|exact zQ rfl rfl) ?_;refine qbz ?_;refine qac ?_;refine zaX rfl ?_;refine A0 (oFp zcZ) ?_;refine zh rfl rfl rfl rfl rfl zcb zbs rfl ?_;refine CNQ ?_;refine CQ ?_
  refine zS (n:=2) (y:=readHd b) rfl (rd_is hl (by simp only [D1,D2,D3,D4,D5,D6,D7]) (by simp only [D1,D2,D3,D4,D5,D6,D7]) (by simp only [D1,D2,D3,D4,D5,D6,D7]) (by simp only [D1,D2,D3,D4,D5,D6,D7]) (by simp only [D1,D2,D3,D4,D5,D6,D7]) (by simp only [D1,D2,D3,D4,D5,D6,D7]) (by simp only [D1,D2,D3,D4,D5,D6,D7]) (by simp only [D1,D2,D3,D4,D5,D6,D7])) ?_;refine CR ?_;refine qbC ?_;refine A0 zaG ?_;refine CN ?_;refine Cf (p:=1048576<(readHd b).height) (fun ht42=>?_) (fun ht42=>?_)
  ·
   have hno:¬readHOk b=true:=fun h=>by have:=(rd_ok (b:=b) (by unfold readHOk at h;rw [Bool.and_eq_true,decide_eq_true_eq,decide_eq_true_eq] at h;exact h.2)).2;omega
   refine CQR ?_;refine A0 (zD rfl ze_52 bd_52 .nil rfl) ?_;refine qaS ?_;refine qac ?_
   exact zC rfl rfl (zJ rfl rfl zal ((readH_no hno).symm)) (zai (zb rfl ((Bool.eq_false_iff.2 hno).symm)))
  ·
   have hrh:(readHd b).height=((valU (b.take 4)).toNat:Int):=by simp only [readHd]
   have hyes:readHOk b=true:=by unfold readHOk;rw [Bool.and_eq_true,decide_eq_true_eq,decide_eq_true_eq];exact ⟨hl,by omega⟩
   refine CSQR ?_;refine qbD ?_;refine qaS ?_;refine qac ?_
   exact zC rfl rfl (zJ rfl rfl zal ((readH_yes hyes).symm)) (zai (zb rfl (hyes.symm)))
set_option maxRecDepth 20000
abbrev noV:Value:=.iface 145 (.agg #[])
theorem fine_idle (b:Nat) (w:World):CallsDIn Fence.wide 0 P 86 #[.pointer (some ⟨b,0,none⟩)] .returning w fun e u w'=>e = .returned (.tuple #[])∧u = .returning∧w'=w:=by
  have hn:Tryz.f86.ntmps=7:=rfl
  refine callsDIn_of_wpSIn Tryz.func86 rfl trivial fun c₀ cs hu=>?_
  rw [hn]
  apply wpSIn_seq
  apply wpSIn_region
  simp [wpOpsSIn,go_sem,recoverD,hu,Exit.thenS]
  apply wpSIn_seq
  apply wpSIn_region
  simp [wpOpsSIn,go_sem,recoverD,hu,Exit.thenS]
  refine wpSIn_cond (t:=false) (by simp [Act.eval,Array.replicate]) ?_
  simp only [Bool.false_eq_true,if_false]
  refine wpSIn_of_wpIn rfl (wpIn_skip ?_)
  cases c₀
  simp_all [bodyPostS,results]
theorem fine_caught (b : Nat) (w : World) (x : Bool) (hw : w.heap[b]? = some (.cells #[.bool x] 4 (0, 0))) : CallsDIn Fence.wide 0 P 86 #[.pointer (some ⟨b, 0, none⟩)] (.panicking [{ v := noV, recovered := false }]) w
    fun e u w'=>e = .returned (.tuple #[])∧u = .panicking [{ v:=noV,recovered:=true }]∧w'=w.putObj b (.cells #[.bool false] 4 (0,0)):=by
  have hn:Tryz.f86.ntmps=7:=rfl
  refine callsDIn_of_wpSIn Tryz.func86 rfl trivial fun c₀ cs hu=>?_
  rw [hn]
  apply wpSIn_seq
  apply wpSIn_region
  simp [wpOpsSIn,go_sem,recoverD,hu,Exit.thenS]
  apply wpSIn_seq
  apply wpSIn_region
  simp [wpOpsSIn,go_sem,recoverD,hu,Exit.thenS]
  refine wpSIn_cond (t:=true) (by simp [Act.eval,Array.replicate]) ?_
  simp only [if_true]
  apply wpSIn_seq
  apply wpSIn_region
  simp [wpOpsSIn,go_sem,recoverD,hu,Exit.thenS]
  have hta:∀w,(Instr.typeAssert noV 20 145 false).run P w = .ok (.agg #[]) w:=fun w=>by kernel_rfl
  have hc:w.cell? { block:=b,off:=0 }=some (.bool x):=by simp [World.cell?,hw]
  have hz:w.frozen? { block:=b,off:=0 }=false:=by simp [World.frozen?,hw]
  have hs:w.setCell { block:=b,off:=0 } (.bool false)=w.putObj b (.cells #[.bool false] 4 (0,0)):=by
    unfold World.setCell World.putObj
    congr 1
    apply Array.ext_getElem?
    intro i
    rw [Array.getElem?_modify,Array.getElem?_setIfInBounds]
    by_cases e:b=i
    · subst e
      have hlt:b<w.heap.size:=(Array.getElem?_eq_some_iff.1 hw).1
      rw [if_pos rfl,if_pos rfl,if_pos hlt,hw]
      rfl
    · rw [if_neg e,if_neg e]
  rw [hta]
  simp only [Result.andThen_ok]
  apply wpSIn_region
  simp [wpOpsSIn,go_sem,hc,hz,hs,bodyPostS,results]
theorem za9:Catches P 86 4 noV:=⟨fn_86,fine_idle,fine_caught⟩
theorem zbj (b:Bool):TellsP P 89 [.val boolT b] (b=true) noV (.lit (.tuple #[])):=by
 refine fnp_of_aw Tryz.func89 rfl rfl rfl (fun ext w hext=>?_)
 refine qa2 ?_;refine qaR ?_;refine zp (p:=¬b=true) rfl (by cases b<;>rfl) (fun ht3=>?_) (fun ht3=>?_)
 ·
  refine CR ?_;refine A0 (g_build0 rfl zu_145 su_145) ?_;refine A0 (g_mkif rfl rfl (by kernel_rfl)) ?_;refine aw_panic rfl rfl rfl ?_
  exact ap_of (ht3)
 ·
  refine CS ?_
  exact aw_fall (ar_ret0P rfl rfl rfl (Classical.not_not.1 ht3))
theorem rows_pok (l:List (List UInt8)):TellsP P 90 [.val (bsl (bsl u8T)) l] (rowsOk l=true) noV (.fresh 5 u8T (rowsL l)):=by
 refine fnp_of_aw Tryz.func90 rfl rfl rfl (fun ext w hext=>?_)
 refine ze (d:=0) rfl zl (fun hsl0=>?_)
 refine qbc ?_;refine qav ?_;refine aw_callf2 (binRows_ok l) rfl fn_145 ⟨(zd rfl),trivial⟩ flat_bool rfl rfl rfl ?_;refine A0 (by first|exact zdA (.inl rfl) rfl|exact zdz (.inl rfl) rfl) ?_;refine A0 (by first|exact zO rfl rfl|exact zM rfl rfl) ?_;refine A0 (by first|exact zR rfl rfl|exact zQ rfl rfl) ?_;refine A0 aO ?_;refine qaV ?_;refine zaI (zbj (rowsOk l)) rfl zeC rfl ⟨(by first|exact zy rfl|exact zW rfl|exact zF rfl rfl|exact zU rfl|exact zs rfl|exact zag rfl rfl|exact zV rfl),trivial⟩ (fun hm=>?_) (fun hm=>?_)
 ·
  exact ap_of (hm)
 ·
  refine A0 (oCl ((zbj (rowsOk l)).1 hm) rfl zeC ⟨(by first|exact zy rfl|exact zW rfl|exact zF rfl rfl|exact zU rfl|exact zs rfl|exact zag rfl rfl|exact zV rfl),trivial⟩) ?_;refine CNQR ?_;refine A0 mO ?_;refine qbq ?_
  exact aw_ret1P rfl rfl hm (zg rfl rfl (by unfold rowsR;rw [if_pos hm]))
theorem split_pok (b:List UInt8) (hb:b.length≤1000000000):TellsP P 94 [.val (bsl u8T) b] ((splitOf b).2=true) noV (.fresh 26 (sl u8T) (splitOf b).1):=by
 refine fnp_of_aw Tryz.func94 rfl rfl rfl (fun ext w hext=>?_)
 refine ze (d:=0) rfl zl (fun hsl0=>?_)
 refine qbc ?_;refine qav ?_;refine aw_callf2 (binSplit_ok b hb) rfl fn_147 ⟨(zd rfl),trivial⟩ flat_bool rfl rfl rfl ?_;refine A0 (by first|exact zdA (.inl rfl) rfl|exact zdz (.inl rfl) rfl) ?_;refine A0 (by first|exact zO rfl rfl|exact zM rfl rfl) ?_;refine A0 (by first|exact zR rfl rfl|exact zQ rfl rfl) ?_;refine A0 aO ?_;refine qaV ?_;refine zaI (zbj (splitOf b).2) rfl zeC rfl ⟨(by first|exact zy rfl|exact zW rfl|exact zF rfl rfl|exact zU rfl|exact zs rfl|exact zag rfl rfl|exact zV rfl),trivial⟩ (fun hm=>?_) (fun hm=>?_)
 ·
  exact ap_of (hm)
 ·
  refine A0 (oCl ((zbj (splitOf b).2).1 hm) rfl zeC ⟨(by first|exact zy rfl|exact zW rfl|exact zF rfl rfl|exact zU rfl|exact zs rfl|exact zag rfl rfl|exact zV rfl),trivial⟩) ?_;refine CNQR ?_;refine A0 mO ?_;refine qbq ?_
  exact aw_ret1P rfl rfl hm (zg rfl rfl rfl)
theorem pcheck_ok (p:Proof):TellsP P 87 [.rptr paperT p] (sizeOk p=true) noV (.lit (.tuple #[])):=by
 refine fnp_of_aw Tryz.func87 rfl rfl rfl (fun ext w hext=>?_)
 refine CQR ?_;refine A0 mR ?_;refine A0 (zaT rfl rfl) ?_;refine A0 (oFr zcD zcu) ?_;refine A0 (oFr zcG zdO) ?_;refine qbT ?_;refine A0 zcU ?_;refine Sp (d:=9) (p:=1≤p.m) (fun g9=>?_) (fun g9=>?_)
 ·
  refine qav ?_;refine A1 mR ?_;refine A1 (zaT rfl rfl) ?_;refine A1 (oFr zcD zcu) ?_;refine A1 (oFr zcG zdO) ?_;refine A1 (zf rfl rfl ty_3) ?_;refine A1 zcP ?_;refine Sp (d:=16) (p:=p.m≤20) (fun g16=>?_) (fun g16=>?_)
  ·
   refine qag ?_;refine A1 mR ?_;refine A1 (zaT rfl rfl) ?_;refine A1 (oFr zcD zcu) ?_;refine A1 (oFr zb6 zct) ?_;refine A1 (zf rfl rfl ty_3) ?_;refine A1 zcU ?_;refine Sp (d:=24) (p:=1≤p.k) (fun g24=>?_) (fun g24=>?_)
   ·
    refine qag ?_;refine A1 mR ?_;refine A1 (zaT rfl rfl) ?_;refine A1 (oFr zcD zcu) ?_;refine A1 (oFr zb6 zct) ?_;refine A1 (zf rfl rfl ty_3) ?_;refine A1 zcP ?_;refine Sp (d:=32) (p:=p.k≤20) (fun g32=>?_) (fun g32=>?_)
    ·
     refine qag ?_;refine A1 mR ?_;refine A1 (zaT rfl rfl) ?_;refine A1 (oFr zcD zcu) ?_;refine A1 (oFr zaq zao) ?_;refine A1 (zf rfl rfl zcd) ?_;refine A1 (by first|exact zK rfl rfl zbY|exact zak rfl rfl rfl zbY|exact zaw rfl rfl zbY) ?_;refine A1 zcP ?_;refine A0 oK ?_;refine zaI (zbj (decide ((p.p.length:Int)≤100))) rfl zeC rfl ⟨(zd rfl),trivial⟩ (fun hm=>?_) (fun hm=>?_)
     ·
      exact ap_of (fun h=>hm (decide_eq_true (by have:=(za5 h).1;omega)))
     ·
      refine A0 (oCl ((zbj (decide ((p.p.length:Int)≤100))).1 hm) rfl zeC ⟨(zd rfl),trivial⟩) ?_;refine CNQR ?_;refine A0 mR ?_;refine A0 (zaT rfl rfl) ?_;refine A0 (oFr zcD zcu) ?_;refine A0 (oFr zaq zao) ?_;refine A0 (zf rfl rfl zcd) ?_;refine A0 (by first|exact zK rfl rfl zbY|exact zak rfl rfl rfl zbY|exact zaw rfl rfl zbY) ?_;refine qaA ?_
      refine Lp (ι:=Nat) 0 (fun (i:Nat)=>(((Fr.none).set 48 (.val (sl partT) p.p)).set 49 (.val i64T (p.p.length:Int))).set 50 (.val i64T (i:Int))) (fun (i:Nat)=>Hp.none) (fun (i:Nat)=>i≤p.p.length∧∀x∈p.p.take i,x.l.length≤32) (fun (i:Nat)=>p.p.length-i) (0) (⟨Nat.zero_le _,fun x hx=>by simp at hx⟩) ?_
      intro i hinv
      refine qak ?_;refine Cf (p:=i<p.p.length) (fun ht51=>?_) (fun ht51=>?_)
      ·
       have hlb:(p.p.length:Int)≤100:=of_decide_eq_true hm
       obtain ⟨x,hx⟩:∃x,p.p[i]?=some x:=⟨_,List.getElem?_eq_getElem ht51⟩
       refine CSQBQR ?_;refine A0 (zo (i:=i) rfl rfl rfl (by omega) zaP (by assumption)) ?_;refine qaP ?_;refine CNR ?_;refine A0 (oFp zbv) ?_;refine A0 (oLb zbA zbc) ?_;refine qb7 ?_;refine A0 zcP ?_;refine zaI (zbj (decide ((x.l.length:Int)≤32))) rfl zeC rfl ⟨(zd rfl),trivial⟩ (fun hm2=>?_) (fun hm2=>?_)
       ·
        exact ap_of (fun h=>hm2 (decide_eq_true (by have:=(za5 h).2 x (List.mem_of_getElem? hx);omega)))
       ·
        refine A0 (oCl ((zbj (decide ((x.l.length:Int)≤32))).1 hm2) rfl zeC ⟨(zd rfl),trivial⟩) ?_;refine qaW ?_
        exact Nx (i+1) (⟨by omega,fun y hy=>by rw [List.take_add_one,hx] at hy;rcases List.mem_append.1 hy with h|h;exact hinv.2 y h;simp at h;rw [h];have:=of_decide_eq_true hm2;omega⟩) (by omega)
      ·
       refine CE ?_
       exact aw_fall (ar_ret0P rfl rfl rfl (by unfold sizeOk;rw [Bool.and_eq_true,decide_eq_true_eq,List.all_eq_true];exact ⟨⟨g9,g16,g24,g32,by have:=of_decide_eq_true hm;omega⟩,fun y hy=>decide_eq_true (hinv.2 y (by rw [List.take_of_length_le (by omega)];exact hy))⟩))
    ·
     refine qaM ?_;refine qab ?_;refine A2 ?_;refine A0 oK ?_;refine zaI (zbj false) rfl zeC rfl ⟨(zd rfl),trivial⟩ (fun hm=>?_) (fun h=>absurd h (by decide))
     exact ap_of (fun h=>by have:=(za5 h).1;omega)
   ·
    refine qaM ?_;refine qab ?_;refine qaM ?_;refine qab ?_;refine A2 ?_;refine A0 oK ?_;refine zaI (zbj false) rfl zeC rfl ⟨(zd rfl),trivial⟩ (fun hm=>?_) (fun h=>absurd h (by decide))
    exact ap_of (fun h=>by have:=(za5 h).1;omega)
  ·
   refine qaM ?_;refine qab ?_;refine qaM ?_;refine qab ?_;refine qaM ?_;refine qab ?_;refine A2 ?_;refine A0 oK ?_;refine zaI (zbj false) rfl zeC rfl ⟨(zd rfl),trivial⟩ (fun hm=>?_) (fun h=>absurd h (by decide))
   exact ap_of (fun h=>by have:=(za5 h).1;omega)
 ·
  refine qby ?_;refine qab ?_;refine qaM ?_;refine qab ?_;refine qaM ?_;refine qab ?_;refine qaM ?_;refine qab ?_;refine A2 ?_;refine A0 oK ?_;refine zaI (zbj false) rfl zeC rfl ⟨(zd rfl),trivial⟩ (fun hm=>?_) (fun h=>absurd h (by decide))
  exact ap_of (fun h=>by have:=(za5 h).1;omega)
set_option maxRecDepth 20000
theorem hd_rel {U N:Nat→Prop} {w:World} {h:Head} {cs:List Value} (hr:headT.rel U N w h cs):HW h:=by
  obtain ⟨_,_,_,_,_,_,_,h1,_,_,_,h2,_,_,_,h3,_,_,_,h4,_,_,_,h5,_⟩:=hr
  exact ⟨h1.1,h2.1,h3.1,h4.1,h5.1⟩
theorem is_rel {U N:Nat→Prop} {w:World} {b:Bool} {l:List Ab.Id} {cs:List Value} (hr:(slT b idT).rel U N w l cs):∀y∈l,y.length=32:=fun x hx=>by
  obtain ⟨ad,cap,_,_,_,h3⟩:=hr
  obtain ⟨_,ds,_,_,hr,_⟩:=h3 (List.ne_nil_of_mem hx)
  obtain ⟨c,hc⟩:=relAll_mem hr x hx
  exact hc.1
theorem fact_pw {p:Proof} {ρ:Nat→Value} {B:Nat→Prop} {U N:Nat→Prop} {w:World} {v:Value} (h:(AV.val proofT p).rel ρ B U N w v):PW p:=by
  obtain ⟨cs,⟨c1,c2,_,_,c3,c4,_,_,a,cap,_,_,_,h3⟩,_⟩:=h
  intro x hx
  obtain ⟨i,hi⟩:=List.getElem?_of_mem hx
  obtain ⟨ad,ds,_,_,hr,_⟩:=h3 (List.ne_nil_of_mem hx)
  obtain ⟨d1,d2,_,hh,hl⟩:=hr.get hi
  exact ⟨hd_rel hh,is_rel hl⟩
theorem putL_is (p:Proof):putL p=u8OfI (IntL.toI i64T p.m)::u8OfI (IntL.toI i64T p.k)::rowsL (p.p.map partRow):=rfl
theorem wok_of {p:Proof} (hs:sizeOk p=true) (h:∀x∈p.p,hOk x.h=true):wOk p=true:=by unfold wOk;rw [hs,Bool.true_and,List.all_eq_true];exact h
theorem sum_le {α:Type} (f:α→Nat) (c:Nat):∀l:List α,(∀x∈l,f x≤c)→(l.map f).sum≤l.length*c
  | [],_=>by simp
  | x::l,h=>by
    rw [List.map_cons,List.sum_cons,List.length_cons,Nat.add_mul,Nat.one_mul]
    have h1:=sum_le f c l (fun y hy=>h y (List.mem_cons_of_mem _ hy))
    have h2:=h x (List.mem_cons_self ..)
    omega
theorem put_bd {p:Proof} (hw:PW p) (h:wOk p=true):(putL p).length≤126903:=by
  obtain ⟨h1,h2⟩:=za5 (wOk_spec h).1
  rw [put_len hw h]
  have h3:=sum_le (fun x:Part=>181+34*x.l.length) 1269 p.p (fun x hx=>by have:=h2 x hx;omega)
  have h4:p.p.length*1269≤100*1269:=Nat.mul_le_mul_right _ h1.2.2.2.2
  omega
theorem rows_bd {p:Proof} (hw:PW p) (h:wOk p=true):(rowsL (p.p.map partRow)).length≤126901:=by
  have:=put_bd hw h
  rw [putL_is,List.length_cons,List.length_cons] at this
  omega
def pputL (p:Proof):List UInt8:=if wOk p=true then putL p else []
theorem pwrite_ok (p:Proof) (hw:PW p):TellsP P 44 [.rptr paperT p] (wOk p=true) noV (.fresh 5 u8T (putL p)):=by
 refine fnp_of_aw Tryz.func44 rfl rfl rfl (fun ext w hext=>?_)
 refine qbc ?_;refine A0 mR ?_;refine zaI (pcheck_ok p) rfl fn_87 rfl ⟨(zs rfl),trivial⟩ (fun hs=>?_) (fun hs=>?_)
 ·
  exact ap_of (fun h=>hs (wOk_spec h).1)
 ·
  refine A0 (oCl ((pcheck_ok p).1 hs) rfl fn_87 ⟨(zs rfl),trivial⟩) ?_;refine CNQR ?_;refine A0 aL ?_;refine CNQQR ?_;refine A0 mR ?_;refine A0 (zaT rfl rfl) ?_;refine A0 (oFr zcD zcu) ?_;refine A0 (oFr zaq zao) ?_;refine A0 (zf rfl rfl zcd) ?_;refine A0 (by first|exact zK rfl rfl zbY|exact zak rfl rfl rfl zbY|exact zaw rfl rfl zbY) ?_;refine qaA ?_
  have hlb:=(za5 hs).1
  refine zc4 (T:=bsl u8T) (d:=3) 26 rfl ?_;refine Lp (ι:=Nat) 1 (fun (i:Nat)=>(((((Fr.none).set 0 (.rptr paperT p)).set 3 (.own 0)).set 17 (.val (sl partT) p.p)).set 18 (.val i64T (p.p.length:Int))).set 19 (.val i64T (i:Int))) (fun (i:Nat)=>(Hp.none).set 0 (.row 26 (bsl u8T) ((p.p.take i).map partRow))) (fun (i:Nat)=>i≤p.p.length∧∀x∈p.p.take i,hOk x.h=true) (fun (i:Nat)=>p.p.length-i) (0) (⟨Nat.zero_le _,fun x hx=>by simp at hx⟩) ?_
  intro i hinv
  refine qak ?_;refine Cf (p:=i<p.p.length) (fun ht20=>?_) (fun ht20=>?_)
  ·
   obtain ⟨x,hx⟩:∃x,p.p[i]?=some x:=⟨_,List.getElem?_eq_getElem ht20⟩
   refine CSQBQR ?_;refine A0 (zo (i:=i) rfl rfl rfl (by omega) zaP (by assumption)) ?_;refine qaP ?_;refine CNQR ?_;refine A0 (oFp za6) ?_;refine A0 (oLb zaO zal) ?_;refine A0 (oCl (zce (hput_ok x.h)) rfl fn_88 ⟨(zd rfl),trivial⟩) ?_;refine A0 mX ?_;refine A0 (by first|exact zO rfl rfl|exact zM rfl rfl) ?_;refine A0 (by first|exact zR rfl rfl|exact zQ rfl rfl) ?_;refine qbz ?_;refine zaI (zbj (hOk x.h)) rfl zeC rfl ⟨(zd rfl),trivial⟩ (fun hm=>?_) (fun hm=>?_)
   ·
    exact ap_of (fun h=>hm ((wOk_spec h).2 x (List.mem_of_getElem? hx)))
   ·
    refine A0 (oCl ((zbj (hOk x.h)).1 hm) rfl zeC ⟨(zd rfl),trivial⟩) ?_;refine CNQR ?_;refine qav ?_;refine aw_lend (S:=bsl u8T) (d:=31) rfl ?_;refine zbI (T:=(bsl u8T)) (xs:=[_]) rfl rfl rfl rfl ze5 zdZ ⟨rfl,rfl,trivial⟩ rfl rfl ?_;refine A0 aO ?_;refine CNQQR ?_;refine A0 (oFp zbv) ?_;refine A0 (oLb zbA zbc) ?_;refine qb7 ?_;refine qaA ?_
    have hxl:=(za5 hs).2 x (List.mem_of_getElem? hx)
    refine Lp (ι:=Nat) 3 (fun (j:Nat)=>(((((((((Fr.none).set 0 (.rptr paperT p)).set 3 (.own 0)).set 8 (.own 2)).set 17 (.val (sl partT) p.p)).set 18 (.val i64T (p.p.length:Int))).set 19 (.val i64T (i:Int))).set 34 (.val (sl idT) x.l)).set 35 (.val i64T (x.l.length:Int))).set 36 (.val i64T (j:Int))) (fun (j:Nat)=>((Hp.none).set 0 (.row 26 (bsl u8T) ((p.p.take i).map partRow))).set 2 (.row 26 (bsl u8T) (headBytes x.h::x.l.take j))) (fun (j:Nat)=>j≤x.l.length) (fun (j:Nat)=>x.l.length-j) (0) (Nat.zero_le _) ?_
    intro j hj
    refine qak ?_;refine Cf (p:=j<x.l.length) (fun ht37=>?_) (fun ht37=>?_)
    ·
     obtain ⟨y,hy⟩:∃y,x.l[j]?=some y:=⟨_,List.getElem?_eq_getElem ht37⟩
     refine CSQBQR ?_;refine A0 (zo (i:=j) rfl rfl rfl (by omega) zbW (by assumption)) ?_;refine A0 (zf rfl rfl zG) ?_;refine qaJ ?_;refine qau ?_;refine zdK (d:=10) rfl rfl (Lens.self _) ?_;refine CR ?_;refine A0 mO ?_;refine A0 (zbQ rfl rfl zdb rfl rfl) ?_;refine A0 (zu (T:=(bsl u8T)) (xs:=[_]) rfl ze5 zdZ ⟨rfl,rfl,trivial⟩ rfl rfl) ?_;refine zB rfl rfl rfl rfl rfl rfl rfl zdZ (by simp [List.length_take];omega) ?_;refine qbU ?_;refine zaH 4 2 5 rfl rfl rfl rfl rfl rfl ?_
     refine zz (n:=2) (y:=headBytes x.h::x.l.take (j+1)) rfl (by rw [List.take_add_one,hy];rfl) ?_
     exact Nx (j+1) (by omega) (by omega)
    ·
     refine CE ?_
     have hr1:=row_ok (hw x (List.mem_of_getElem? hx)).1 hm (hw x (List.mem_of_getElem? hx)).2 ((za5 hs).2 x (List.mem_of_getElem? hx))
     refine zz (n:=2) (y:=headBytes x.h::x.l) rfl (by rw [List.take_of_length_le (by omega)]) ?_;refine CR ?_;refine A0 mO ?_;refine A0 mO ?_;refine A0 (oCl (zq ((rows_pok (headBytes x.h::x.l)).1 hr1)) rfl fn_90 ⟨(zF rfl rfl),trivial⟩) ?_;refine aw_lend (S:=bsl u8T) (d:=47) rfl ?_;refine A0 (zu (T:=(bsl u8T)) (xs:=[_]) rfl ze5 zdZ ⟨rfl,rfl,trivial⟩ rfl rfl) ?_;refine zB rfl rfl rfl rfl rfl rfl rfl zdZ (by simp [List.length_take];omega) ?_;refine qbU ?_;refine zaH 3 0 4 rfl rfl rfl rfl rfl rfl ?_
     refine zz (n:=0) (y:=(p.p.take (i+1)).map partRow) rfl (by rw [List.take_add_one,hx,List.map_append];rfl) ?_
     exact Nx (i+1) (⟨by omega,fun y hy=>by rw [List.take_add_one,hx] at hy;rcases List.mem_append.1 hy with h|h;exact hinv.2 y h;simp at h;rw [h];exact hm⟩) (by omega)
  ·
   refine CE ?_;refine CQ ?_
   have hwk:=wok_of hs (fun y hy=>hinv.2 y (by rw [List.take_of_length_le (by omega)];exact hy))
   have hbd:=rows_bd hw hwk
   refine zz (n:=0) (y:=p.p.map partRow) rfl (by rw [List.take_of_length_le (by omega)]) ?_;refine zE [some 1,some 1,some 1,some 1,some 1,some 1,some 1,some 1,some 1,some 1,some 1,some 1,none,some 2,some 2,none,some 1] mixed (by decide +kernel) ?_;refine X0 mR ?_;refine X0 (zaT rfl rfl) ?_;refine X0 (oFr zcD zcu) ?_;refine X0 (oFr zcG zdO) ?_;refine X0 (zf rfl rfl ty_3) ?_;refine X0 (zeW rfl (ui_5) (us_3) rfl) ?_;refine X0 mR ?_;refine X0 (zaT rfl rfl) ?_;refine X0 (oFr zcD zcu) ?_;refine X0 (oFr zb6 zct) ?_
   refine X0 (zf rfl rfl ty_3) ?_;refine X0 (zeW rfl (ui_5) (us_3) rfl) ?_;refine XK.e (fun fr' hfr kk H=>by exact zbI (T:=u8T) (xs:=[_,_]) rfl rfl rfl rfl zav zbf ⟨rfl,((hfr 56 (by decide +kernel)).trans rfl),rfl,((hfr 62 (by decide +kernel)).trans rfl),trivial⟩ rfl rfl (zH H)) ?_;refine XK.g2 (g_mo (.inl rfl) rfl) (g_mo (.inl rfl) rfl) rfl rfl rfl ?_
   refine XK.g2 (zeM (zq ((rows_pok (p.p.map partRow)).1 (parts_ok hw hwk))) rfl fn_90 ⟨(zF rfl rfl),trivial⟩ rfl) (zeM (zq ((rows_pok (p.p.map partRow)).1 (parts_ok hw hwk))) rfl fn_90 ⟨(zF rfl rfl),trivial⟩ rfl) rfl rfl rfl ?_;refine XK.e (fun fr' hfr kk H=>by exact zB rfl rfl rfl rfl ((hfr 63 (by decide +kernel)).trans rfl) rfl ((hfr 65 (by decide +kernel)).trans rfl) zbf (by simp [List.length_take];omega) (zH H)) ?_;refine X0 aO ?_;refine XK.nil' ?_
   exact aw_ret1P rfl rfl hwk (zg rfl rfl rfl)
theorem zeT (p:Proof):Tells P 18 [.val proofT p] (.tup2 (.val (sl u8T) (pputL p)) (.val boolT (wOk p))):=by
 refine zc Tryz.func18 rfl rfl rfl (fun ext w hext=>?_)
 refine ze (d:=0) rfl fact_pw (fun hw=>?_)
 refine qbV ?_;refine qaY ?_;refine A0 (zD rfl ze_86 bd_86 (.cons zcD zcu zaE rfl .nil) rfl) ?_;refine aw_box rfl rfl rfl rfl rfl ?_;refine aw_alloc_p zp_84 rfl rfl rfl rfl rfl rfl ?_;refine zaj rfl rfl rfl rfl rfl rfl rfl rfl rfl rfl ty_84 ?_;refine CNQR ?_;refine zw ze_26 rfl rfl rfl rfl ?_;refine CNQR ?_;refine A0 (g_mkf (caps:=[_,_]) rfl rfl) ?_;refine z6 rfl rfl rfl rfl Tryz.func42 fn_42 rfl rfl (fun ia2 iok2=>?_)
 refine CQR ?_;refine zw ze_4 rfl rfl rfl rfl ?_;refine CNQR ?_;refine A0 (g_mkf (caps:=[_]) rfl rfl) ?_;refine aw_defer rfl rfl rfl rfl rfl rfl rfl (fun bD=>?_)
 refine CNQR ?_;refine A0 mC ?_;refine aw_inlinec rfl rfl rfl rfl rfl Tryz.func43 fn_43 rfl rfl (by intro n hn;simp only [List.mem_cons,List.not_mem_nil,or_false] at hn;rcases hn with rfl|rfl<;>rfl) (fun ia3 iok3=>?_)
 refine CR ?_;refine A0 (by first|exact zr rfl rfl rfl rfl rfl ty_84|exact za7 rfl rfl rfl rfl ty_84) ?_;refine zaI (pwrite_ok p hw) rfl fn_44 rfl ⟨(by first|exact zdp rfl rfl (Lens.self _)|exact zcz rfl rfl),trivial⟩ (fun hm=>?_) (fun hm=>?_)
 ·
  refine zez ?_;refine ap_fine (n:=4) za9 rfl rfl rfl ty_4 ?_;refine qat ?_;refine A0 (oLs rfl rfl rfl zdu) ?_;refine qav ?_;refine qbt ?_
  exact zZ rfl rfl (zb rfl (by unfold pputL;rw [if_neg hm])) (zb rfl (Bool.eq_false_iff.2 hm).symm)
 ·
  refine A0 (oCl (zq ((pwrite_ok p hw).1 hm)) rfl fn_44 ⟨(by first|exact zdp rfl rfl (Lens.self _)|exact zcz rfl rfl),trivial⟩) ?_;refine zh rfl rfl rfl rfl rfl (Lens.self _) zdu rfl ?_;refine CN ?_;refine aw_back0f rfl ?_;refine CNQR ?_;refine aw_store_o rfl rfl rfl rfl rfl ty_4 rfl ?_;refine CN ?_;refine aw_fineret za9 rfl rfl rfl ty_4 ?_;refine qat ?_;refine A0 (oLs rfl rfl rfl zdu) ?_;refine qav ?_;refine qbt ?_
  exact zZ rfl rfl (zb rfl (by unfold pputL;rw [if_pos hm])) (zb rfl hm.symm)
set_option maxRecDepth 20000
def readR (b:List UInt8):Proof:=if readOk b=true then readP b else zProof
theorem zcT {b:List UInt8} (h:readOk b=false):readR b=zProof:=by unfold readR;rw [h];rfl
theorem readR_yes {b:List UInt8} (h:readOk b=true):readR b=readP b:=by unfold readR;rw [if_pos h]
theorem no_len {b:List UInt8} (h:¬decide ((2:Int)<(b.length:Int))=true):readOk b=false:=by
  unfold readOk
  rw [decide_eq_true_eq] at h
  rw [decide_eq_false (by omega)];rfl
theorem no_split {b:List UInt8} (h:¬(splitOf (b.drop 2)).2=true):readOk b=false:=by
  unfold readOk
  rw [Bool.eq_false_iff.2 h,Bool.and_false];rfl
theorem no_part {b r:List UInt8} (hr:r∈(splitOf (b.drop 2)).1) (h:¬partOk r=true):readOk b=false:=by
  unfold readOk
  have:(splitOf (b.drop 2)).1.all partOk=false:=List.all_eq_false.2 ⟨r,hr,h⟩
  rw [this,Bool.and_false];rfl
theorem no_size {b:List UInt8} (h:¬sizeOk (readP b)=true):readOk b=false:=by
  unfold readOk
  rw [Bool.eq_false_iff.2 h,Bool.and_false]
theorem pno_split {r:List UInt8} (h:¬(splitOf r).2=true):¬partOk r=true:=fun hp=>by
  unfold partOk at hp
  rw [Bool.and_eq_true] at hp
  exact h hp.1
theorem pno_nil {r:List UInt8} (h:¬decide ((0:Int)<((splitOf r).1.length:Int))=true):¬partOk r=true:=fun hp=>by
  unfold partOk at hp
  rw [decide_eq_true_eq] at h
  have:(splitOf r).1=[]:=List.length_eq_zero_iff.1 (by omega)
  rw [this] at hp
  simp at hp
theorem pno_head {r x:List UInt8} (hx:(splitOf r).1[0]?=some x) (h:¬readHOk x=true):¬partOk r=true:=fun hp=>by
  unfold partOk at hp
  cases hl:(splitOf r).1 with
  | nil=>rw [hl] at hx;simp at hx
  | cons z l =>
    rw [hl] at hx hp
    simp at hx
    subst hx
    simp only [Bool.and_eq_true] at hp
    exact h hp.2.1
theorem pno_id {r y:List UInt8} (hy:y∈(splitOf r).1.drop 1) (h:¬decide ((y.length:Int)=32)=true):¬partOk r=true:=fun hp=>by
  unfold partOk at hp
  rw [decide_eq_true_eq] at h
  cases hl:(splitOf r).1 with
  | nil=>rw [hl] at hy;simp at hy
  | cons z l =>
    rw [hl] at hy hp
    simp only [Bool.and_eq_true,List.all_eq_true,decide_eq_true_eq] at hp
    exact h (by have:=hp.2.2 y hy;omega)
theorem part_yes {r x:List UInt8} (h1:(splitOf r).2=true) (hx:(splitOf r).1[0]?=some x) (h2:readHOk x=true) (h3:∀y∈(splitOf r).1.drop 1,y.length=32):partOk r=true∧(⟨readH x,(splitOf r).1.drop 1⟩:Part)=readPart r:=by
  unfold partOk readPart
  cases hl:(splitOf r).1 with
  | nil=>rw [hl] at hx;simp at hx
  | cons z l =>
    rw [hl] at hx h3
    simp at hx
    subst hx
    refine ⟨?_,?_⟩
    · simp only [Bool.and_eq_true,List.all_eq_true,decide_eq_true_eq]
      exact ⟨h1,h2,fun y hy=>h3 y hy⟩
    · rw [readH_yes h2];rfl
theorem mem_sum {α:Type} (f:α→Nat) {x:α}:∀{l:List α},x∈l→f x≤(l.map f).sum
  | y::l,h=>by
    rw [List.map_cons,List.sum_cons]
    rcases List.mem_cons.1 h with e|h
    · rw [e];omega
    · have:=mem_sum f h;omega
theorem row_short {b r:List UInt8} (h:(splitOf b).2=true) (hr:r∈(splitOf b).1):r.length≤b.length:=by
  have e:=(rows_split h).1
  have h1:=rows_len (splitOf b).1
  rw [e] at h1
  have h2:2+r.length≤_:=mem_sum (fun x:List UInt8=>2+x.length) hr
  omega
theorem rows_few {b:List UInt8} (h:(splitOf b).2=true):(splitOf b).1.length≤255:=by
  have:=(rows_split h).2
  unfold rowsOk at this
  rw [Bool.and_eq_true,decide_eq_true_eq] at this
  exact this.1
theorem yes_read {b:List UInt8} (h1:decide ((2:Int)<(b.length:Int))=true) (h2:(splitOf (b.drop 2)).2=true) (h3:∀r∈(splitOf (b.drop 2)).1,partOk r=true) (h4:sizeOk (readP b)=true):readOk b=true:=by
  unfold readOk
  rw [decide_eq_true_eq] at h1
  rw [h2,h4,decide_eq_true (by omega),List.all_eq_true.2 h3];rfl
theorem readP_is {b:List UInt8} {b0 b1:UInt8} (h0:b[0]?=some b0) (h1:b[1]?=some b1):(⟨(b0.toNat:Int),(b1.toNat:Int),(splitOf (b.drop 2)).1.map readPart⟩:Proof)=readP b:=by
  unfold readP
  rw [List.getD_eq_getElem?_getD,List.getD_eq_getElem?_getD,h0,h1];rfl
theorem zn_paper:ZeroAt P 86 proofN (0,0,()):=zac (zX zbL (zX zbL zero_nil)) (by kernel_rfl)
def partN:GoT (Head×Unit):=pairT headT nilT
theorem zn_part:ZeroAt P 55 partN (zHead,()):=zac (zX zero_Head zero_nil) (by kernel_rfl)
theorem split_part {h:Head}:SplitOk partN (h,()) [.val headT h,.lit (.slice none 0 0)]:=zbD zbP split_nil
theorem join_part {h:Head} {l:List Ab.Id}:JoinOk partT (⟨h,l⟩:Part) [.val headT h] idT l:=join_via (zen join_last)
theorem cvi_u8 (x:UInt8):IntKind.i64.wrap (IntL.toI u8T x)=(x.toNat:Int):=by
  have h:x.toNat<256:=x.toNat_lt
  have e:IntL.toI u8T x=(x.toNat:Int):=rfl
  rw [e]
  exact zae (by omega)
theorem pread_ok (b:List UInt8) (hb:b.length≤1000000000):Tells P 20 [.val (bsl u8T) b] (.tup2 (.val proofT (readR b)) (.val boolT (readOk b))):=by
 refine zc Tryz.func20 rfl rfl rfl (fun ext w hext=>?_)
 refine ze (d:=0) rfl zl (fun hsl0=>?_)
 refine qaf ?_;refine zw zcR rfl rfl rfl rfl ?_;refine qat ?_;refine A0 (zD rfl zn_paper bd_86 .nil rfl) ?_;refine aw_box rfl rfl rfl rfl rfl ?_;refine aw_alloc_p zp_84 rfl rfl rfl rfl rfl rfl ?_;refine zaj rfl rfl rfl rfl rfl rfl rfl rfl rfl rfl ty_84 ?_;refine CN ?_;refine zdI 2 (x:=(0,0,())) zfr rfl ?_;refine zcH 2 55 partT [.val i64T 0,.val i64T 0] rfl (by intro x hx;simp only [List.mem_cons,List.not_mem_nil,or_false] at hx;rcases hx with rfl|rfl<;>trivial) ?_;refine CQQR ?_;refine A0 (g_mkf (caps:=[_,_]) rfl rfl) ?_
 refine z6 rfl rfl rfl rfl Tryz.func42 fn_42 rfl rfl (fun ia3 iok3=>?_)
 refine CQR ?_;refine zw ze_4 rfl rfl rfl rfl ?_;refine CNQR ?_;refine A0 (g_mkf (caps:=[_]) rfl rfl) ?_;refine aw_defer rfl rfl rfl rfl rfl rfl rfl (fun bD=>?_)
 refine CNQR ?_;refine A0 mC ?_;refine aw_inlinec rfl rfl rfl rfl rfl Tryz.func47 fn_47 rfl rfl (by intro n hn;simp only [List.mem_cons,List.not_mem_nil,or_false] at hn;rcases hn with rfl|rfl<;>rfl) (fun ia4 iok4=>?_)
 refine CR ?_;refine A0 (by first|exact zr rfl rfl rfl rfl rfl ty_84|exact za7 rfl rfl rfl rfl ty_84) ?_;refine A0 (oLs rfl rfl rfl zdu) ?_;refine z6 rfl rfl rfl rfl Tryz.func48 fn_48 rfl rfl (fun ia5 iok5=>?_)
 refine qa2 ?_;refine qbM ?_;refine A0 zaG ?_;refine zaI (zbj (decide ((2:Int)<(b.length:Int)))) rfl zeC rfl ⟨(zd rfl),trivial⟩ (fun hm1=>?_) (fun hm1=>?_)
 ·
  have hno:=no_len hm1
  refine zez ?_;refine zez ?_;refine ap_fine (n:=5) za9 rfl rfl rfl ty_4 ?_;refine qaR ?_;refine Ct ?_;refine CQR ?_;refine A0 (zD rfl zcR zdT .nil rfl) ?_;refine qai ?_;refine qac ?_
  exact zC rfl rfl (zJ rfl rfl zaE ((zcT hno).symm)) (zai (zb rfl (hno.symm)))
 ·
  refine A0 (oCl ((zbj (decide ((2:Int)<(b.length:Int)))).1 hm1) rfl zeC ⟨(zd rfl),trivial⟩) ?_;refine CNQ ?_
  have hbl:2<b.length:=by have:=of_decide_eq_true hm1;omega
  obtain ⟨b0,hb0⟩:∃x,b[0]?=some x:=⟨_,List.getElem?_eq_getElem (by omega)⟩
  obtain ⟨b1,hb1⟩:∃x,b[1]?=some x:=⟨_,List.getElem?_eq_getElem (by omega)⟩
  have hb08:b0.toNat<256:=b0.toNat_lt
  have hb18:b1.toNat<256:=b1.toNat_lt
  refine zE [some 1,some 1000001,some 1,some 1,some 1,some 1,some 1,some 1,some 1,some 1000001,some 1,some 1,some 1,none,some 1,some 1,some 1,none] mixed (by decide +kernel) ?_;refine X0 mP ?_;refine XK.ga (fun _=>g_mp (.inl rfl) rfl) rfl rfl rfl ?_;refine X0 mV ?_;refine X0 (zo (i:=0) rfl rfl rfl (by omega) zav (by assumption)) ?_;refine X0 (zf rfl rfl ty_5) ?_;refine X0 (zeV rfl (ui_3) (us_5) rfl (by exact cvi_u8 _)) ?_;refine X0 mV ?_;refine X0 (zo (i:=1) rfl rfl rfl (by omega) zav (by assumption)) ?_;refine X0 (zf rfl rfl ty_5) ?_
  refine XK.ga (fun _=>zeV rfl (ui_3) (us_5) rfl (by exact cvi_u8 _)) rfl rfl rfl ?_;refine X0 (g_nc rfl rfl) ?_;refine X0 (oFp zcD) ?_;refine X0 (oFp zcG) ?_;refine XK.e (x:=.idk) (fun fr' hfr kk H=>by exact zaj rfl rfl rfl ((hfr 28 (by decide +kernel)).trans rfl) rfl rfl ((hfr 21 (by decide +kernel)).trans rfl) rfl rfl rfl ty_3 (zH H)) ?_;refine X0 (g_nc rfl rfl) ?_;refine X0 (oFp zcD) ?_;refine X0 (oFp zb6) ?_
  refine XK.e (x:=.idk) (fun fr' hfr kk H=>by exact zaj rfl rfl rfl ((hfr 31 (by decide +kernel)).trans rfl) rfl rfl ((hfr 25 (by decide +kernel)).trans rfl) rfl rfl rfl ty_3 (zH H)) ?_;refine XK.nil' ?_;refine qbi ?_;refine A0 (zeK rfl rfl rfl zav (by first|assumption|omega|(simp;omega))) ?_;refine zaI (split_pok (b.drop 2) (by simp;omega)) rfl fn_94 rfl ⟨(zd rfl),trivial⟩ (fun hs1=>?_) (fun hs1=>?_)
  ·
   have hno:=no_split hs1
   refine zez ?_;refine zez ?_;refine ap_fine (n:=5) za9 rfl rfl rfl ty_4 ?_;refine qaR ?_;refine Ct ?_;refine CQR ?_;refine A0 (zD rfl zcR zdT .nil rfl) ?_;refine qai ?_;refine qac ?_
   exact zC rfl rfl (zJ rfl rfl zaE ((zcT hno).symm)) (zai (zb rfl (hno.symm)))
  ·
   refine A0 (oCl (zq ((split_pok (b.drop 2) (by simp;omega)).1 hs1)) rfl fn_94 ⟨(zd rfl),trivial⟩) ?_
   obtain ⟨R,hR⟩:∃R,R=(splitOf (b.drop 2)).1:=⟨_,rfl⟩
   have hRl:R.length≤255:=hR▸rows_few hs1
   refine zi (d:=34) (y:=R) rfl (by rw [hR]) ?_;refine A0 (zK rfl rfl isl_89) ?_;refine qaA ?_;refine zaH 4 6 7 rfl rfl rfl rfl rfl rfl ?_
   refine Lp (ι:=Nat) 7 (fun (i:Nat)=>((((Fr.none).set 0 (.ptr 2 0)).set 34 (.val (sl (sl u8T)) R)).set 35 (.val i64T (R.length:Int))).set 36 (.val i64T (i:Int))) (fun (i:Nat)=>(((((Hp.none).set 1 (.box 25 proofT zProof)).set 2 (.parts 86 [.val i64T (b0.toNat:Int),.val i64T (b1.toNat:Int),.own 6])).set 3 (.parts 84 [.ptr 2 0])).set 6 (.row 55 partT ((R.take i).map readPart))).set 5 (.objAt bD (.cells #[.bool false] 4 (0,0)))) (fun (i:Nat)=>i≤R.length∧∀r∈R.take i,partOk r=true) (fun (i:Nat)=>R.length-i) (0) (⟨Nat.zero_le _,fun x hx=>by simp at hx⟩) ?_
   intro i hi
   refine qak ?_;refine Cf (p:=i<R.length) (fun ht37=>?_) (fun ht37=>?_)
   ·
    obtain ⟨r,hr⟩:∃r,R[i]?=some r:=⟨_,List.getElem?_eq_getElem ht37⟩
    have hrm:r∈(splitOf (b.drop 2)).1:=by rw [←hR];exact List.mem_of_getElem? hr
    have hrl:=row_short hs1 hrm
    rw [List.length_drop] at hrl
    refine CSQBQR ?_;refine A0 (zo (i:=i) rfl rfl rfl (by omega) ze5 (by assumption)) ?_;refine A0 (zf rfl rfl zdu) ?_;refine qaV ?_;refine zaI (split_pok r (by omega)) rfl fn_94 rfl ⟨(by first|exact zy rfl|exact zW rfl|exact zF rfl rfl|exact zU rfl|exact zs rfl|exact zag rfl rfl|exact zV rfl),trivial⟩ (fun hs2=>?_) (fun hs2=>?_)
    ·
     have hno:=no_part hrm (pno_split hs2)
     refine zez ?_;refine zez ?_;refine ap_fine (n:=5) za9 rfl rfl rfl ty_4 ?_;refine qaR ?_;refine Ct ?_;refine CQR ?_;refine A0 (zD rfl zcR zdT .nil rfl) ?_;refine qai ?_;refine qac ?_
     exact zC rfl rfl (zJ rfl rfl zaE ((zcT hno).symm)) (zai (zb rfl (hno.symm)))
    ·
     refine A0 (oCl (zq ((split_pok r (by omega)).1 hs2)) rfl fn_94 ⟨(by first|exact zy rfl|exact zW rfl|exact zF rfl rfl|exact zU rfl|exact zs rfl|exact zag rfl rfl|exact zV rfl),trivial⟩) ?_;refine qae ?_;refine A0 (zK rfl rfl isl_89) ?_;refine A0 zaG ?_;refine zaI (zbj (decide ((0:Int)<((splitOf r).1.length:Int)))) rfl zeC rfl ⟨(zd rfl),trivial⟩ (fun hm2=>?_) (fun hm2=>?_)
     ·
      have hno:=no_part hrm (pno_nil hm2)
      refine zez ?_;refine zez ?_;refine ap_fine (n:=5) za9 rfl rfl rfl ty_4 ?_;refine qaR ?_;refine Ct ?_;refine CQR ?_;refine A0 (zD rfl zcR zdT .nil rfl) ?_;refine qai ?_;refine qac ?_
      exact zC rfl rfl (zJ rfl rfl zaE ((zcT hno).symm)) (zai (zb rfl (hno.symm)))
     ·
      refine A0 (oCl ((zbj (decide ((0:Int)<((splitOf r).1.length:Int)))).1 hm2) rfl zeC ⟨(zd rfl),trivial⟩) ?_
      have hlp:1≤(splitOf r).1.length:=by have:=of_decide_eq_true hm2;omega
      obtain ⟨x,hx⟩:∃x,(splitOf r).1[0]?=some x:=⟨_,List.getElem?_eq_getElem (by have:=of_decide_eq_true hm2;omega)⟩
      refine CNQR ?_;refine qav ?_;refine A0 (zo (i:=0) rfl rfl rfl (by omega) ze5 (by assumption)) ?_;refine A0 (zf rfl rfl zdu) ?_;refine A0 (oCl (readHead_ok x) rfl fn_95 ⟨(by first|exact zy rfl|exact zW rfl|exact zF rfl rfl|exact zU rfl|exact zs rfl|exact zag rfl rfl|exact zV rfl),trivial⟩) ?_;refine A0 mX ?_;refine A0 (by first|exact zO rfl rfl|exact zM rfl rfl) ?_;refine A0 (by first|exact zR rfl rfl|exact zQ rfl rfl) ?_;refine qcc ?_;refine qaS ?_;refine qae ?_
      refine zaI (zbj (readHOk x)) rfl zeC rfl ⟨(zd rfl),trivial⟩ (fun hm3=>?_) (fun hm3=>?_)
      ·
       have hno:=no_part hrm (pno_head hx hm3)
       refine zez ?_;refine zez ?_;refine ap_fine (n:=5) za9 rfl rfl rfl ty_4 ?_;refine qaR ?_;refine Ct ?_;refine CQR ?_;refine A0 (zD rfl zcR zdT .nil rfl) ?_;refine qai ?_;refine qac ?_
       exact zC rfl rfl (zJ rfl rfl zaE ((zcT hno).symm)) (zai (zb rfl (hno.symm)))
      ·
       refine A0 (oCl ((zbj (readHOk x)).1 hm3) rfl zeC ⟨(zd rfl),trivial⟩) ?_;refine CNQR ?_;refine qbD ?_;refine A0 (zD rfl zn_part bd_55 (.cons za6 (Lens.fst _ _) zal rfl .nil) rfl) ?_;refine zw zn_part rfl rfl rfl rfl ?_;refine zh rfl rfl rfl rfl rfl (Lens.self _) ty_55 rfl ?_;refine CN ?_;refine zdI 8 (x:=(readH x,())) split_part rfl ?_;refine zcH 8 46 idT [.val headT (readH x)] rfl (by intro x hx;simp only [List.mem_cons,List.not_mem_nil,or_false] at hx;rcases hx with rfl<;>trivial) ?_;refine qbi ?_
       refine A0 (zeK rfl rfl rfl ze5 (by first|assumption|omega|(simp;omega))) ?_
       obtain ⟨L,hL⟩:∃L,L=(splitOf r).1.drop 1:=⟨_,rfl⟩
       have hLl:L.length≤255:=by rw [hL,List.length_drop];have:=rows_few hs2;omega
       refine zi (d:=58) (y:=L) rfl (by rw [hL];rfl) ?_;refine A0 (zK rfl rfl isl_89) ?_;refine qaA ?_
       refine Lp (ι:=Nat) 10 (fun (j:Nat)=>((((((((Fr.none).set 0 (.ptr 2 0)).set 9 (.ptr 8 0)).set 34 (.val (sl (sl u8T)) R)).set 35 (.val i64T (R.length:Int))).set 36 (.val i64T (i:Int))).set 58 (.val (sl (sl u8T)) L)).set 59 (.val i64T (L.length:Int))).set 60 (.val i64T (j:Int))) (fun (j:Nat)=>(((((((Hp.none).set 1 (.box 25 proofT zProof)).set 2 (.parts 86 [.val i64T (b0.toNat:Int),.val i64T (b1.toNat:Int),.own 6])).set 3 (.parts 84 [.ptr 2 0])).set 6 (.row 55 partT ((R.take i).map readPart))).set 5 (.objAt bD (.cells #[.bool false] 4 (0,0)))).set 8 (.parts 55 [.val headT (readH x),.own 9])).set 9 (.row 46 idT (L.take j))) (fun (j:Nat)=>j≤L.length∧∀y∈L.take j,y.length=32) (fun (j:Nat)=>L.length-j) (0) (⟨Nat.zero_le _,fun x hx=>by simp at hx⟩) ?_
       intro j hj
       refine qak ?_;refine Cf (p:=j<L.length) (fun ht61=>?_) (fun ht61=>?_)
       ·
        obtain ⟨y,hy⟩:∃y,L[j]?=some y:=⟨_,List.getElem?_eq_getElem ht61⟩
        refine CSQBQR ?_;refine A0 (zo (i:=j) rfl rfl rfl (by omega) ze5 (by assumption)) ?_;refine A0 (zf rfl rfl zdu) ?_;refine qaV ?_;refine A0 (by first|exact zK rfl rfl zbi|exact zak rfl rfl rfl zbi|exact zaw rfl rfl zbi) ?_;refine A0 zaW ?_;refine zaI (zbj (decide ((y.length:Int)=32))) rfl zeC rfl ⟨(zd rfl),trivial⟩ (fun hm4=>?_) (fun hm4=>?_)
        ·
         have hno:=no_part hrm (pno_id (hL▸List.mem_of_getElem? hy) hm4)
         refine zez ?_;refine zez ?_;refine ap_fine (n:=5) za9 rfl rfl rfl ty_4 ?_;refine qaR ?_;refine Ct ?_;refine CQR ?_;refine A0 (zD rfl zcR zdT .nil rfl) ?_;refine qai ?_;refine qac ?_
         exact zC rfl rfl (zJ rfl rfl zaE ((zcT hno).symm)) (zai (zb rfl (hno.symm)))
        ·
         refine A0 (oCl ((zbj (decide ((y.length:Int)=32))).1 hm4) rfl zeC ⟨(zd rfl),trivial⟩) ?_;refine CN ?_;refine zE [some 1,some 1,some 1,some 1,some 1,some 1,none,some 1,none] mixed (by decide +kernel) ?_;refine X0 (oFp zbv) ?_;refine X0 (zr rfl rfl rfl rfl rfl zbc) ?_;refine X0 mX ?_;refine X0 (g_s2a (T:=u8T) (n:=32) 5 (by decide) rfl rfl (by kernel_rfl) (by have:=of_decide_eq_true hm4;omega)) ?_;refine X0 (zf rfl rfl zG) ?_;refine X0 (zu (T:=idT) (xs:=[_]) rfl zbW zde ⟨rfl,rfl,trivial⟩ rfl rfl) ?_
         refine XK.e (fun fr' hfr kk H=>by exact zB rfl rfl rfl rfl ((hfr 69 (by decide +kernel)).trans rfl) rfl ((hfr 73 (by decide +kernel)).trans rfl) zde (by simp [List.length_take];omega) (zH H)) ?_;refine X0 (oFp zbv) ?_;refine XK.e (x:=.idk) (fun fr' hfr kk H=>by exact zaj rfl rfl rfl ((hfr 75 (by decide +kernel)).trans rfl) rfl rfl ((hfr 74 (by decide +kernel)).trans rfl) rfl rfl rfl zbc (zH H)) ?_;refine qaL ?_;refine zaH 10 9 11 rfl rfl rfl rfl rfl rfl ?_;refine zz (n:=9) (y:=L.take (j+1)) rfl (by rw [List.take_add_one,hy];rfl) ?_
         exact Nx (j+1) (⟨by omega,fun z hz=>by rw [List.take_add_one,hy] at hz;rcases List.mem_append.1 hz with h|h;exact hj.2 z h;simp at h;rw [h];have:=of_decide_eq_true hm4;omega⟩) (by omega)
       ·
        refine CE ?_
        have hLj:L.take j=L:=List.take_of_length_le (by omega)
        have hpy:=part_yes hs2 hx hm3 (by rw [←hL,←hLj];exact hj.2)
        refine zz (n:=9) (y:=L) rfl (by rw [hLj]) ?_;refine aw_joinb 8 9 [.val headT (readH x)] (z:=(⟨readH x,L⟩:Part)) (R:=partT) rfl rfl rfl join_part ?_;refine zS (n:=8) (y:=(⟨readH x,(splitOf r).1.drop 1⟩:Part)) rfl (by rw [hL]) ?_;refine zE [some 1000001,some 1,some 1,some 1,some 1,some 1,some 1,some 1,none,some 1,some 1,some 1,none] mixed (by decide +kernel) ?_;refine XK.ga (fun _=>g_mp (.inl rfl) rfl) rfl rfl rfl ?_;refine X0 mP ?_;refine X0 (g_nc rfl rfl) ?_;refine X0 (oFp zcD) ?_;refine X0 (oFp zaq) ?_;refine X0 (zr rfl rfl rfl rfl rfl zcd) ?_
        refine X0 (oLs rfl rfl rfl ty_55) ?_;refine X0 (zu (T:=partT) (xs:=[_]) rfl zaP row_23 ⟨rfl,rfl,trivial⟩ rfl rfl) ?_;refine XK.e (fun fr' hfr kk H=>by exact zB rfl rfl rfl rfl ((hfr 82 (by decide +kernel)).trans rfl) rfl ((hfr 84 (by decide +kernel)).trans rfl) row_23 (by simp [List.length_take];omega) (zH H)) ?_;refine X0 (g_nc rfl rfl) ?_;refine X0 (oFp zcD) ?_;refine X0 (oFp zaq) ?_
        refine XK.e (x:=.idk) (fun fr' hfr kk H=>by exact zaj rfl rfl rfl ((hfr 88 (by decide +kernel)).trans rfl) rfl rfl ((hfr 85 (by decide +kernel)).trans rfl) rfl rfl rfl zcd (zH H)) ?_;refine qaL ?_;refine zaH 10 6 11 rfl rfl rfl rfl rfl rfl ?_;refine zz (n:=6) (y:=(R.take (i+1)).map readPart) rfl (by rw [List.take_add_one,hr,List.map_append,hpy.2];rfl) ?_
        exact Nx (i+1) (⟨by omega,fun y hy=>by rw [List.take_add_one,hr] at hy;rcases List.mem_append.1 hy with h|h;exact hi.2 y h;simp at h;rw [h];exact hpy.1⟩) (by omega)
   ·
    refine CE ?_
    have hRi:R.take i=R:=List.take_of_length_le (by omega)
    refine zz (n:=6) (y:=(splitOf (b.drop 2)).1.map readPart) rfl (by rw [hRi,hR]) ?_;refine aw_joinb 2 6 [.val i64T (b0.toNat:Int),.val i64T (b1.toNat:Int)] (z:=(⟨(b0.toNat:Int),(b1.toNat:Int),(splitOf (b.drop 2)).1.map readPart⟩:Proof)) (R:=proofT) rfl rfl rfl join_proof ?_;refine zS (n:=2) (y:=readP b) rfl (readP_is hb0 hb1) ?_;refine CR ?_;refine A0 mP ?_;refine zaI (pcheck_ok (readP b)) rfl fn_87 rfl ⟨(by first|exact zdp rfl rfl (Lens.self _)|exact zcz rfl rfl),trivial⟩ (fun hs3=>?_) (fun hs3=>?_)
    ·
     have hno:=no_size hs3
     refine zez ?_;refine zez ?_;refine ap_fine (n:=5) za9 rfl rfl rfl ty_4 ?_;refine qaR ?_;refine Ct ?_;refine CQR ?_;refine A0 (zD rfl zcR zdT .nil rfl) ?_;refine qai ?_;refine qac ?_
     exact zC rfl rfl (zJ rfl rfl zaE ((zcT hno).symm)) (zai (zb rfl (hno.symm)))
    ·
     refine A0 (oCl ((pcheck_ok (readP b)).1 hs3) rfl fn_87 ⟨(by first|exact zdp rfl rfl (Lens.self _)|exact zcz rfl rfl),trivial⟩) ?_
     have hok:=yes_read hm1 hs1 (fun r hr=>hi.2 r (by rw [hRi,hR];exact hr)) hs3
     refine CN ?_;refine aw_back0f rfl ?_;refine CN ?_;refine aw_back0f rfl ?_;refine CNQR ?_;refine aw_store_o rfl rfl rfl rfl rfl ty_4 rfl ?_;refine CN ?_;refine aw_fineret za9 rfl rfl rfl ty_4 ?_;refine qaR ?_;refine Cg ?_;refine CSQR ?_;refine A0 (by first|exact zr rfl rfl rfl rfl rfl ty_84|exact za7 rfl rfl rfl rfl ty_84) ?_;refine A0 (g_nc rfl rfl) ?_;refine A0 (oFp zcD) ?_;refine A0 (oLs rfl rfl rfl zaE) ?_;refine qai ?_;refine qac ?_
     exact zC rfl rfl (zJ rfl rfl zaE ((readR_yes hok).symm)) (zai (zb rfl (hok.symm)))
set_option maxRecDepth 20000
theorem easy_pw:PW easyP:=by
  intro x hx
  have hx:x=⟨easyH,[]⟩∨x=⟨easyB.h,[id0]⟩:=by simpa [easyP] using hx
  rcases hx with rfl|rfl
  · exact ⟨by refine ⟨?_,?_,?_,?_,?_⟩<;>kernel_rfl,fun y hy=>by cases hy⟩
  · refine ⟨by refine ⟨?_,?_,?_,?_,?_⟩<;>kernel_rfl,fun y hy=>?_⟩
    rw [List.mem_singleton.1 hy];kernel_rfl
theorem easy_wok:wOk easyP=true:=by kernel_rfl
theorem easy_plen:(pputL easyP).length=399:=by
  unfold pputL
  rw [if_pos easy_wok,put_len easy_pw easy_wok];rfl
theorem easy_put:readOk (pputL easyP)=true∧readP (pputL easyP)=easyP:=by
  unfold pputL
  rw [if_pos easy_wok]
  exact proof_back easy_pw easy_wok
theorem easy_places:placesOf [easyB0,easyB] 1 1=[0,1]:=by
  unfold placesOf
  rw [easy_prefix];rfl
theorem easy_wiE:wiE [easyB0,easyB] 1 1 0=0:=by
  unfold wiE
  rw [if_neg (fun h=>h easy_prE),if_neg (by decide)]
theorem easy_wi:wiOf [easyB0,easyB] 1 1 0=easyP:=by
  have h:=build_is easy_prE
  rw [easy_pr] at h
  have hb:=zbp easy_prE
  unfold wiOf
  rw [if_pos easy_wiE,h]
  unfold zbO wayL
  rw [if_pos ((isIn_iff (zax hb) 0).2 (by rw [easy_places];decide))]
theorem awake17_ok:Tells P 11 [] (.val boolT true):=by
 refine zc Tryz.func11 rfl rfl rfl (fun ext w hext=>?_)
 have hx1:easyP.p[1]?=some (⟨easyB.h,[id0]⟩:Part):=rfl
 refine CQR ?_;refine qat ?_;refine A0 (oCl (two_ok) rfl fn_29 trivial) ?_;refine A0 (oCl (zbU [easyB0,easyB] 1 1 small_easyC) rfl fn_14 ⟨(zd rfl),(zd rfl),(zd rfl),trivial⟩) ?_;refine A0 mX ?_;refine A0 (by first|exact zO rfl rfl|exact zM rfl rfl) ?_;refine zi (d:=12) (y:=easyP) rfl (easy_pr) ?_;refine A0 (by first|exact zR rfl rfl|exact zQ rfl rfl) ?_;refine zi (d:=13) (y:=(0:Int)) rfl (easy_prE) ?_;refine qaC ?_;refine qat ?_;refine A0 (oCl (two_ok) rfl fn_29 trivial) ?_
 refine A0 (oCl (prWith_ok [easyB0,easyB] 1 1 0 small_easyC) rfl fn_16 ⟨(zd rfl),(zd rfl),(zd rfl),(zd rfl),trivial⟩) ?_;refine A0 mX ?_;refine A0 (by first|exact zO rfl rfl|exact zM rfl rfl) ?_;refine zi (d:=17) (y:=easyP) rfl (easy_wi) ?_;refine A0 (by first|exact zR rfl rfl|exact zQ rfl rfl) ?_;refine zi (d:=18) (y:=(0:Int)) rfl (easy_wiE) ?_;refine qaC ?_;refine qaY ?_;refine A0 (oCl (zeT easyP) rfl fn_18 ⟨(zd rfl),trivial⟩) ?_;refine A0 mX ?_;refine A0 (by first|exact zO rfl rfl|exact zM rfl rfl) ?_
 refine A0 (by first|exact zR rfl rfl|exact zQ rfl rfl) ?_;refine zi (d:=23) (y:=true) rfl (easy_wok) ?_;refine qbz ?_;refine A0 (oCl (pread_ok (pputL easyP) (by rw [easy_plen];decide)) rfl fn_20 ⟨(zd rfl),trivial⟩) ?_;refine A0 mX ?_;refine A0 (by first|exact zO rfl rfl|exact zM rfl rfl) ?_;refine zi (d:=27) (y:=easyP) rfl ((readR_yes easy_put.1).trans easy_put.2) ?_;refine A0 (by first|exact zR rfl rfl|exact zQ rfl rfl) ?_;refine zi (d:=28) (y:=true) rfl (easy_put.1) ?_;refine qaC ?_;refine qae ?_;refine A0 zaW ?_;refine zay (d:=30) rfl (rfl) ?_
 refine qbp ?_;refine A1 zaW ?_;refine zay (d:=33) rfl (rfl) ?_;refine qag ?_;refine qar ?_;refine A1 zaW ?_;refine zay (d:=39) rfl (rfl) ?_;refine qag ?_;refine qar ?_;refine A1 zaW ?_;refine zay (d:=45) rfl (rfl) ?_;refine qbv ?_;refine zay (d:=48) rfl (rfl) ?_;refine qbv ?_;refine zay (d:=51) rfl (rfl) ?_;refine qag ?_;refine A1 (oLs rfl rfl rfl zaE) ?_;refine A1 (oLs rfl rfl rfl zaE) ?_;refine A1 (oCl (sameP_ok easyP easyP) rfl fn_23 ⟨(zd rfl),(zd rfl),trivial⟩) ?_;refine zay (d:=56) rfl (by simp) ?_;refine qbv ?_;refine A1 (zK rfl rfl zbi) ?_
 refine A1 zaG ?_;refine zay (d:=61) rfl (by rw [easy_plen];rfl) ?_;refine qag ?_;refine A1 (oFp zaq) ?_;refine A1 (oLb zao zcd) ?_;refine A1 (zo (i:=1) rfl rfl rfl (by omega) zaP (by assumption)) ?_;refine A1 (oFr za6 zaO) ?_;refine A1 (oFr zaU z7) ?_;refine A1 (zf rfl rfl ty_3) ?_;refine A1 zaW ?_;refine qa1 ?_
 exact za rfl rfl (zb rfl (rfl))
set_option maxRecDepth 20000
section
variable {l:List Block} {m k:Int}
def partsOf (l:List Block) (m k:Int):List Part:=(placesOf l m k).map (prPart l)
theorem zcB:(partsOf l m k).length=(placesOf l m k).length:=by unfold partsOf;simp
theorem chain_part (h : BuildOk l m k) {i : Nat} (hi : i < (partsOf l m k).length) : ∃ (p : Int) (b : Block), (placesOf l m k)[i]? = some p ∧ l[p.toNat]? = some b ∧ 0 ≤ p ∧ p < l.length ∧ b.h.height = p ∧ (partsOf l m k)[i]? = some ⟨b.h, b.l⟩ ∧
    ((i<(prefixOf (levelsOf l) m k).1.length∧(prefixOf (levelsOf l) m k).1[i]?=some p)∨((prefixOf (levelsOf l) m k).1.length≤i∧(l.length:Int)-k≤p)):=by
  rw [zcB] at hi
  obtain ⟨p,hp⟩:∃p,(placesOf l m k)[i]?=some p:=⟨_,List.getElem?_eq_getElem hi⟩
  obtain ⟨h1,h2⟩:=places_at h hp
  obtain ⟨b,h3,h4,h5⟩:=part_at h hp
  exact ⟨p,b,hp,h3,h1.1,h1.2,h4,h5,h2⟩
theorem chain_first (h:BuildOk l m k):∃b:Block,l[0]?=some b∧(partsOf l m k)[0]?=some ⟨b.h,b.l⟩:=by
  obtain ⟨b,h1,_,h3⟩:=part_at h (places_first h)
  exact ⟨b,h1,h3⟩
theorem chain_last (h:BuildOk l m k):∃b:Block,l[l.length-1]?=some b∧(partsOf l m k)[(partsOf l m k).length-1]?=some ⟨b.h,b.l⟩:=by
  have h1:=places_last h
  have hk:=h.k1;have hl:=h.kl
  obtain ⟨b,h2,_,h3⟩:=part_at h h1
  rw [show ((l.length:Int)-1).toNat=l.length-1 by omega] at h2
  exact ⟨b,h2,by rw [zcB];exact h3⟩
theorem partsOf_few (h:BuildOk l m k):(partsOf l m k).length=(prefixOf (levelsOf l) m k).1.length+k.toNat∧(partsOf l m k).length≤l.length:=by
  rw [zcB]
  exact ⟨places_len h,places_few h⟩
theorem chain_rise (h:BuildOk l m k) {i:Nat} {x y:Part} (hx:(partsOf l m k)[i]?=some x) (hy:(partsOf l m k)[i+1]?=some y):x.h.height<y.h.height:=by
  obtain ⟨p,b,h1,h2,_,_,h3,h4,_⟩:=chain_part h (List.getElem?_eq_some_iff.1 hx).1
  obtain ⟨q,c,g1,g2,_,_,g3,g4,_⟩:=chain_part h (List.getElem?_eq_some_iff.1 hy).1
  rw [hx] at h4;rw [hy] at g4
  injection h4 with h4;injection g4 with g4
  rw [h4,g4]
  show b.h.height<c.h.height
  rw [h3,g3]
  exact (zbg (zax h) h1 g1).2 (by omega)
theorem prefix_yes (h:BuildOk l m k):(prefixOf (levelsOf l) m k).2=true:=by unfold prefixOf;rw [if_pos (zff h)]
theorem pr_is (h:prE l m k=0):prOf l m k=⟨m,k,partsOf l m k⟩:=build_is h
end
def hasH (L:List Part) (h:Head):Bool:=L.any fun x=>decide (x.h=h)
theorem has_step {L:List Part} {h:Head} {j:Nat} {z:Part} (hz:L[j]?=some z):hasH (L.take (j+1)) h=(hasH (L.take j) h||decide (z.h=h)):=by
  unfold hasH
  rw [List.take_add_one,hz,List.any_append];simp
theorem has_mem {L:List Part} {x:Part} (hx:x∈L):hasH L x.h=true:=List.any_eq_true.2 ⟨x,hx,decide_eq_true rfl⟩
theorem ProofChain_ok (l:List Block) (m k x:Int) (hl:smallC l):Tells P 5 [.val (sl blockT) l,.val i64T m,.val i64T k,.val i64T x] (.val boolT true):=by
 have hll:=hl.1
 refine zc Tryz.func5 rfl rfl rfl (fun ext w hext=>?_)
 refine ze (d:=0) rfl zl (fun hsl0=>?_)
 refine ze (d:=1) rfl zn (fun hin1=>?_)
 refine ze (d:=2) rfl zn (fun hin2=>?_)
 refine ze (d:=3) rfl zn (fun hin3=>?_)
 refine CQR ?_;refine qbG ?_;refine qae ?_;refine A0 (oCl (fewC_ok l) rfl fn_12 ⟨(zd rfl),trivial⟩) ?_;refine qae ?_;refine qal ?_;refine A0 (oCl (zbU l m k hl) rfl fn_14 ⟨(zd rfl),(zd rfl),(zd rfl),trivial⟩) ?_;refine A0 mX ?_;refine A0 (by first|exact zO rfl rfl|exact zM rfl rfl) ?_;refine A0 (by first|exact zR rfl rfl|exact zQ rfl rfl) ?_;refine qaC ?_;refine qaj ?_;refine A0 oN ?_;refine zbR (d:=28) rfl (rfl) ?_;refine qbp ?_;refine A1 oN ?_;refine zI (d:=31) (p:=¬fewC l=true) rfl (by cases fewC l<;>rfl) (fun g31=>?_) (fun g31=>?_)
 ·
  refine qbE ?_;refine Ct ?_;refine qbj ?_
  exact za rfl rfl (zb rfl (rfl))
 ·
  refine qbv ?_;refine A1 zch ?_;refine qas ?_;refine zp (p:=¬prE l m k=0) rfl (by simp [IntL.toI]) (fun ht36=>?_) (fun ht36=>?_)
  ·
   refine qbj ?_
   exact za rfl rfl (zb rfl (rfl))
  ·
   have hpe:prE l m k=0:=Classical.not_not.1 ht36
   have hb:=zbp hpe
   have hk1:=hb.k1
   have hkl:=hb.kl
   obtain ⟨Q,hQ⟩:∃Q,Q=partsOf l m k:=⟨_,rfl⟩
   obtain ⟨T,hT⟩:∃T,T=(prefixOf (levelsOf l) m k).1:=⟨_,rfl⟩
   obtain ⟨hq1,hq2⟩:=partsOf_few hb
   rw [←hQ,←hT] at hq1
   rw [←hQ] at hq2
   obtain ⟨b0,hb0,hQ0⟩:=chain_first hb
   obtain ⟨bz,hbz,hQz⟩:=chain_last hb
   rw [←hQ] at hQ0 hQz
   have hpq:({ m:=m,k:=k,p:=Q }:Proof).p.length=Q.length:=rfl
   refine zS (n:=0) (y:=(⟨m,k,Q⟩:Proof)) rfl (by rw [pr_is hpe,hQ]) ?_;refine qb4 ?_;refine A0 (oCl (zq (levels_ok l (by omega))) rfl fn_25 ⟨(zd rfl),trivial⟩) ?_;refine qal ?_;refine A0 (oCl (zce (prefix_ok (levelsOf l) m k)) rfl fn_24 ⟨(zd rfl),(zd rfl),(zd rfl),trivial⟩) ?_;refine A0 mX ?_;refine A0 (by first|exact zO rfl rfl|exact zM rfl rfl) ?_;refine zi (d:=44) (y:=T) rfl (by rw [hT]) ?_;refine A0 (by first|exact zR rfl rfl|exact zQ rfl rfl) ?_;refine A0 aV ?_;refine qaH ?_;refine qaU ?_;refine G0 mV ?_;refine G0 oN ?_
   refine zcO (d:=47) rfl (by rw [prefix_yes hb];rfl) ?_;refine G0 mV ?_;refine qao ?_;refine G1 (zK rfl rfl zbY) ?_;refine G1 zaW ?_;refine zcO (d:=52) rfl (decide_eq_false (by simp only [IntL.toI,id_eq];omega)) ?_;refine qaX ?_;refine G1 mV ?_;refine G1 (zK rfl rfl zdf) ?_;refine G1 zaW ?_;refine zcO (d:=57) rfl (decide_eq_false (by simp only [IntL.toI,id_eq];omega)) ?_;refine qaX ?_;refine qao ?_;refine G1 (zK rfl rfl zbY) ?_;refine G1 mV ?_;refine G1 (zK rfl rfl zb3) ?_;refine G1 mV ?_;refine G1 zbJ ?_;refine G1 zch ?_
   refine zcO (d:=67) rfl (by simp only [IntL.toI,id_eq];rw [decide_eq_true (by omega)];rfl) ?_;refine qaX ?_;refine G1 (oFp zcG) ?_;refine G1 (oLb zdO ty_3) ?_;refine G1 mV ?_;refine G1 zch ?_;refine zcO (d:=73) rfl (by simp) ?_;refine qaX ?_;refine G1 (oFp zb6) ?_;refine G1 (oLb zct ty_3) ?_;refine G1 mV ?_;refine G1 zch ?_;refine zcO (d:=79) rfl (by simp) ?_;refine qaX ?_;refine qao ?_;refine G1 (zo (i:=0) rfl rfl rfl (by omega) zaP (by assumption)) ?_;refine qaN ?_;refine G1 mV ?_;refine G1 (zo (i:=0) rfl rfl rfl (by omega) zda (by assumption)) ?_
   refine G1 (oFr zar zah) ?_;refine G1 (zf rfl rfl zal) ?_;refine G1 (zeL rfl rfl rfl (eqt_52)) ?_;refine zcO (d:=91) rfl (by simp) ?_;refine qaX ?_;refine qao ?_;refine qao ?_;refine G1 (zK rfl rfl zbY) ?_;refine G1 zaL ?_;refine G1 (zo (i:=Q.length-1) rfl rfl rfl (by omega) zaP (by assumption)) ?_;refine qaN ?_;refine G1 mV ?_;refine G1 mV ?_;refine G1 (zK rfl rfl zdf) ?_;refine G1 zaL ?_;refine G1 (zo (i:=l.length-1) rfl rfl rfl (by omega) zda (by assumption)) ?_;refine G1 (oFr zar zah) ?_;refine G1 (zf rfl rfl zal) ?_
   refine G1 (zeL rfl rfl rfl (eqt_52)) ?_;refine zcO (d:=110) rfl (by simp) ?_;refine qa4 ?_;refine Cg ?_;refine CSQQR ?_;refine A0 aV ?_;refine CNB ?_;refine Lp (ι:=Nat) 1 (fun (i:Nat)=>((((((Fr.none).set 0 (.val (sl blockT) l)).set 2 (.val i64T k)).set 3 (.val i64T x)).set 11 (.ptr 0 0)).set 13 (.val (sl i64T) T)).set 15 (.val i64T (i:Int))) (fun (i:Nat)=>(Hp.none).set 0 (.box 25 proofT (⟨m,k,Q⟩:Proof))) (fun (i:Nat)=>1≤i∧i≤Q.length) (fun (i:Nat)=>Q.length-i) (1) (⟨Nat.le_refl _,by omega⟩) ?_
   intro i hinv
   refine qbi ?_;refine qa3 ?_;refine qaK ?_;refine Cf (p:=i<Q.length) (fun ht116=>?_) (fun ht116=>?_)
   ·
    obtain ⟨y1,hy1⟩:∃y,Q[i]?=some y:=⟨_,List.getElem?_eq_getElem ht116⟩
    obtain ⟨y0,hy0⟩:∃y,Q[i-1]?=some y:=⟨_,List.getElem?_eq_getElem (by omega)⟩
    have hrise:=chain_rise hb (i:=i-1) (hQ▸hy0) (by rw [show i-1+1=i by omega];exact hQ▸hy1)
    refine CS ?_;refine CQ ?_;refine CB ?_;refine qaU ?_;refine G0 (oFp zaq) ?_;refine G0 (oLb zao zcd) ?_;refine G0 mV ?_;refine G0 (zo (i:=i) rfl rfl rfl (by omega) zaP (by assumption)) ?_;refine G0 (oFr za6 zaO) ?_;refine G0 (oFr zaU z7) ?_;refine G0 (zf rfl rfl ty_3) ?_;refine G0 (oFp zaq) ?_;refine G0 (oLb zao zcd) ?_;refine G0 mV ?_;refine G0 zaL ?_;refine G0 (zo (i:=i-1) rfl rfl rfl (by omega) zaP (by assumption)) ?_;refine G0 (oFr za6 zaO) ?_;refine G0 (oFr zaU z7) ?_
    refine G0 (zf rfl rfl ty_3) ?_;refine G0 zcP ?_;refine GK.nil ?_;refine zdo rfl (decide_eq_false (by simp only [IntL.toI,id_eq];omega)) ?_;refine qaw ?_
    exact Nx (i+1) (⟨by omega,by omega⟩) (by omega)
   ·
    refine CE ?_;refine qbi ?_;refine A0 zbF ?_;refine Sp (d:=136) (p:=x<0) (fun g136=>?_) (fun g136=>?_)
    ·
     refine qby ?_;refine qaE ?_;refine qas ?_;refine Ct ?_;refine qay ?_
     exact za rfl rfl (zb rfl (rfl))
    ·
     refine qbp ?_;refine qar ?_;refine A1 zcU ?_;refine qas ?_;refine Cf (p:=(Q.length:Int)≤x) (fun ht143=>?_) (fun ht143=>?_)
     ·
      refine qay ?_
      exact za rfl rfl (zb rfl (rfl))
     ·
      obtain ⟨p,b,hp1,hp2,hp3,hp4,hp5,hp6,hp7⟩:=chain_part hb (i:=x.toNat) (by rw [←hQ];omega)
      rw [←hQ] at hp6
      rw [←hT] at hp7
      have hbhh:({ h:=b.h,l:=b.l }:Part).h.height=p:=hp5
      refine CSQR ?_;refine A0 (oFp zaq) ?_;refine A0 (oLb zao zcd) ?_;refine qav ?_;refine A0 (zo (i:=x.toNat) rfl rfl rfl (by omega) zaP (by assumption)) ?_;refine A0 (oFr za6 zaO) ?_;refine A0 (oFr zaU z7) ?_;refine qbT ?_;refine A0 aX ?_;refine CNQ ?_;refine qaU ?_;refine G0 mX ?_;refine G0 zbF ?_;refine zcO (d:=152) rfl (decide_eq_false (by simp only [IntL.toI,id_eq];omega)) ?_;refine G0 mV ?_;refine G1 mX ?_;refine G1 mV ?_;refine G1 (zK rfl rfl zdf) ?_;refine G1 zcU ?_
      refine zcO (d:=157) rfl (decide_eq_false (by simp only [IntL.toI,id_eq];omega)) ?_;refine qaX ?_;refine G1 mV ?_;refine G1 mX ?_;refine G1 (zo (i:=p.toNat) rfl rfl rfl (by omega) zda (by assumption)) ?_;refine G1 (oFr zar zah) ?_;refine G1 (zf rfl rfl zal) ?_;refine qbl ?_;refine G1 (zo (i:=x.toNat) rfl rfl rfl (by omega) zaP (by assumption)) ?_;refine qaN ?_;refine G1 (zeL rfl rfl rfl (eqt_52)) ?_;refine zcO (d:=171) rfl (by simp) ?_;refine qaX ?_;refine G1 mV ?_;refine G1 mX ?_
      refine G1 (zo (i:=p.toNat) rfl rfl rfl (by omega) zda (by assumption)) ?_;refine G1 (oFr zbH zbq) ?_;refine G1 (zf rfl rfl zbc) ?_;refine G1 (by first|exact zK rfl rfl zaS|exact zak rfl rfl rfl zaS|exact zaw rfl rfl zaS) ?_;refine qbl ?_;refine G1 (zo (i:=x.toNat) rfl rfl rfl (by omega) zaP (by assumption)) ?_;refine G1 (oFr zbv zbA) ?_;refine G1 (zf rfl rfl zbc) ?_;refine G1 (by first|exact zK rfl rfl zaS|exact zak rfl rfl rfl zaS|exact zaw rfl rfl zaS) ?_;refine G1 zch ?_
      refine zcO (d:=187) rfl (by simp) ?_;refine qa4 ?_;refine Cg ?_;refine qcd ?_;refine qbL ?_;refine A0 zcU ?_;refine Sp (d:=192) (p:=(T.length:Int)≤x) (fun g192=>?_) (fun g192=>?_)
      ·
       have hpk:(l.length:Int)-k≤p:=by rcases hp7 with h|h<;>omega
       refine qav ?_;refine A1 mX ?_;refine A1 mV ?_;refine A1 (zK rfl rfl zdf) ?_;refine A1 mV ?_;refine A1 zaL ?_;refine A1 zcU ?_;refine zay (d:=199) rfl (decide_eq_true (by simp only [IntL.toI,id_eq];omega)) ?_;refine qaM ?_;refine qaE ?_;refine qaB ?_;refine qaB ?_;refine A2 ?_;refine qa1 ?_
       exact za rfl rfl (zb rfl (rfl))
      ·
       have hpt:T[x.toNat]?=some p:=by rcases hp7 with h|h;exact h.2;omega
       refine qby ?_;refine qab ?_;refine qag ?_;refine qaG ?_;refine A1 (zK rfl rfl zb3) ?_;refine A1 zbF ?_;refine zay (d:=205) rfl (decide_eq_true (by simp only [IntL.toI,id_eq];omega)) ?_;refine qaG ?_;refine A1 mV ?_;refine A1 (zo (i:=x.toNat) rfl rfl rfl (by omega) zbt (by assumption)) ?_;refine A1 (zf rfl rfl ty_3) ?_;refine A1 mX ?_;refine A1 zaW ?_;refine zay (d:=212) rfl (by simp [hp5]) ?_;refine A1 oK ?_;refine qa1 ?_
       exact za rfl rfl (zb rfl (rfl))
theorem ProofMore_ok (l:List Block) (m n k:Int) (hl:smallC l):Tells P 8 [.val (sl blockT) l,.val i64T m,.val i64T n,.val i64T k] (.val boolT true):=by
 have hll:=hl.1
 refine zc Tryz.func8 rfl rfl rfl (fun ext w hext=>?_)
 refine ze (d:=0) rfl zl (fun hsl0=>?_)
 refine ze (d:=1) rfl zn (fun hin1=>?_)
 refine ze (d:=2) rfl zn (fun hin2=>?_)
 refine ze (d:=3) rfl zn (fun hin3=>?_)
 refine CQR ?_;refine qbG ?_;refine qae ?_;refine A0 (oCl (fewC_ok l) rfl fn_12 ⟨(zd rfl),trivial⟩) ?_;refine qae ?_;refine qal ?_;refine A0 (oCl (zbU l m k hl) rfl fn_14 ⟨(zd rfl),(zd rfl),(zd rfl),trivial⟩) ?_;refine A0 mX ?_;refine A0 (by first|exact zO rfl rfl|exact zM rfl rfl) ?_;refine A0 (by first|exact zR rfl rfl|exact zQ rfl rfl) ?_;refine qaC ?_;refine qae ?_;refine qal ?_;refine A0 (oCl (zbU l n k hl) rfl fn_14 ⟨(zd rfl),(zd rfl),(zd rfl),trivial⟩) ?_;refine A0 mX ?_;refine A0 (by first|exact zO rfl rfl|exact zM rfl rfl) ?_
 refine A0 (by first|exact zR rfl rfl|exact zQ rfl rfl) ?_;refine qaC ?_;refine qaj ?_;refine A0 oN ?_;refine zbR (d:=36) rfl (rfl) ?_;refine qbp ?_;refine A1 oN ?_;refine zI (d:=39) (p:=¬fewC l=true) rfl (by cases fewC l<;>rfl) (fun g39=>?_) (fun g39=>?_)
 ·
  refine qaM ?_;refine qag ?_;refine qaE ?_;refine qbE ?_;refine Ct ?_;refine qbj ?_
  exact za rfl rfl (zb rfl (rfl))
 ·
  refine qag ?_;refine qaG ?_;refine A1 zbF ?_;refine Sp (d:=44) (p:=n<m) (fun g44=>?_) (fun g44=>?_)
  ·
   refine qag ?_;refine qaE ?_;refine qbE ?_;refine Ct ?_;refine qbj ?_
   exact za rfl rfl (zb rfl (rfl))
  ·
   refine qbv ?_;refine A1 zch ?_;refine zI (d:=48) (p:=¬prE l m k=0) rfl (by simp [IntL.toI]) (fun g48=>?_) (fun g48=>?_)
   ·
    refine qbE ?_;refine Ct ?_;refine qbj ?_
    exact za rfl rfl (zb rfl (rfl))
   ·
    refine qbv ?_;refine A1 zch ?_;refine qas ?_;refine zp (p:=¬prE l n k=0) rfl (by simp [IntL.toI]) (fun ht53=>?_) (fun ht53=>?_)
    ·
     refine qbj ?_
     exact za rfl rfl (zb rfl (rfl))
    ·
     have hp1:prE l m k=0:=Classical.not_not.1 g48
     have hp2:prE l n k=0:=Classical.not_not.1 ht53
     have hb:=zbp hp1
     have hb2:=zbp hp2
     have hk1:=hb.k1
     have hkl:=hb.kl
     obtain ⟨A,hA⟩:∃A,A=partsOf l m k:=⟨_,rfl⟩
     obtain ⟨B,hB⟩:∃B,B=partsOf l n k:=⟨_,rfl⟩
     have hq1:=(partsOf_few hb).2
     have hq2:=(partsOf_few hb2).2
     rw [←hA] at hq1
     rw [←hB] at hq2
     have hab:A.length≤B.length:=by rw [hA,hB,zcB,zcB];exact places_more hb (by omega) hb2
     have hpa:({ m:=m,k:=k,p:=A }:Proof).p.length=A.length:=rfl
     have hpb:({ m:=n,k:=k,p:=B }:Proof).p.length=B.length:=rfl
     refine zS (n:=0) (y:=(⟨m,k,A⟩:Proof)) rfl (by rw [pr_is hp1,hA]) ?_;refine zS (n:=1) (y:=(⟨n,k,B⟩:Proof)) rfl (by rw [pr_is hp2,hB]) ?_;refine CSQQR ?_;refine A0 aV ?_;refine CNB ?_;refine Lp (ι:=Nat) 2 (fun (i:Nat)=>((((((Fr.none).set 0 (.val (sl blockT) l)).set 2 (.val i64T n)).set 3 (.val i64T k)).set 11 (.ptr 0 0)).set 13 (.ptr 1 0)).set 15 (.val i64T (i:Int))) (fun (i:Nat)=>((Hp.none).set 0 (.box 25 proofT (⟨m,k,A⟩:Proof))).set 1 (.box 25 proofT (⟨n,k,B⟩:Proof))) (fun (i:Nat)=>i≤A.length) (fun (i:Nat)=>A.length-i) (0) (Nat.zero_le _) ?_
     intro i hinv
     refine qbi ?_;refine qa3 ?_;refine qaK ?_;refine Cf (p:=i<A.length) (fun ht59=>?_) (fun ht59=>?_)
     ·
      obtain ⟨y,hy⟩:∃y,A[i]?=some y:=⟨_,List.getElem?_eq_getElem ht59⟩
      refine CSQBQR ?_;refine qb0 ?_;refine Lp (ι:=Nat) 2 (fun (j:Nat)=>((((((((Fr.none).set 0 (.val (sl blockT) l)).set 2 (.val i64T n)).set 3 (.val i64T k)).set 11 (.ptr 0 0)).set 13 (.ptr 1 0)).set 15 (.val i64T (i:Int))).set 16 (.val boolT (hasH (B.take j) y.h))).set 17 (.val i64T (j:Int))) (fun (j:Nat)=>((Hp.none).set 0 (.box 25 proofT (⟨m,k,A⟩:Proof))).set 1 (.box 25 proofT (⟨n,k,B⟩:Proof))) (fun (j:Nat)=>j≤B.length) (fun (j:Nat)=>B.length-j) (0) (Nat.zero_le _) ?_
      intro j hj
      refine qbi ?_;refine qa3 ?_;refine qaK ?_;refine Cf (p:=j<B.length) (fun ht66=>?_) (fun ht66=>?_)
      ·
       obtain ⟨z,hz⟩:∃z,B[j]?=some z:=⟨_,List.getElem?_eq_getElem ht66⟩
       refine CS ?_;refine CQ ?_;refine CB ?_;refine CD mixed ?_;refine qbQ ?_;refine zT (d:=70) (p:=hasH (B.take j) y.h=true) rfl (by simp) (fun g70=>?_) (fun g70=>?_)
       ·
        refine qaa ?_;refine qan ?_;refine qan ?_;refine G0 oK ?_;refine qbn ?_;refine CI ?_;refine CR ?_;refine qbd ?_;refine qac ?_;refine zi (d:=16) (y:=hasH (B.take (j+1)) y.h) rfl (by rw [has_step hz,g70];rfl) ?_
        exact Nx (j+1) (by omega) (by omega)
       ·
        refine qbl ?_;refine G1 (zo (i:=j) rfl rfl rfl (by omega) zaP (by assumption)) ?_;refine qaN ?_;refine qbl ?_;refine G1 (zo (i:=i) rfl rfl rfl (by omega) zaP (by assumption)) ?_;refine qaN ?_;refine G1 (g_eqlS rfl rfl rfl (eqt_52)) ?_;refine G0 oK ?_;refine qbn ?_;refine CI ?_;refine CR ?_;refine qbd ?_;refine qac ?_;refine zi (d:=16) (y:=hasH (B.take (j+1)) y.h) rfl (by rw [has_step hz,Bool.eq_false_iff.2 g70];simp) ?_
        exact Nx (j+1) (by omega) (by omega)
      ·
       have hall:hasH (B.take j) y.h=true:=by rw [List.take_of_length_le (by omega)];exact has_mem (by rw [hB];exact parts_more hb (by omega) (by have:=List.mem_of_getElem? hy;rw [hA] at this;exact this))
       refine CE ?_;refine qa2 ?_;refine qaR ?_;refine zdo rfl (by rw [hall];rfl) ?_;refine qaw ?_
       exact Nx (i+1) (by omega) (by omega)
     ·
      refine CE ?_;refine CQR ?_;refine qa3 ?_;refine qa3 ?_;refine A0 zcP ?_;refine zay (d:=93) rfl (decide_eq_true (by simp only [IntL.toI,id_eq];omega)) ?_;refine qav ?_;refine qar ?_;refine A1 mV ?_;refine A1 (zK rfl rfl zdf) ?_;refine A1 zcP ?_;refine zay (d:=100) rfl (decide_eq_true (by simp only [IntL.toI,id_eq];omega)) ?_;refine qbv ?_;refine A1 (zK rfl rfl zdf) ?_;refine A1 mV ?_;refine A1 zaL ?_;refine A1 mV ?_;refine A1 zaG ?_;refine Sp (d:=108) (p:=n<(l.length:Int)-k) (fun g108=>?_) (fun g108=>?_)
      ·
       refine A1 mV ?_;refine qab ?_;refine qab ?_;refine A1 oK ?_;refine qa1 ?_
       exact za rfl rfl (zb rfl (rfl))
      ·
       refine A1 mV ?_;refine qar ?_;refine A1 mV ?_;refine A1 (zK rfl rfl zdf) ?_;refine A1 zaW ?_;refine A1 oK ?_;refine qa1 ?_
       exact za rfl rfl (zb rfl (decide_eq_true (by have:=places_whole hb2 (by omega);rw [←zcB,←hB] at this;simp only [IntL.toI,id_eq];omega)))
set_option maxRecDepth 20000
theorem uu_26:P.underlying 26=some (.slice 5):=by kernel_rfl
theorem chain_lens {l:List Block} {t:Tip} {i:Nat} {b:Block} (h:Chain l t) (hb:l[i]?=some b):b.l.length≤32:=by
  by_cases hi:i=0
  · subst hi
    rw [(zew h hb).2.2.1 rfl];decide
  · obtain ⟨t',h1,h2,h3⟩:=chain_at h (by omega) hb
    have e:b.l=linksT t':=(push_iff.1 h2).2.2.1
    obtain ⟨a1,a2,a3,a4⟩:=chain_links h1
    rw [←e] at a2
    exact a2
def BW (l:List Block):Prop:=∀x∈l,HW x.h∧∀y∈x.l,y.length=32
theorem fact_bw {l:List Block} {b:Bool} {ρ:Nat→Value} {B:Nat→Prop} {U N:Nat→Prop} {w:World} {v:Value} (h:(AV.val (slT b blockT) l).rel ρ B U N w v):BW l:=by
  obtain ⟨cs,⟨ad,cap,_,_,_,h3⟩,_⟩:=h
  intro x hx
  obtain ⟨_,ds,_,_,hr,_⟩:=h3 (List.ne_nil_of_mem hx)
  obtain ⟨c,d1,d2,_,hh,e1,e2,_,hl,_⟩:=relAll_mem hr x hx
  exact ⟨hd_rel hh,is_rel hl⟩
section
variable {l:List Block} {m k:Int}
theorem parts_put {W : List Int} (h : BuildOk l m k) (hn : l.length ≤ 50) (hbw : BW l) (hr : W.Pairwise (· < ·)) (hm : ∀ x ∈ W, 0 ≤ x ∧ x < l.length) :
    wOk ⟨m,k,W.map (prPart l)⟩=true∧PW ⟨m,k,W.map (prPart l)⟩∧W.length≤l.length∧(putL ⟨m,k,W.map (prPart l)⟩).length≤63453:=by
  have hlen:W.length≤l.length:=by
    have:=zaR (all_rising l.length) hr (fun x hx=>by
      have:=hm x hx
      exact List.mem_map.2 ⟨x.toNat,List.mem_range.2 (by omega),by omega⟩)
    simpa using this
  have hpart:∀x∈W.map (prPart l),∃(i:Nat) (b:Block),l[i]?=some b∧x=⟨b.h,b.l⟩:=fun x hx=>by
    obtain ⟨p,hp,rfl⟩:=List.mem_map.1 hx
    have:=hm p hp
    obtain ⟨b,hb⟩:∃b,l[p.toNat]?=some b:=⟨_,List.getElem?_eq_getElem (by omega)⟩
    refine ⟨p.toNat,b,hb,?_⟩
    unfold prPart
    rw [List.getD_eq_getElem?_getD,hb];rfl
  have hc:=zd8 h.c
  have hpw:PW ⟨m,k,W.map (prPart l)⟩:=fun x hx=>by
    obtain ⟨i,b,hb,rfl⟩:=hpart x hx
    exact hbw b (List.mem_of_getElem? hb)
  have hl:∀x∈W.map (prPart l),x.l.length≤32:=fun x hx=>by
    obtain ⟨i,b,hb,rfl⟩:=hpart x hx
    exact chain_lens hc hb
  have hw:wOk ⟨m,k,W.map (prPart l)⟩=true:=by
    unfold wOk sizeOk
    rw [Bool.and_eq_true,Bool.and_eq_true,decide_eq_true_eq,List.all_eq_true,List.all_eq_true]
    refine ⟨⟨⟨h.m1,h.m2,h.k1,h.k2,by show (W.map (prPart l)).length≤100;rw [List.length_map];omega⟩,fun x hx=>decide_eq_true (hl x hx)⟩,fun x hx=>?_⟩
    obtain ⟨i,b,hb,rfl⟩:=hpart x hx
    exact (zew hc hb).2.1
  refine ⟨hw,hpw,hlen,?_⟩
  rw [put_len hpw hw]
  have h3:=sum_le (fun x:Part=>181+34*x.l.length) 1269 (W.map (prPart l)) (fun x hx=>by have:=hl x hx;omega)
  rw [List.length_map] at h3
  have h4:W.length*1269≤50*1269:=Nat.mul_le_mul_right _ (by omega)
  show 3+((W.map (prPart l)).map fun x=>181+34*x.l.length).sum≤63453
  omega
theorem build_put (h:prE l m k=0) (hn:l.length≤50) (hbw:BW l):wOk (prOf l m k)=true∧PW (prOf l m k)∧(putL (prOf l m k)).length≤63453:=by
  have hb:=zbp h
  have:=parts_put hb hn hbw (zax hb) (fun x hx=>zbE ⟨hb.k1,hb.kl⟩ hx)
  rw [build_is h]
  exact ⟨this.1,this.2.1,this.2.2.2⟩
end
theorem pput_yes {p:Proof} (h:wOk p=true):pputL p=putL p:=by unfold pputL;rw [if_pos h]
def sizeN (L:List Part) (i:Nat):Nat:=3+((L.take i).map fun x=>181+34*x.l.length).sum
theorem size_step {L:List Part} {i:Nat} {y:Part} (h:L[i]?=some y):sizeN L (i+1)=sizeN L i+(181+34*y.l.length):=by
  unfold sizeN
  rw [List.take_add_one,h,List.map_append,List.sum_append]
  simp;omega
theorem size_bd {L:List Part} {i:Nat} (hl:L.length≤110) (h:∀x∈L,x.l.length≤40):sizeN L i≤169513:=by
  unfold sizeN
  have h3:=sum_le (fun x:Part=>181+34*x.l.length) 1541 (L.take i) (fun x hx=>by have:=h x (List.mem_of_mem_take hx);omega)
  have h4:(L.take i).length*1541≤110*1541:=Nat.mul_le_mul_right _ (by rw [List.length_take];omega)
  omega
theorem few_links {p:Proof} (h:fewPr p=true):∀x∈p.p,x.l.length≤40:=by
  unfold fewPr at h
  rw [Bool.and_eq_true,List.all_eq_true] at h
  exact fun x hx=>of_decide_eq_true (h.1 x hx)
theorem cut_more {p:Proof} (hp:PW p) (h:wOk p=true) (z:List UInt8):readOk (putL p++z)=decide (z.length=0):=by
  by_cases hz:z=[]
  · subst hz
    rw [List.append_nil,(proof_back hp h).1];rfl
  · rw [decide_eq_false (fun e=>hz (List.length_eq_zero_iff.1 e))]
    cases hr:readOk (putL p++z) with
    | false=>rfl
    | true =>
      obtain ⟨h1,h2,h3⟩:=back_proof hr
      exact absurd (put_ahead h2 hp h1 h h3) hz
theorem cut_less {p:Proof} (hp:PW p) (h:wOk p=true) {n:Nat} (hn:n<(putL p).length):readOk ((putL p).take n)=false:=by
  cases hr:readOk ((putL p).take n) with
  | false=>rfl
  | true =>
    obtain ⟨h1,h2,h3⟩:=back_proof hr
    have e:putL p=putL (readP ((putL p).take n))++(putL p).drop n:=by rw [h3,List.take_append_drop]
    have:=put_ahead hp h2 h h1 e
    rw [List.drop_eq_nil_iff] at this
    omega
theorem zeN {b:List UInt8} (h:readOk b=true):wOk (readR b)=true∧pputL (readR b)=b:=by
  obtain ⟨h1,_,h3⟩:=back_proof h
  rw [readR_yes h,pput_yes h1]
  exact ⟨h1,h3⟩
theorem zeF {p:Proof} (hp:PW p) (h:wOk p=true):readOk (pputL p)=true∧readR (pputL p)=p:=by
  obtain ⟨h1,h2⟩:=proof_back hp h
  rw [pput_yes h,readR_yes h1]
  exact ⟨h1,h2⟩
theorem pput_bd {p:Proof} (hp:PW p):(pputL p).length≤126903:=by
  unfold pputL
  split
  · rename_i h;exact put_bd hp h
  · simp
theorem ProofSizes_ok (p:Proof) (l:List Block) (m k:Int) (hl:smallC l):Tells P 9 [.val proofT p,.val (sl blockT) l,.val i64T m,.val i64T k] (.val boolT true):=by
 have hll:=hl.1
 refine zc Tryz.func9 rfl rfl rfl (fun ext w hext=>?_)
 refine ze (d:=1) rfl zl (fun hsl1=>?_)
 refine ze (d:=2) rfl zn (fun hin2=>?_)
 refine ze (d:=3) rfl zn (fun hin3=>?_)
 refine ze (d:=0) rfl fact_pw (fun hpw=>?_)
 refine ze (d:=1) rfl fact_bw (fun hbw=>?_)
 refine qaf ?_;refine qbG ?_;refine qaY ?_;refine A0 (oCl (fewPr_ok p) rfl fn_13 ⟨(zd rfl),trivial⟩) ?_;refine qae ?_;refine A0 (oCl (fewC_ok l) rfl fn_12 ⟨(zd rfl),trivial⟩) ?_;refine qaj ?_;refine A0 oN ?_;refine zbR (d:=28) rfl (rfl) ?_;refine qbp ?_;refine A1 oN ?_;refine zI (d:=31) (p:=fewPr p=false) rfl (by cases fewPr p<;>rfl) (fun g31=>?_) (fun g31=>?_)
 ·
  refine qbE ?_;refine Ct ?_;refine qbj ?_
  exact za rfl rfl (zb rfl (rfl))
 ·
  refine qbv ?_;refine A1 oN ?_;refine qas ?_;refine zp (p:=¬fewC l=true) rfl (by cases fewC l<;>rfl) (fun ht36=>?_) (fun ht36=>?_)
  ·
   refine qbj ?_
   exact za rfl rfl (zb rfl (rfl))
  ·
   have hfp:fewPr p=true:=by simpa using g31
   have hfl:=few_links hfp
   have hpl:p.p.length≤110:=by unfold fewPr at hfp;rw [Bool.and_eq_true,decide_eq_true_eq] at hfp;exact hfp.2
   have hfc:=fewC_len (Classical.not_not.1 ht36)
   refine CSQR ?_;refine A0 (oLs rfl rfl rfl zaE) ?_;refine A0 (oCl (zeT p) rfl fn_18 ⟨(zd rfl),trivial⟩) ?_;refine A0 mX ?_;refine A0 (by first|exact zO rfl rfl|exact zM rfl rfl) ?_;refine A0 (by first|exact zR rfl rfl|exact zQ rfl rfl) ?_;refine A0 aV ?_;refine qat ?_;refine qb0 ?_;refine zi (d:=14) (y:=((sizeN p.p 0:Nat):Int)) rfl (by rfl) ?_
   refine Lp (ι:=Nat) 1 (fun (i:Nat)=>((((((((Fr.none).set 1 (.val (sl blockT) l)).set 2 (.val i64T m)).set 3 (.val i64T k)).set 4 (.ptr 0 0)).set 12 (.val (sl u8T) (pputL p))).set 13 (.val boolT (wOk p))).set 14 (.val i64T ((sizeN p.p i:Nat):Int))).set 15 (.val i64T (i:Int))) (fun (i:Nat)=>(Hp.none).set 0 (.box 25 proofT p)) (fun (i:Nat)=>i≤p.p.length) (fun (i:Nat)=>p.p.length-i) (0) (Nat.zero_le _) ?_
   intro i hinv
   refine qbi ?_;refine qa3 ?_;refine qaK ?_;refine Cf (p:=i<p.p.length) (fun ht47=>?_) (fun ht47=>?_)
   ·
    obtain ⟨y,hy⟩:∃y,p.p[i]?=some y:=⟨_,List.getElem?_eq_getElem ht47⟩
    have hyl:=hfl y (List.mem_of_getElem? hy)
    have hsn:=size_step hy
    have hsb:=size_bd (i:=i) hpl hfl
    refine CS ?_;refine CQ ?_;refine CB ?_;refine CR ?_;refine qav ?_;refine A0 (g_add rfl rfl rfl (show _=(((sizeN p.p i+181:Nat):Int):Int) from (zae (by omega)).trans (by omega))) ?_;refine A0 (oFp zaq) ?_;refine A0 (oLb zao zcd) ?_;refine qav ?_;refine A0 (zo (i:=i) rfl rfl rfl (by omega) zaP (by assumption)) ?_;refine A0 (oFr zbv zbA) ?_;refine A0 (zf rfl rfl zbc) ?_;refine A0 (by first|exact zK rfl rfl zaS|exact zak rfl rfl rfl zaS|exact zaw rfl rfl zaS) ?_
    refine A0 (g_mul rfl rfl rfl (show _=(((34*y.l.length:Nat):Int):Int) from (zae (by omega)).trans (by omega))) ?_;refine A0 (g_add rfl rfl rfl (show _=(((sizeN p.p (i+1):Nat):Int):Int) from (zae (by omega)).trans (by omega))) ?_;refine A0 aV ?_;refine CNIR ?_;refine qbd ?_;refine qac ?_
    exact Nx (i+1) (by omega) (by omega)
   ·
    refine CE ?_;refine CQQR ?_;refine qal ?_;refine zI (d:=62) (p:=wOk p=true) rfl (by simp) (fun g62=>?_) (fun g62=>?_)
    ·
     have hpz:(pputL p).length=sizeN p.p i:=by rw [pput_yes g62,put_len hpw g62];unfold sizeN;rw [List.take_of_length_le (by omega)]
     refine A1 mV ?_;refine A1 (zK rfl rfl zbi) ?_;refine A1 mV ?_;refine A1 zch ?_;refine zbR (d:=66) rfl (by simp only [IntL.toI,id_eq];rw [decide_eq_true (by omega)];rfl) ?_;refine qas ?_;refine Cg ?_;refine qcd ?_;refine qav ?_;refine A0 (oCl (zbU l m k hl) rfl fn_14 ⟨(zd rfl),(zd rfl),(zd rfl),trivial⟩) ?_;refine A0 mX ?_;refine A0 (by first|exact zO rfl rfl|exact zM rfl rfl) ?_;refine A0 (by first|exact zR rfl rfl|exact zQ rfl rfl) ?_;refine qaC ?_;refine qaY ?_;refine A0 (oCl (zeT (prOf l m k)) rfl fn_18 ⟨(zd rfl),trivial⟩) ?_;refine A0 mX ?_
     refine A0 (by first|exact zO rfl rfl|exact zM rfl rfl) ?_;refine A0 (by first|exact zR rfl rfl|exact zQ rfl rfl) ?_;refine qbz ?_;refine A0 (oCl (check_ok l hl) rfl fn_26 ⟨(zd rfl),trivial⟩) ?_;refine A0 mX ?_;refine A0 (by first|exact zO rfl rfl|exact zM rfl rfl) ?_;refine A0 (by first|exact zR rfl rfl|exact zQ rfl rfl) ?_;refine qbw ?_;refine qa7 ?_;refine qae ?_;refine A0 zch ?_;refine zI (d:=86) (p:=¬prE l m k=0) rfl (by simp [IntL.toI]) (fun g86=>?_) (fun g86=>?_)
     ·
      refine qby ?_;refine A3 ?_;refine qaE ?_;refine qaB ?_;refine A2 ?_;refine qa1 ?_
      exact za rfl rfl (zb rfl (rfl))
     ·
      have hpe:prE l m k=0:=Classical.not_not.1 g86
      have hb:=zbp hpe
      have hbp:=build_put hpe hfc hbw
      have hbp3:=hbp.2.2
      refine qbp ?_;refine A1 zaW ?_;refine zay (d:=89) rfl (by rw [hb.c];rfl) ?_;refine qaG ?_;refine zay (d:=91) rfl (hbp.1) ?_;refine A1 oK ?_;refine qaG ?_;refine A1 (zK rfl rfl zbi) ?_;refine A1 zcP ?_;refine zay (d:=96) rfl (decide_eq_true (by rw [pput_yes hbp.1];simp only [IntL.toI,id_eq];omega)) ?_;refine A1 oK ?_;refine qa1 ?_
      exact za rfl rfl (zb rfl (rfl))
    ·
     refine qab ?_;refine A2 ?_;refine qas ?_;refine Cg ?_;refine qcd ?_;refine qav ?_;refine A0 (oCl (zbU l m k hl) rfl fn_14 ⟨(zd rfl),(zd rfl),(zd rfl),trivial⟩) ?_;refine A0 mX ?_;refine A0 (by first|exact zO rfl rfl|exact zM rfl rfl) ?_;refine A0 (by first|exact zR rfl rfl|exact zQ rfl rfl) ?_;refine qaC ?_;refine qaY ?_;refine A0 (oCl (zeT (prOf l m k)) rfl fn_18 ⟨(zd rfl),trivial⟩) ?_;refine A0 mX ?_;refine A0 (by first|exact zO rfl rfl|exact zM rfl rfl) ?_;refine A0 (by first|exact zR rfl rfl|exact zQ rfl rfl) ?_;refine qbz ?_
     refine A0 (oCl (check_ok l hl) rfl fn_26 ⟨(zd rfl),trivial⟩) ?_;refine A0 mX ?_;refine A0 (by first|exact zO rfl rfl|exact zM rfl rfl) ?_;refine A0 (by first|exact zR rfl rfl|exact zQ rfl rfl) ?_;refine qbw ?_;refine qa7 ?_;refine qae ?_;refine A0 zch ?_;refine zI (d:=86) (p:=¬prE l m k=0) rfl (by simp [IntL.toI]) (fun g86=>?_) (fun g86=>?_)
     ·
      refine qby ?_;refine A3 ?_;refine qaE ?_;refine qaB ?_;refine A2 ?_;refine qa1 ?_
      exact za rfl rfl (zb rfl (rfl))
     ·
      have hpe:prE l m k=0:=Classical.not_not.1 g86
      have hb:=zbp hpe
      have hbp:=build_put hpe hfc hbw
      have hbp3:=hbp.2.2
      refine qbp ?_;refine A1 zaW ?_;refine zay (d:=89) rfl (by rw [hb.c];rfl) ?_;refine qaG ?_;refine zay (d:=91) rfl (hbp.1) ?_;refine A1 oK ?_;refine qaG ?_;refine A1 (zK rfl rfl zbi) ?_;refine A1 zcP ?_;refine zay (d:=96) rfl (decide_eq_true (by rw [pput_yes hbp.1];simp only [IntL.toI,id_eq];omega)) ?_;refine A1 oK ?_;refine qa1 ?_
      exact za rfl rfl (zb rfl (rfl))
theorem ProofCut_ok (p:Proof) (x:Int) (z:List UInt8):Tells P 7 [.val proofT p,.val i64T x,.val (sl u8T) z] (.val boolT true):=by
 refine zc Tryz.func7 rfl rfl rfl (fun ext w hext=>?_)
 refine ze (d:=1) rfl zn (fun hin1=>?_)
 refine ze (d:=2) rfl zl (fun hsl2=>?_)
 refine ze (d:=0) rfl fact_pw (fun hpw=>?_)
 refine qaf ?_;refine qbG ?_;refine qaY ?_;refine A0 (oCl (fewPr_ok p) rfl fn_13 ⟨(zd rfl),trivial⟩) ?_;refine qaY ?_;refine A0 (oCl (zeT p) rfl fn_18 ⟨(zd rfl),trivial⟩) ?_;refine A0 mX ?_;refine A0 (by first|exact zO rfl rfl|exact zM rfl rfl) ?_;refine A0 (by first|exact zR rfl rfl|exact zQ rfl rfl) ?_;refine A0 aV ?_;refine qaj ?_;refine A0 oN ?_;refine zbR (d:=24) rfl (rfl) ?_;refine qbp ?_;refine A1 oN ?_;refine A0 oK ?_;refine zI (d:=28) (p:=fewPr p=false) rfl (by cases fewPr p<;>rfl) (fun g28=>?_) (fun g28=>?_)
 ·
  refine qav ?_;refine qaE ?_;refine qaM ?_;refine qas ?_;refine Ct ?_;refine qbj ?_
  exact za rfl rfl (zb rfl (rfl))
 ·
  refine qbp ?_;refine A1 oN ?_;refine zI (d:=31) (p:=¬wOk p=true) rfl (by cases wOk p<;>rfl) (fun g31=>?_) (fun g31=>?_)
  ·
   refine qaM ?_;refine qas ?_;refine Ct ?_;refine qbj ?_
   exact za rfl rfl (zb rfl (rfl))
  ·
   have hwk:wOk p=true:=Classical.not_not.1 g31
   refine qbv ?_;refine A1 (zK rfl rfl zbi) ?_;refine A1 zaG ?_;refine qas ?_;refine Cf (p:=300<z.length) (fun ht37=>?_) (fun ht37=>?_)
   ·
    refine qbj ?_
    exact za rfl rfl (zb rfl (rfl))
   ·
    have hbd:=put_bd hpw hwk
    refine zi (d:=9) (y:=putL p) rfl (pput_yes hwk) ?_;refine qb4 ?_;refine aw_append0 rfl rfl rfl rfl rfl rfl zbf (by first|omega|(simp;omega)) ?_;refine qav ?_;refine zB rfl rfl rfl rfl rfl rfl rfl zbf (by first|omega|(simp;omega)) ?_;refine A0 (oCl (pread_ok (putL p++z) (by simp;omega)) rfl fn_20 ⟨(zF rfl rfl),trivial⟩) ?_;refine A0 mX ?_;refine A0 (by first|exact zO rfl rfl|exact zM rfl rfl) ?_;refine A0 (by first|exact zR rfl rfl|exact zQ rfl rfl) ?_;refine qaC ?_;refine qaj ?_;refine qav ?_;refine qbM ?_;refine A0 zaW ?_
    refine A0 (g_neqB rfl rfl rfl ub_4) ?_;refine zbR (d:=51) rfl (by rw [cut_more hpw hwk];simp [IntL.toI]) ?_;refine qbp ?_;refine A1 zbF ?_;refine Sp (d:=54) (p:=x<0) (fun g54=>?_) (fun g54=>?_)
    ·
     refine qaM ?_;refine A2 ?_;refine qas ?_;refine Ct ?_;refine CQR ?_;refine qal ?_;refine qbM ?_;refine A0 zaW ?_;refine A0 (g_eqlB rfl rfl rfl ub_4) ?_;refine qac ?_
     exact za rfl rfl (zb rfl (by rw [cut_more hpw hwk];simp [IntL.toI]))
    ·
     refine qag ?_;refine qaG ?_;refine A1 (zK rfl rfl zbi) ?_;refine A1 zcU ?_;refine qas ?_;refine Cf (p:=((putL p).length:Int)≤x) (fun ht61=>?_) (fun ht61=>?_)
     ·
      refine CQR ?_;refine qal ?_;refine qbM ?_;refine A0 zaW ?_;refine A0 (g_eqlB rfl rfl rfl ub_4) ?_;refine qac ?_
      exact za rfl rfl (zb rfl (by rw [cut_more hpw hwk];simp [IntL.toI]))
     ·
      have hcl:=cut_less hpw hwk (n:=x.toNat) (by omega)
      refine qcd ?_;refine A0 (by first|exact zbx rfl rfl rfl (by first|rfl|omega) zav|exact zd2 rfl rfl rfl zav (by first|assumption|omega|(simp;omega))) ?_;refine A0 (oCl (pread_ok ((putL p).take x.toNat) (by rw [List.length_take];omega)) rfl fn_20 ⟨(zd rfl),trivial⟩) ?_;refine A0 mX ?_;refine A0 (by first|exact zO rfl rfl|exact zM rfl rfl) ?_;refine A0 (by first|exact zR rfl rfl|exact zQ rfl rfl) ?_;refine qaC ?_;refine qae ?_;refine A0 oN ?_;refine qac ?_
      exact za rfl rfl (zb rfl (by rw [hcl];rfl))
theorem ProofBack_ok (l:List Block) (m k:Int) (p:Proof) (b:List UInt8) (hl:smallC l):Tells P 4 [.val (sl blockT) l,.val i64T m,.val i64T k,.val proofT p,.val (sl u8T) b] (.val boolT true):=by
 have hll:=hl.1
 refine zc Tryz.func4 rfl rfl rfl (fun ext w hext=>?_)
 refine ze (d:=0) rfl zl (fun hsl0=>?_)
 refine ze (d:=1) rfl zn (fun hin1=>?_)
 refine ze (d:=2) rfl zn (fun hin2=>?_)
 refine ze (d:=4) rfl zl (fun hsl4=>?_)
 refine ze (d:=3) rfl fact_pw (fun hpw=>?_)
 refine ze (d:=0) rfl fact_bw (fun hbw=>?_)
 refine qaf ?_;refine qbG ?_;refine qae ?_;refine A0 (oCl (fewC_ok l) rfl fn_12 ⟨(zd rfl),trivial⟩) ?_;refine qaY ?_;refine A0 (oCl (fewPr_ok p) rfl fn_13 ⟨(zd rfl),trivial⟩) ?_;refine qaj ?_;refine A0 oN ?_;refine zbR (d:=32) rfl (rfl) ?_;refine qbp ?_;refine A1 oN ?_;refine zI (d:=35) (p:=¬fewC l=true) rfl (by cases fewC l<;>rfl) (fun g35=>?_) (fun g35=>?_)
 ·
  refine qag ?_;refine qaE ?_;refine qaM ?_;refine qas ?_;refine Ct ?_;refine qbj ?_
  exact za rfl rfl (zb rfl (rfl))
 ·
  have hfc:=fewC_len (Classical.not_not.1 g35)
  refine qbv ?_;refine A1 oN ?_;refine zI (d:=39) (p:=fewPr p=false) rfl (by cases fewPr p<;>rfl) (fun g39=>?_) (fun g39=>?_)
  ·
   refine qaM ?_;refine qas ?_;refine Ct ?_;refine qbj ?_
   exact za rfl rfl (zb rfl (rfl))
  ·
   refine qbv ?_;refine A1 (zK rfl rfl zbi) ?_;refine A1 zaG ?_;refine qas ?_;refine Cf (p:=6000<b.length) (fun ht45=>?_) (fun ht45=>?_)
   ·
    refine qbj ?_
    exact za rfl rfl (zb rfl (rfl))
   ·
    refine qcd ?_;refine qav ?_;refine A0 (oCl (zbU l m k hl) rfl fn_14 ⟨(zd rfl),(zd rfl),(zd rfl),trivial⟩) ?_;refine A0 mX ?_;refine A0 (by first|exact zO rfl rfl|exact zM rfl rfl) ?_;refine A0 (by first|exact zR rfl rfl|exact zQ rfl rfl) ?_;refine qaC ?_;refine qaY ?_;refine A0 (oCl (zeT (prOf l m k)) rfl fn_18 ⟨(zd rfl),trivial⟩) ?_;refine A0 mX ?_;refine A0 (by first|exact zO rfl rfl|exact zM rfl rfl) ?_;refine A0 (by first|exact zR rfl rfl|exact zQ rfl rfl) ?_;refine A0 aV ?_;refine qaY ?_
    refine A0 (oCl (zeT p) rfl fn_18 ⟨(zd rfl),trivial⟩) ?_;refine A0 mX ?_;refine A0 (by first|exact zO rfl rfl|exact zM rfl rfl) ?_;refine A0 (by first|exact zR rfl rfl|exact zQ rfl rfl) ?_;refine qbz ?_;refine A0 (oCl (pread_ok (pputL p) (by have:=pput_bd hpw;omega)) rfl fn_20 ⟨(zd rfl),trivial⟩) ?_;refine A0 mX ?_;refine A0 (by first|exact zO rfl rfl|exact zM rfl rfl) ?_;refine A0 (by first|exact zR rfl rfl|exact zQ rfl rfl) ?_;refine qaC ?_;refine qae ?_;refine A0 (oCl (pread_ok b (by omega)) rfl fn_20 ⟨(zd rfl),trivial⟩) ?_;refine A0 mX ?_
    refine A0 (by first|exact zO rfl rfl|exact zM rfl rfl) ?_;refine A0 (by first|exact zR rfl rfl|exact zQ rfl rfl) ?_;refine qaC ?_;refine qaY ?_;refine A0 (oCl (zeT (readR b)) rfl fn_18 ⟨(zd rfl),trivial⟩) ?_;refine A0 mX ?_;refine A0 (by first|exact zO rfl rfl|exact zM rfl rfl) ?_;refine A0 (by first|exact zR rfl rfl|exact zQ rfl rfl) ?_;refine A0 aV ?_;refine qaj ?_;refine A0 zaW ?_;refine zI (d:=80) (p:=prE l m k=0) rfl (by simp [IntL.toI]) (fun g80=>?_) (fun g80=>?_)
    ·
     have hbp:=build_put g80 hfc hbw
     refine qbp ?_;refine A1 oN ?_;refine zbR (d:=83) rfl (by rw [hbp.1];rfl) ?_;refine qag ?_;refine qaG ?_;refine zI (d:=87) (p:=wOk p=true) rfl (by simp) (fun g87=>?_) (fun g87=>?_)
     ·
      refine A1 mV ?_;refine A1 oN ?_;refine zbR (d:=89) rfl (by rw [(zeF hpw g87).1];rfl) ?_;refine A1 mV ?_;refine A1 (oLs rfl rfl rfl zaE) ?_;refine A1 (oLs rfl rfl rfl zaE) ?_;refine A1 (oCl (sameP_ok (readR (pputL p)) p) rfl fn_23 ⟨(zd rfl),(zd rfl),trivial⟩) ?_;refine A1 oN ?_;refine zbR (d:=94) rfl (by rw [(zeF hpw g87).2];simp) ?_;refine A1 oK ?_;refine A1 oK ?_;refine qas ?_;refine Cg ?_;refine qb4 ?_;refine A0 oN ?_;refine zI (d:=99) (p:=¬readOk b=true) rfl (by cases readOk b<;>rfl) (fun g99=>?_) (fun g99=>?_)
      ·
       refine qav ?_;refine qar ?_;refine A1 zaW ?_;refine zay (d:=104) rfl (by rw [zcT (Bool.eq_false_iff.2 g99)];rfl) ?_;refine qbs ?_
       exact za rfl rfl (zb rfl (rfl))
      ·
       refine qby ?_;refine A2 ?_;refine qbv ?_;refine zay (d:=107) rfl (Classical.not_not.1 g99) ?_;refine qaG ?_;refine zay (d:=109) rfl ((zeN (Classical.not_not.1 g99)).1) ?_;refine A1 oK ?_;refine qaG ?_;refine A1 (g_cvs rfl rfl uu_26 ui_5 st_9) ?_;refine A1 mV ?_;refine A1 (g_cvs rfl rfl uu_26 ui_5 st_9) ?_;refine A1 (g_eqlstr rfl rfl rfl) ?_;refine A1 oK ?_;refine qa1 ?_
       exact za rfl rfl (zb rfl (decide_eq_true (zeN (Classical.not_not.1 g99)).2))
     ·
      refine qab ?_;refine qaB ?_;refine A3 ?_;refine A2 ?_;refine A1 oK ?_;refine qas ?_;refine Cg ?_;refine qb4 ?_;refine A0 oN ?_;refine zI (d:=99) (p:=¬readOk b=true) rfl (by cases readOk b<;>rfl) (fun g99=>?_) (fun g99=>?_)
      ·
       refine qav ?_;refine qar ?_;refine A1 zaW ?_;refine zay (d:=104) rfl (by rw [zcT (Bool.eq_false_iff.2 g99)];rfl) ?_;refine qbs ?_
       exact za rfl rfl (zb rfl (rfl))
      ·
       refine qby ?_;refine A2 ?_;refine qbv ?_;refine zay (d:=107) rfl (Classical.not_not.1 g99) ?_;refine qaG ?_;refine zay (d:=109) rfl ((zeN (Classical.not_not.1 g99)).1) ?_;refine A1 oK ?_;refine qaG ?_;refine A1 (g_cvs rfl rfl uu_26 ui_5 st_9) ?_;refine A1 mV ?_;refine A1 (g_cvs rfl rfl uu_26 ui_5 st_9) ?_;refine A1 (g_eqlstr rfl rfl rfl) ?_;refine A1 oK ?_;refine qa1 ?_
       exact za rfl rfl (zb rfl (decide_eq_true (zeN (Classical.not_not.1 g99)).2))
    ·
     refine qav ?_;refine qaE ?_;refine qag ?_;refine qaG ?_;refine zI (d:=87) (p:=wOk p=true) rfl (by simp) (fun g87=>?_) (fun g87=>?_)
     ·
      refine A1 mV ?_;refine A1 oN ?_;refine zbR (d:=89) rfl (by rw [(zeF hpw g87).1];rfl) ?_;refine A1 mV ?_;refine A1 (oLs rfl rfl rfl zaE) ?_;refine A1 (oLs rfl rfl rfl zaE) ?_;refine A1 (oCl (sameP_ok (readR (pputL p)) p) rfl fn_23 ⟨(zd rfl),(zd rfl),trivial⟩) ?_;refine A1 oN ?_;refine zbR (d:=94) rfl (by rw [(zeF hpw g87).2];simp) ?_;refine A1 oK ?_;refine A1 oK ?_;refine qas ?_;refine Cg ?_;refine qb4 ?_;refine A0 oN ?_;refine zI (d:=99) (p:=¬readOk b=true) rfl (by cases readOk b<;>rfl) (fun g99=>?_) (fun g99=>?_)
      ·
       refine qav ?_;refine qar ?_;refine A1 zaW ?_;refine zay (d:=104) rfl (by rw [zcT (Bool.eq_false_iff.2 g99)];rfl) ?_;refine qbs ?_
       exact za rfl rfl (zb rfl (rfl))
      ·
       refine qby ?_;refine A2 ?_;refine qbv ?_;refine zay (d:=107) rfl (Classical.not_not.1 g99) ?_;refine qaG ?_;refine zay (d:=109) rfl ((zeN (Classical.not_not.1 g99)).1) ?_;refine A1 oK ?_;refine qaG ?_;refine A1 (g_cvs rfl rfl uu_26 ui_5 st_9) ?_;refine A1 mV ?_;refine A1 (g_cvs rfl rfl uu_26 ui_5 st_9) ?_;refine A1 (g_eqlstr rfl rfl rfl) ?_;refine A1 oK ?_;refine qa1 ?_
       exact za rfl rfl (zb rfl (decide_eq_true (zeN (Classical.not_not.1 g99)).2))
     ·
      refine qab ?_;refine qaB ?_;refine A3 ?_;refine A2 ?_;refine A1 oK ?_;refine qas ?_;refine Cg ?_;refine qb4 ?_;refine A0 oN ?_;refine zI (d:=99) (p:=¬readOk b=true) rfl (by cases readOk b<;>rfl) (fun g99=>?_) (fun g99=>?_)
      ·
       refine qav ?_;refine qar ?_;refine A1 zaW ?_;refine zay (d:=104) rfl (by rw [zcT (Bool.eq_false_iff.2 g99)];rfl) ?_;refine qbs ?_
       exact za rfl rfl (zb rfl (rfl))
      ·
       refine qby ?_;refine A2 ?_;refine qbv ?_;refine zay (d:=107) rfl (Classical.not_not.1 g99) ?_;refine qaG ?_;refine zay (d:=109) rfl ((zeN (Classical.not_not.1 g99)).1) ?_;refine A1 oK ?_;refine qaG ?_;refine A1 (g_cvs rfl rfl uu_26 ui_5 st_9) ?_;refine A1 mV ?_;refine A1 (g_cvs rfl rfl uu_26 ui_5 st_9) ?_;refine A1 (g_eqlstr rfl rfl rfl) ?_;refine A1 oK ?_;refine qa1 ?_
       exact za rfl rfl (zb rfl (decide_eq_true (zeN (Classical.not_not.1 g99)).2))
set_option maxRecDepth 20000
section
variable {l:List Block} {m k q:Int}
def wayP (l:List Block) (m k q:Int):List Part:=(zbO l m k q).map (prPart l)
theorem wi_ok (h:wiE l m k q=0):prE l m k=0∧0≤q∧q<(l.length:Int)-k:=by
  unfold wiE at h
  by_cases c:prE l m k=0
  · rw [if_neg (fun g=>g c)] at h
    by_cases d:q<0∨(l.length:Int)-k≤q
    · rw [if_pos d] at h;cases h
    · exact ⟨c,by omega,by omega⟩
  · rw [if_pos c] at h;exact absurd h c
theorem wi_is (h:wiE l m k q=0):wiOf l m k q=⟨m,k,wayP l m k q⟩:=by unfold wiOf;rw [if_pos h];rfl
theorem way_put (h:wiE l m k q=0) (hn:l.length≤50) (hbw:BW l):wOk (wiOf l m k q)=true∧PW (wiOf l m k q)∧(wayP l m k q).length≤l.length:=by
  obtain ⟨h1,h2,h3⟩:=wi_ok h
  have hb:=zbp h1
  have:=parts_put hb hn hbw (zfo hb (q:=q)) (fun x hx=>with_mem hb h2 h3 hx)
  rw [wi_is h]
  exact ⟨this.1,this.2.1,by unfold wayP;rw [List.length_map];exact this.2.2.1⟩
theorem way_at (h:wiE l m k q=0) {p:Int} (hp:p∈zbO l m k q):∃b:Block,l[p.toNat]?=some b∧b.h.height=p∧prPart l p=⟨b.h,b.l⟩:=by
  obtain ⟨h1,h2,h3⟩:=wi_ok h
  have hb:=zbp h1
  have hm:=with_mem hb h2 h3 hp
  obtain ⟨b,hbk⟩:∃b,l[p.toNat]?=some b:=⟨_,List.getElem?_eq_getElem (by omega)⟩
  refine ⟨b,hbk,?_,?_⟩
  · have:=(zew (zd8 hb.c) hbk).1;omega
  · unfold prPart;rw [List.getD_eq_getElem?_getD,hbk];rfl
theorem zeD (h:wiE l m k q=0) {i:Nat} {x y:Part} (hx:(wayP l m k q)[i]?=some x) (hy:(wayP l m k q)[i+1]?=some y):x.h.height<y.h.height:=by
  unfold wayP at hx hy
  rw [List.getElem?_map] at hx hy
  obtain ⟨p,hp,rfl⟩:=Option.map_eq_some_iff.1 hx
  obtain ⟨r,hr,rfl⟩:=Option.map_eq_some_iff.1 hy
  obtain ⟨b,_,h3,h4⟩:=way_at h (List.mem_of_getElem? hp)
  obtain ⟨c,_,g3,g4⟩:=way_at h (List.mem_of_getElem? hr)
  rw [h4,g4]
  show b.h.height<c.h.height
  rw [h3,g3]
  exact (zbg (zfo (zbp (wi_ok h).1)) hp hr).2 (by omega)
theorem way_more (h:wiE l m k q=0):(partsOf l m k).length≤(wayP l m k q).length:=by
  have hb:=zbp (wi_ok h).1
  rw [zcB]
  unfold wayP
  rw [List.length_map]
  exact zaR (zfo hb) (zax hb) (fun x hx=>with_all hx)
theorem way_all {x:Part} (hx:x∈partsOf l m k):x∈wayP l m k q:=by
  obtain ⟨p,hp,rfl⟩:=List.mem_map.1 hx
  exact List.mem_map.2 ⟨p,with_all hp,rfl⟩
def hasN (L:List Part) (n:Int):Bool:=L.any fun x=>decide (x.h.height=n)
theorem hasN_step {L:List Part} {n:Int} {j:Nat} {z:Part} (hz:L[j]?=some z):hasN (L.take (j+1)) n=(hasN (L.take j) n||decide (z.h.height=n)):=by
  unfold hasN
  rw [List.take_add_one,hz,List.any_append];simp
theorem way_it (h:wiE l m k q=0):hasN (wayP l m k q) q=true:=by
  obtain ⟨h1,h2,h3⟩:=wi_ok h
  have hm:=with_it (zbp h1) h2 h3
  obtain ⟨b,_,g3,g4⟩:=way_at h hm
  exact List.any_eq_true.2 ⟨prPart l q,List.mem_map_of_mem hm,decide_eq_true (by rw [g4];exact g3)⟩
def partB (A:List Part) (x:Int) (L:List Part):Bool:=decide (0≤x∧x<A.length)&&hasH L (A.getD x.toNat default).h
end
section
variable {A W:List Part} {x q:Int} {i:Nat} {w y:Part}
theorem pb_step (hw:W[i]?=some w):partB A x (W.take (i+1))=(partB A x (W.take i)||(decide (0≤x∧x<A.length)&&decide (w.h=(A.getD x.toNat default).h))):=by
  unfold partB
  rw [has_step hw,Bool.and_or_distrib_left]
theorem zd0 (hw:W[i]?=some w) (h:partB A x (W.take i)=true):true=partB A x (W.take (i+1)):=by rw [pb_step hw,h];rfl
theorem zd1 (hw:W[i]?=some w) (hn:¬partB A x (W.take i)=true) (h0:0≤x) (h1:x<A.length) (hy:A[x.toNat]?=some y):decide (w.h=y.h)=partB A x (W.take (i+1)):=by
  rw [pb_step hw,Bool.eq_false_iff.2 hn,decide_eq_true (⟨h0,h1⟩:0≤x∧x<(A.length:Int)),List.getD_eq_getElem?_getD,hy];rfl
theorem pb_no (hw:W[i]?=some w) (hn:¬partB A x (W.take i)=true) (h:¬(0≤x∧x<(A.length:Int))):false=partB A x (W.take (i+1)):=by
  rw [pb_step hw,Bool.eq_false_iff.2 hn,decide_eq_false h];rfl
theorem pb_all (h0:0≤x) (h1:x<A.length) (h:∀y∈A,y∈W):partB A x W=true:=by
  obtain ⟨y,hy⟩:∃y,A[x.toNat]?=some y:=⟨_,List.getElem?_eq_getElem (by omega)⟩
  unfold partB
  rw [decide_eq_true (⟨h0,h1⟩:0≤x∧x<(A.length:Int)),List.getD_eq_getElem?_getD,hy,Bool.true_and]
  exact has_mem (h y (List.mem_of_getElem? hy))
theorem zdX (hw:W[i]?=some w) (h:hasN (W.take i) q=true):true=hasN (W.take (i+1)) q:=by rw [hasN_step hw,h];rfl
theorem zdY (hw:W[i]?=some w) (h:¬hasN (W.take i) q=true):decide (w.h.height=q)=hasN (W.take (i+1)) q:=by rw [hasN_step hw,Bool.eq_false_iff.2 h];rfl
end
theorem ProofWay_ok (l:List Block) (m k q x:Int) (hl:smallC l):Tells P 6 [.val (sl blockT) l,.val i64T m,.val i64T k,.val i64T q,.val i64T x] (.val boolT true):=by
 have hll:=hl.1
 refine zc Tryz.func6 rfl rfl rfl (fun ext w hext=>?_)
 refine ze (d:=0) rfl zl (fun hsl0=>?_)
 refine ze (d:=1) rfl zn (fun hin1=>?_)
 refine ze (d:=2) rfl zn (fun hin2=>?_)
 refine ze (d:=3) rfl zn (fun hin3=>?_)
 refine ze (d:=4) rfl zn (fun hin4=>?_)
 refine ze (d:=0) rfl fact_bw (fun hbw=>?_)
 refine CQR ?_;refine qbG ?_;refine qae ?_;refine A0 (oCl (fewC_ok l) rfl fn_12 ⟨(zd rfl),trivial⟩) ?_;refine qae ?_;refine qal ?_;refine A0 (oCl (zbU l m k hl) rfl fn_14 ⟨(zd rfl),(zd rfl),(zd rfl),trivial⟩) ?_;refine A0 mX ?_;refine A0 (by first|exact zO rfl rfl|exact zM rfl rfl) ?_;refine A0 (by first|exact zR rfl rfl|exact zQ rfl rfl) ?_;refine qaC ?_;refine qae ?_;refine qal ?_;refine qav ?_;refine A0 (oCl (prWith_ok l m k q hl) rfl fn_16 ⟨(zd rfl),(zd rfl),(zd rfl),(zd rfl),trivial⟩) ?_;refine A0 mX ?_
 refine A0 (by first|exact zO rfl rfl|exact zM rfl rfl) ?_;refine A0 (by first|exact zR rfl rfl|exact zQ rfl rfl) ?_;refine qaC ?_;refine qaj ?_;refine A0 oN ?_;refine zbR (d:=41) rfl (rfl) ?_;refine qbp ?_;refine A1 oN ?_;refine zI (d:=44) (p:=¬fewC l=true) rfl (by cases fewC l<;>rfl) (fun g44=>?_) (fun g44=>?_)
 ·
  refine qag ?_;refine qaE ?_;refine qbE ?_;refine Ct ?_;refine qbj ?_
  exact za rfl rfl (zb rfl (rfl))
 ·
  refine qbv ?_;refine A1 zch ?_;refine zI (d:=48) (p:=¬prE l m k=0) rfl (by simp [IntL.toI]) (fun g48=>?_) (fun g48=>?_)
  ·
   refine qbE ?_;refine Ct ?_;refine qbj ?_
   exact za rfl rfl (zb rfl (rfl))
  ·
   refine qbv ?_;refine A1 zch ?_;refine qas ?_;refine zp (p:=¬wiE l m k q=0) rfl (by simp [IntL.toI]) (fun ht53=>?_) (fun ht53=>?_)
   ·
    refine qbj ?_
    exact za rfl rfl (zb rfl (rfl))
   ·
    have hp1:prE l m k=0:=Classical.not_not.1 g48
    have hp2:wiE l m k q=0:=Classical.not_not.1 ht53
    have hfc:=fewC_len (Classical.not_not.1 g44)
    obtain ⟨A,hA⟩:∃A,A=partsOf l m k:=⟨_,rfl⟩
    obtain ⟨W,hW⟩:∃W,W=wayP l m k q:=⟨_,rfl⟩
    obtain ⟨hwp,_,hwl⟩:=way_put hp2 hfc hbw
    have haw:=way_more hp2
    rw [←hW] at hwl
    rw [←hA,←hW] at haw
    rw [wi_is hp2,←hW] at hwp
    have hall:∀y∈A,y∈W:=fun y hy=>by rw [hW];rw [hA] at hy;exact way_all hy
    have hit:=way_it hp2
    rw [←hW] at hit
    have hpa:({ m:=m,k:=k,p:=A }:Proof).p.length=A.length:=rfl
    have hpb:({ m:=m,k:=k,p:=W }:Proof).p.length=W.length:=rfl
    refine zS (n:=0) (y:=(⟨m,k,A⟩:Proof)) rfl (by rw [pr_is hp1,hA]) ?_;refine zS (n:=1) (y:=(⟨m,k,W⟩:Proof)) rfl (by rw [wi_is hp2,hW]) ?_;refine CSQR ?_;refine A0 (oLs rfl rfl rfl zaE) ?_;refine A0 (oCl (zeT (⟨m,k,W⟩:Proof)) rfl fn_18 ⟨(zd rfl),trivial⟩) ?_;refine A0 mX ?_;refine A0 (by first|exact zO rfl rfl|exact zM rfl rfl) ?_;refine A0 (by first|exact zR rfl rfl|exact zQ rfl rfl) ?_;refine A0 aV ?_;refine qat ?_;refine qat ?_;refine qb0 ?_;refine zi (d:=18) (y:=true) rfl hwp ?_;refine zi (d:=19) (y:=hasN (W.take 0) q) rfl (by rfl) ?_
    refine zi (d:=20) (y:=partB A x (W.take 0)) rfl (by unfold partB hasH;simp) ?_;refine Lp (ι:=Nat) 2 (fun (i:Nat)=>((((((((Fr.none).set 3 (.val i64T q)).set 4 (.val i64T x)).set 13 (.ptr 0 0)).set 15 (.ptr 1 0)).set 18 (.val boolT true)).set 19 (.val boolT (hasN (W.take i) q))).set 20 (.val boolT (partB A x (W.take i)))).set 21 (.val i64T (i:Int))) (fun (i:Nat)=>((Hp.none).set 0 (.box 25 proofT (⟨m,k,A⟩:Proof))).set 1 (.box 25 proofT (⟨m,k,W⟩:Proof))) (fun (i:Nat)=>i≤W.length) (fun (i:Nat)=>W.length-i) (0) (Nat.zero_le _) ?_
    intro i hinv
    refine qbi ?_;refine qa3 ?_;refine qaK ?_;refine Cf (p:=i<W.length) (fun ht64=>?_) (fun ht64=>?_)
    ·
     obtain ⟨w,hw⟩:∃w,W[i]?=some w:=⟨_,List.getElem?_eq_getElem ht64⟩
     refine CSQBQR ?_;refine qal ?_;refine zI (d:=68) (p:=hasN (W.take i) q=true) rfl (by simp) (fun g68=>?_) (fun g68=>?_)
     ·
      refine qab ?_;refine qab ?_;refine qab ?_;refine A0 oK ?_;refine qb6 ?_;refine qbQ ?_;refine zT (d:=80) (p:=partB A x (W.take i)=true) rfl (by simp) (fun g80=>?_) (fun g80=>?_)
      ·
       refine qan ?_;refine qbf ?_;refine G3 ?_;refine G3 ?_;refine G2 ?_;refine G2 ?_;refine qad ?_;refine qbf ?_;refine G3 ?_;refine G2 ?_;refine qa6 ?_;refine zT (d:=108) (p:=0<i) rfl (by first|rfl|(rw [decide_eq_decide];simp only [IntL.toI,id_eq];omega)|(simp [IntL.toI];done)|(simp [IntL.toI];omega)) (fun g108=>?_) (fun g108=>?_)
       ·
        obtain ⟨v,hv⟩:∃v,W[i-1]?=some v:=⟨_,List.getElem?_eq_getElem (by omega)⟩
        have hrise:=zeD hp2 (i:=i-1) (hW▸hv) (by rw [show i-1+1=i by omega];exact hW▸hw)
        refine qbl ?_;refine G1 (zo (i:=i) rfl rfl rfl (by omega) zaP (by assumption)) ?_;refine qbS ?_;refine G1 (zo (i:=i-1) rfl rfl rfl (by omega) zaP (by assumption)) ?_;refine qap ?_;refine G1 zcP ?_;refine zcO (d:=124) rfl (decide_eq_false (by simp only [IntL.toI,id_eq];omega)) ?_;refine qa4 ?_;refine Cg ?_;refine qaw ?_;refine zi (d:=19) (y:=hasN (W.take (i+1)) q) rfl (by first|exact zdX hw g68|exact zdY hw g68) ?_;refine zi (d:=20) (y:=partB A x (W.take (i+1))) rfl (by first|exact zd0 hw g80|exact zd1 hw g80 g82 g88 hy|exact pb_no hw g80 (by omega)) ?_
        exact Nx (i+1) (by omega) (by omega)
       ·
        refine qbk ?_;refine Cg ?_;refine qaw ?_;refine zi (d:=19) (y:=hasN (W.take (i+1)) q) rfl (by first|exact zdX hw g68|exact zdY hw g68) ?_;refine zi (d:=20) (y:=partB A x (W.take (i+1))) rfl (by first|exact zd0 hw g80|exact zd1 hw g80 g82 g88 hy|exact pb_no hw g80 (by omega)) ?_
        exact Nx (i+1) (by omega) (by omega)
      ·
       refine G1 mV ?_;refine G1 zcU ?_;refine zT (d:=82) (p:=0≤x) rfl (by first|rfl|(rw [decide_eq_decide];simp only [IntL.toI,id_eq];omega)|(simp [IntL.toI];done)|(simp [IntL.toI];omega)) (fun g82=>?_) (fun g82=>?_)
       ·
        refine G1 mV ?_;refine G1 mV ?_;refine qao ?_;refine G1 (zK rfl rfl zbY) ?_;refine G1 zbF ?_;refine zT (d:=88) (p:=x<(A.length:Int)) rfl (by first|rfl|(rw [decide_eq_decide];simp only [IntL.toI,id_eq];omega)|(simp [IntL.toI];done)|(simp [IntL.toI];omega)) (fun g88=>?_) (fun g88=>?_)
        ·
         obtain ⟨y,hy⟩:∃y,A[x.toNat]?=some y:=⟨_,List.getElem?_eq_getElem (by omega)⟩
         refine G1 oK ?_;refine G1 mV ?_;refine qbl ?_;refine G1 (zo (i:=i) rfl rfl rfl (by omega) zaP (by assumption)) ?_;refine qaN ?_;refine qbl ?_;refine G1 (zo (i:=x.toNat) rfl rfl rfl (by omega) zaP (by assumption)) ?_;refine qaN ?_;refine G1 (g_eqlS rfl rfl rfl (eqt_52)) ?_;refine G1 oK ?_;refine qa6 ?_;refine zT (d:=108) (p:=0<i) rfl (by first|rfl|(rw [decide_eq_decide];simp only [IntL.toI,id_eq];omega)|(simp [IntL.toI];done)|(simp [IntL.toI];omega)) (fun g108=>?_) (fun g108=>?_)
         ·
          obtain ⟨v,hv⟩:∃v,W[i-1]?=some v:=⟨_,List.getElem?_eq_getElem (by omega)⟩
          have hrise:=zeD hp2 (i:=i-1) (hW▸hv) (by rw [show i-1+1=i by omega];exact hW▸hw)
          refine qbl ?_;refine G1 (zo (i:=i) rfl rfl rfl (by omega) zaP (by assumption)) ?_;refine qbS ?_;refine G1 (zo (i:=i-1) rfl rfl rfl (by omega) zaP (by assumption)) ?_;refine qap ?_;refine G1 zcP ?_;refine zcO (d:=124) rfl (decide_eq_false (by simp only [IntL.toI,id_eq];omega)) ?_;refine qa4 ?_;refine Cg ?_;refine qaw ?_;refine zi (d:=19) (y:=hasN (W.take (i+1)) q) rfl (by first|exact zdX hw g68|exact zdY hw g68) ?_;refine zi (d:=20) (y:=partB A x (W.take (i+1))) rfl (by first|exact zd0 hw g80|exact zd1 hw g80 g82 g88 hy|exact pb_no hw g80 (by omega)) ?_
          exact Nx (i+1) (by omega) (by omega)
         ·
          refine qbk ?_;refine Cg ?_;refine qaw ?_;refine zi (d:=19) (y:=hasN (W.take (i+1)) q) rfl (by first|exact zdX hw g68|exact zdY hw g68) ?_;refine zi (d:=20) (y:=partB A x (W.take (i+1))) rfl (by first|exact zd0 hw g80|exact zd1 hw g80 g82 g88 hy|exact pb_no hw g80 (by omega)) ?_
          exact Nx (i+1) (by omega) (by omega)
        ·
         refine qb5 ?_;refine zT (d:=108) (p:=0<i) rfl (by first|rfl|(rw [decide_eq_decide];simp only [IntL.toI,id_eq];omega)|(simp [IntL.toI];done)|(simp [IntL.toI];omega)) (fun g108=>?_) (fun g108=>?_)
         ·
          obtain ⟨v,hv⟩:∃v,W[i-1]?=some v:=⟨_,List.getElem?_eq_getElem (by omega)⟩
          have hrise:=zeD hp2 (i:=i-1) (hW▸hv) (by rw [show i-1+1=i by omega];exact hW▸hw)
          refine qbl ?_;refine G1 (zo (i:=i) rfl rfl rfl (by omega) zaP (by assumption)) ?_;refine qbS ?_;refine G1 (zo (i:=i-1) rfl rfl rfl (by omega) zaP (by assumption)) ?_;refine qap ?_;refine G1 zcP ?_;refine zcO (d:=124) rfl (decide_eq_false (by simp only [IntL.toI,id_eq];omega)) ?_;refine qa4 ?_;refine Cg ?_;refine qaw ?_;refine zi (d:=19) (y:=hasN (W.take (i+1)) q) rfl (by first|exact zdX hw g68|exact zdY hw g68) ?_;refine zi (d:=20) (y:=partB A x (W.take (i+1))) rfl (by first|exact zd0 hw g80|exact zd1 hw g80 g82 g88 hy|exact pb_no hw g80 (by omega)) ?_
          exact Nx (i+1) (by omega) (by omega)
         ·
          refine qbk ?_;refine Cg ?_;refine qaw ?_;refine zi (d:=19) (y:=hasN (W.take (i+1)) q) rfl (by first|exact zdX hw g68|exact zdY hw g68) ?_;refine zi (d:=20) (y:=partB A x (W.take (i+1))) rfl (by first|exact zd0 hw g80|exact zd1 hw g80 g82 g88 hy|exact pb_no hw g80 (by omega)) ?_
          exact Nx (i+1) (by omega) (by omega)
       ·
        refine G1 mV ?_;refine qan ?_;refine G2 ?_;refine G2 ?_;refine qb5 ?_;refine zT (d:=108) (p:=0<i) rfl (by first|rfl|(rw [decide_eq_decide];simp only [IntL.toI,id_eq];omega)|(simp [IntL.toI];done)|(simp [IntL.toI];omega)) (fun g108=>?_) (fun g108=>?_)
        ·
         obtain ⟨v,hv⟩:∃v,W[i-1]?=some v:=⟨_,List.getElem?_eq_getElem (by omega)⟩
         have hrise:=zeD hp2 (i:=i-1) (hW▸hv) (by rw [show i-1+1=i by omega];exact hW▸hw)
         refine qbl ?_;refine G1 (zo (i:=i) rfl rfl rfl (by omega) zaP (by assumption)) ?_;refine qbS ?_;refine G1 (zo (i:=i-1) rfl rfl rfl (by omega) zaP (by assumption)) ?_;refine qap ?_;refine G1 zcP ?_;refine zcO (d:=124) rfl (decide_eq_false (by simp only [IntL.toI,id_eq];omega)) ?_;refine qa4 ?_;refine Cg ?_;refine qaw ?_;refine zi (d:=19) (y:=hasN (W.take (i+1)) q) rfl (by first|exact zdX hw g68|exact zdY hw g68) ?_;refine zi (d:=20) (y:=partB A x (W.take (i+1))) rfl (by first|exact zd0 hw g80|exact zd1 hw g80 g82 g88 hy|exact pb_no hw g80 (by omega)) ?_
         exact Nx (i+1) (by omega) (by omega)
        ·
         refine qbk ?_;refine Cg ?_;refine qaw ?_;refine zi (d:=19) (y:=hasN (W.take (i+1)) q) rfl (by first|exact zdX hw g68|exact zdY hw g68) ?_;refine zi (d:=20) (y:=partB A x (W.take (i+1))) rfl (by first|exact zd0 hw g80|exact zd1 hw g80 g82 g88 hy|exact pb_no hw g80 (by omega)) ?_
         exact Nx (i+1) (by omega) (by omega)
     ·
      refine A1 (oFp zaq) ?_;refine A1 (oLb zao zcd) ?_;refine A1 mV ?_;refine A1 (zo (i:=i) rfl rfl rfl (by omega) zaP (by assumption)) ?_;refine A1 (oFr za6 zaO) ?_;refine A1 (oFr zaU z7) ?_;refine A1 (zf rfl rfl ty_3) ?_;refine A1 mV ?_;refine A1 zaW ?_;refine A0 oK ?_;refine qb6 ?_;refine qbQ ?_;refine zT (d:=80) (p:=partB A x (W.take i)=true) rfl (by simp) (fun g80=>?_) (fun g80=>?_)
      ·
       refine qan ?_;refine qbf ?_;refine G3 ?_;refine G3 ?_;refine G2 ?_;refine G2 ?_;refine qad ?_;refine qbf ?_;refine G3 ?_;refine G2 ?_;refine qa6 ?_;refine zT (d:=108) (p:=0<i) rfl (by first|rfl|(rw [decide_eq_decide];simp only [IntL.toI,id_eq];omega)|(simp [IntL.toI];done)|(simp [IntL.toI];omega)) (fun g108=>?_) (fun g108=>?_)
       ·
        obtain ⟨v,hv⟩:∃v,W[i-1]?=some v:=⟨_,List.getElem?_eq_getElem (by omega)⟩
        have hrise:=zeD hp2 (i:=i-1) (hW▸hv) (by rw [show i-1+1=i by omega];exact hW▸hw)
        refine qbl ?_;refine G1 (zo (i:=i) rfl rfl rfl (by omega) zaP (by assumption)) ?_;refine qbS ?_;refine G1 (zo (i:=i-1) rfl rfl rfl (by omega) zaP (by assumption)) ?_;refine qap ?_;refine G1 zcP ?_;refine zcO (d:=124) rfl (decide_eq_false (by simp only [IntL.toI,id_eq];omega)) ?_;refine qa4 ?_;refine Cg ?_;refine qaw ?_;refine zi (d:=19) (y:=hasN (W.take (i+1)) q) rfl (by first|exact zdX hw g68|exact zdY hw g68) ?_;refine zi (d:=20) (y:=partB A x (W.take (i+1))) rfl (by first|exact zd0 hw g80|exact zd1 hw g80 g82 g88 hy|exact pb_no hw g80 (by omega)) ?_
        exact Nx (i+1) (by omega) (by omega)
       ·
        refine qbk ?_;refine Cg ?_;refine qaw ?_;refine zi (d:=19) (y:=hasN (W.take (i+1)) q) rfl (by first|exact zdX hw g68|exact zdY hw g68) ?_;refine zi (d:=20) (y:=partB A x (W.take (i+1))) rfl (by first|exact zd0 hw g80|exact zd1 hw g80 g82 g88 hy|exact pb_no hw g80 (by omega)) ?_
        exact Nx (i+1) (by omega) (by omega)
      ·
       refine G1 mV ?_;refine G1 zcU ?_;refine zT (d:=82) (p:=0≤x) rfl (by first|rfl|(rw [decide_eq_decide];simp only [IntL.toI,id_eq];omega)|(simp [IntL.toI];done)|(simp [IntL.toI];omega)) (fun g82=>?_) (fun g82=>?_)
       ·
        refine G1 mV ?_;refine G1 mV ?_;refine qao ?_;refine G1 (zK rfl rfl zbY) ?_;refine G1 zbF ?_;refine zT (d:=88) (p:=x<(A.length:Int)) rfl (by first|rfl|(rw [decide_eq_decide];simp only [IntL.toI,id_eq];omega)|(simp [IntL.toI];done)|(simp [IntL.toI];omega)) (fun g88=>?_) (fun g88=>?_)
        ·
         obtain ⟨y,hy⟩:∃y,A[x.toNat]?=some y:=⟨_,List.getElem?_eq_getElem (by omega)⟩
         refine G1 oK ?_;refine G1 mV ?_;refine qbl ?_;refine G1 (zo (i:=i) rfl rfl rfl (by omega) zaP (by assumption)) ?_;refine qaN ?_;refine qbl ?_;refine G1 (zo (i:=x.toNat) rfl rfl rfl (by omega) zaP (by assumption)) ?_;refine qaN ?_;refine G1 (g_eqlS rfl rfl rfl (eqt_52)) ?_;refine G1 oK ?_;refine qa6 ?_;refine zT (d:=108) (p:=0<i) rfl (by first|rfl|(rw [decide_eq_decide];simp only [IntL.toI,id_eq];omega)|(simp [IntL.toI];done)|(simp [IntL.toI];omega)) (fun g108=>?_) (fun g108=>?_)
         ·
          obtain ⟨v,hv⟩:∃v,W[i-1]?=some v:=⟨_,List.getElem?_eq_getElem (by omega)⟩
          have hrise:=zeD hp2 (i:=i-1) (hW▸hv) (by rw [show i-1+1=i by omega];exact hW▸hw)
          refine qbl ?_;refine G1 (zo (i:=i) rfl rfl rfl (by omega) zaP (by assumption)) ?_;refine qbS ?_;refine G1 (zo (i:=i-1) rfl rfl rfl (by omega) zaP (by assumption)) ?_;refine qap ?_;refine G1 zcP ?_;refine zcO (d:=124) rfl (decide_eq_false (by simp only [IntL.toI,id_eq];omega)) ?_;refine qa4 ?_;refine Cg ?_;refine qaw ?_;refine zi (d:=19) (y:=hasN (W.take (i+1)) q) rfl (by first|exact zdX hw g68|exact zdY hw g68) ?_;refine zi (d:=20) (y:=partB A x (W.take (i+1))) rfl (by first|exact zd0 hw g80|exact zd1 hw g80 g82 g88 hy|exact pb_no hw g80 (by omega)) ?_
          exact Nx (i+1) (by omega) (by omega)
         ·
          refine qbk ?_;refine Cg ?_;refine qaw ?_;refine zi (d:=19) (y:=hasN (W.take (i+1)) q) rfl (by first|exact zdX hw g68|exact zdY hw g68) ?_;refine zi (d:=20) (y:=partB A x (W.take (i+1))) rfl (by first|exact zd0 hw g80|exact zd1 hw g80 g82 g88 hy|exact pb_no hw g80 (by omega)) ?_
          exact Nx (i+1) (by omega) (by omega)
        ·
         refine qb5 ?_;refine zT (d:=108) (p:=0<i) rfl (by first|rfl|(rw [decide_eq_decide];simp only [IntL.toI,id_eq];omega)|(simp [IntL.toI];done)|(simp [IntL.toI];omega)) (fun g108=>?_) (fun g108=>?_)
         ·
          obtain ⟨v,hv⟩:∃v,W[i-1]?=some v:=⟨_,List.getElem?_eq_getElem (by omega)⟩
          have hrise:=zeD hp2 (i:=i-1) (hW▸hv) (by rw [show i-1+1=i by omega];exact hW▸hw)
          refine qbl ?_;refine G1 (zo (i:=i) rfl rfl rfl (by omega) zaP (by assumption)) ?_;refine qbS ?_;refine G1 (zo (i:=i-1) rfl rfl rfl (by omega) zaP (by assumption)) ?_;refine qap ?_;refine G1 zcP ?_;refine zcO (d:=124) rfl (decide_eq_false (by simp only [IntL.toI,id_eq];omega)) ?_;refine qa4 ?_;refine Cg ?_;refine qaw ?_;refine zi (d:=19) (y:=hasN (W.take (i+1)) q) rfl (by first|exact zdX hw g68|exact zdY hw g68) ?_;refine zi (d:=20) (y:=partB A x (W.take (i+1))) rfl (by first|exact zd0 hw g80|exact zd1 hw g80 g82 g88 hy|exact pb_no hw g80 (by omega)) ?_
          exact Nx (i+1) (by omega) (by omega)
         ·
          refine qbk ?_;refine Cg ?_;refine qaw ?_;refine zi (d:=19) (y:=hasN (W.take (i+1)) q) rfl (by first|exact zdX hw g68|exact zdY hw g68) ?_;refine zi (d:=20) (y:=partB A x (W.take (i+1))) rfl (by first|exact zd0 hw g80|exact zd1 hw g80 g82 g88 hy|exact pb_no hw g80 (by omega)) ?_
          exact Nx (i+1) (by omega) (by omega)
       ·
        refine G1 mV ?_;refine qan ?_;refine G2 ?_;refine G2 ?_;refine qb5 ?_;refine zT (d:=108) (p:=0<i) rfl (by first|rfl|(rw [decide_eq_decide];simp only [IntL.toI,id_eq];omega)|(simp [IntL.toI];done)|(simp [IntL.toI];omega)) (fun g108=>?_) (fun g108=>?_)
        ·
         obtain ⟨v,hv⟩:∃v,W[i-1]?=some v:=⟨_,List.getElem?_eq_getElem (by omega)⟩
         have hrise:=zeD hp2 (i:=i-1) (hW▸hv) (by rw [show i-1+1=i by omega];exact hW▸hw)
         refine qbl ?_;refine G1 (zo (i:=i) rfl rfl rfl (by omega) zaP (by assumption)) ?_;refine qbS ?_;refine G1 (zo (i:=i-1) rfl rfl rfl (by omega) zaP (by assumption)) ?_;refine qap ?_;refine G1 zcP ?_;refine zcO (d:=124) rfl (decide_eq_false (by simp only [IntL.toI,id_eq];omega)) ?_;refine qa4 ?_;refine Cg ?_;refine qaw ?_;refine zi (d:=19) (y:=hasN (W.take (i+1)) q) rfl (by first|exact zdX hw g68|exact zdY hw g68) ?_;refine zi (d:=20) (y:=partB A x (W.take (i+1))) rfl (by first|exact zd0 hw g80|exact zd1 hw g80 g82 g88 hy|exact pb_no hw g80 (by omega)) ?_
         exact Nx (i+1) (by omega) (by omega)
        ·
         refine qbk ?_;refine Cg ?_;refine qaw ?_;refine zi (d:=19) (y:=hasN (W.take (i+1)) q) rfl (by first|exact zdX hw g68|exact zdY hw g68) ?_;refine zi (d:=20) (y:=partB A x (W.take (i+1))) rfl (by first|exact zd0 hw g80|exact zd1 hw g80 g82 g88 hy|exact pb_no hw g80 (by omega)) ?_
         exact Nx (i+1) (by omega) (by omega)
    ·
     have hWi:W.take i=W:=List.take_of_length_le (by omega)
     refine zi (d:=19) (y:=true) rfl (by rw [hWi];exact hit) ?_;refine zi (d:=20) (y:=partB A x W) rfl (by rw [hWi]) ?_;refine CE ?_;refine qa2 ?_;refine zay (d:=126) rfl (rfl) ?_;refine qbp ?_;refine zay (d:=128) rfl (rfl) ?_;refine qag ?_;refine qaG ?_;refine zI (d:=132) (p:=partB A x W=true) rfl (by simp) (fun g132=>?_) (fun g132=>?_)
     ·
      refine qaE ?_;refine A1 oK ?_;refine A1 mV ?_;refine qab ?_;refine qaE ?_;refine A1 oK ?_;refine qag ?_;refine qar ?_;refine qar ?_;refine A1 zcU ?_;refine qa1 ?_
      exact za rfl rfl (zb rfl (decide_eq_true (by simp only [IntL.toI,id_eq];omega)))
     ·
      refine A1 mV ?_;refine A1 zbF ?_;refine Sp (d:=134) (p:=x<0) (fun g134=>?_) (fun g134=>?_)
      ·
       refine A1 oK ?_;refine A1 mV ?_;refine qab ?_;refine qaE ?_;refine A1 oK ?_;refine qag ?_;refine qar ?_;refine qar ?_;refine A1 zcU ?_;refine qa1 ?_
       exact za rfl rfl (zb rfl (decide_eq_true (by simp only [IntL.toI,id_eq];omega)))
      ·
       refine A1 oK ?_;refine qaG ?_;refine qar ?_;refine A1 zcU ?_;refine zay (d:=141) rfl (decide_eq_true (by simp only [IntL.toI,id_eq];exact Int.not_lt.1 (fun c=>g132 (pb_all (by omega) c hall)))) ?_;refine A1 oK ?_;refine qag ?_;refine qar ?_;refine qar ?_;refine A1 zcU ?_;refine qa1 ?_
       exact za rfl rfl (zb rfl (decide_eq_true (by simp only [IntL.toI,id_eq];omega)))
end Go.Proofs.YtjjlfapfjjkomaaGreat
