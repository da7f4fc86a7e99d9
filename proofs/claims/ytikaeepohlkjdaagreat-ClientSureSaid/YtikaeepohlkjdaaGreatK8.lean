/- Parts of the proof: the layer that reads Go values as data, and what the functions of the program tell. -/
import Derived.Test.YtikaeepohlkjdaaGreatK7
set_option linter.unusedVariables false
set_option linter.unusedSimpArgs false
set_option maxRecDepth 20000
namespace Go.Proofs.YtikaeepohlkjdaaGreat
open Go.Ab Go.RowKit
def many (v:List Int) (n:Nat):Nat:=(v.filter fun x=>decide ((n:Int)≤x)).length
def znY (v:List Int) (m:Int):Nat→Int
  | 0=>(many v 0:Int)
  | n+1=>if m≤(many v n:Int) then max (znY v m n) ((many v n:Int)*2^n) else znY v m n
def zro (v:List Int) (m:Int):Int:=if 100<v.length then 0 else znY v m 32
def cntK (v:List Int) (k:Int):List Int:=(List.range 32).map fun j=>(many v j:Int)+if (j:Int)<k then 1 else 0
def znb (v:List Int):List Int:=(List.range 32).map fun j=>(many v j:Int)
theorem many_le (v:List Int) (n:Nat):many v n≤v.length:=List.length_filter_le _ _
theorem many_snoc {v:List Int} {i:Nat} {x:Int} (h:v[i]?=some x) (n:Nat):(many (v.take (i+1)) n:Int)=(many (v.take i) n:Int)+if (n:Int)≤x then 1 else 0:=by
  unfold many;rw[un,h];simp only[Option.toList_some,List.filter_append,ue];by_cases c:(n:Int)≤x<;>simp[c]
theorem cnt_nil:znb []=List.replicate 32 0:=yp
theorem cnt_at (v:List Int) {n:Nat} (h:n<32):(znb v)[n]?=some (many v n:Int):=by
  unfold znb;rw[List.getElem?_map,List.getElem?_range h];rfl
theorem zse (v:List Int) (k:Int) {n:Nat} (h:n<32):(cntK v k)[n]?=some ((many v n:Int)+if (n:Int)<k then 1 else 0):=by
  unfold cntK;rw[List.getElem?_map,List.getElem?_range h];rfl
theorem cntK_zero (v:List Int) {k:Int} (h:k≤0):cntK v k=znb v:=by
  unfold cntK znb;apply List.map_congr_left;intro j hj;rw[ur yc];simp
theorem zkh (v:List Int) (k:Int):(cntK v k).length=32:=by unfold cntK;simp
theorem cntK_step (v:List Int) {k:Nat} (h:k<32):(cntK v k).set k ((many v k:Int)+1)=cntK v ((k+1:Nat):Int):=by
  apply List.ext_getElem?;intro j;by_cases hj:j<32
  · by_cases e:k=j
    · subst e
      rw[List.getElem?_set_self (by rw[zkh];exact h),zse _ _ h,ut yc]
    rw[List.getElem?_set_ne e,zse _ _ hj,zse _ _ hj];congr 2;by_cases c:(j:Int)<k
    · rw[ut c,ut yc]
    rw[ur c,ur yc]
  rw[List.getElem?_eq_none (by simp[zkh];omega),List.getElem?_eq_none (by simp[zkh];omega)]
theorem cntK_end {v:List Int} {i k:Nat} {x:Int} (hx:v[i]?=some x) (h1:(k:Int)≤max (min x 31+1) 0) (h2:¬(k:Int)<min x 31+1):cntK (v.take i) k=znb (v.take (i+1)):=by
  unfold cntK znb;apply List.map_congr_left;intro j hj;rw[List.mem_range] at hj;rw[many_snoc hx];congr 1;by_cases c:(j:Int)<k
  · rw[ut c,ut yc]
  rw[ur c,ur yc]
theorem two_pow_le {n:Nat} (h:n<32):(2:Int)^n≤2147483648∧1≤(2:Int)^n:=by
  have h1:(2:Nat)^n≤2^31:=Nat.pow_le_pow_right yp yc;have h2:1≤(2:Nat)^n:=Nat.one_le_two_pow;have e:((2^n:Nat):Int)=(2:Int)^n:=yy;rw[←e];have h3:(2:Nat)^31=2147483648:=yp;omega
theorem shl_many {a n:Nat} (h:n<32) (ha:a≤100):IntKind.i64.wrap ((a:Int)*2^(min (IntL.toI i64T (n:Int)).toNat 64))=(a:Int)*2^n:=by
  have e:min (IntL.toI i64T (n:Int)).toNat 64=n:=by show min ((n:Int)).toNat 64=n;omega
  rw[e];have ⟨h1,h2⟩:=two_pow_le h;have h3:(a:Int)*2^n≤100*2147483648:=by
    have ha':(a:Int)≤100:=yc;exact Int.mul_le_mul ha' h1 yc yp
  have h4:0≤(a:Int)*2^n:=Int.mul_nonneg yc yc;exact zax yc
def zeX (a b:List Ab.Id):Nat→Int×Int
  | 0=>(-1,-1)
  | i+1=>if idx (fun x=>decide (a.getD i zId=x)) b = -1 then zeX a b i else ((i:Int),idx (fun x=>decide (a.getD i zId=x)) b)
def zcZ (p q:Proof):Int×Int:=zeX (idsP p) (idsP q) (idsP p).length
theorem common_go {a b:List Ab.Id} {k:Nat} {x:Ab.Id} (h0:0<k) (hx:a[k-1]?=some x) (h:idx (fun y=>decide (x=y)) b = -1):zeX a b k=zeX a b (k-1):=by
  obtain⟨j,rfl⟩:∃j,k=j+1:=⟨k-1,by omega⟩;have e:a.getD j zId=x:=by simp at hx;simp[hx]
  show(if _ then _ else _)=_;rw[e,ut h];rfl
theorem zo3 {a b:List Ab.Id} {k:Nat} {x:Ab.Id} (h0:0<k) (hx:a[k-1]?=some x) (h:¬idx (fun y=>decide (x=y)) b = -1):zeX a b k=((k:Int)-1,idx (fun y=>decide (x=y)) b):=by
  obtain⟨j,rfl⟩:∃j,k=j+1:=⟨k-1,by omega⟩;have e:a.getD j zId=x:=by simp at hx;simp[hx]
  show(if _ then _ else _)=_;rw[e,ur h];congr 1;simp
theorem idx_ltL {α:Type} (p:α→Bool):∀l:List α,idx p l<l.length
  | []=>by simp[idx]
  | x::l=>by
    have:=idx_ltL p l
    unfold idx;rw[List.length_cons]
    split
    · omega
    split<;>omega
theorem zlg (a b:List Ab.Id):∀i,-1≤(zeX a b i).1∧(zeX a b i).1<i∧-1≤(zeX a b i).2∧(zeX a b i).2<b.length∨zeX a b i=(-1,-1)
  | 0=>.inr rfl
  | i+1=>by
    unfold zeX
    split
    · rcases zlg a b i with h|h
      · exact .inl ⟨h.1,by omega,h.2.2.1,h.2.2.2⟩
      exact .inr h
    have h1:=ziI (fun x=>decide (a.getD i zId=x)) b;have h2:=idx_ltL (fun x=>decide (a.getD i zId=x)) b;exact .inl ⟨by show(-1:Int)≤i;omega,by show(i:Int)<((i+1:Nat):Int);omega,h1,h2⟩
theorem zt6 (p q:Proof):(-1≤(zcZ p q).1∧(zcZ p q).1<p.p.length)∧-1≤(zcZ p q).2∧(zcZ p q).2<q.p.length:=by
  have e1:(idsP p).length=p.p.length:=by unfold idsP;simp
  have e2:(idsP q).length=q.p.length:=by unfold idsP;simp
  rcases zlg (idsP p) (idsP q) (idsP p).length with h|h
  · rw[e1,e2] at h
    unfold zcZ;rw[e1];exact⟨⟨h.1,h.2.1⟩,h.2.2.1,h.2.2.2⟩
  unfold zcZ;rw[h];exact⟨⟨by decide,by show(-1:Int)<_;omega⟩,by decide,by show(-1:Int)<_;omega⟩
def zmt (p:Proof):Prop:=p.p.length≤110∧∀x∈p.p,x.l.length≤40
def zjO (x:PPair):Int:=if ¬zaa x.p=0 then zaa x.p else zaa x.q
def zlx (x:PPair):Int :=
  if ¬x.p.m=x.q.m∨¬x.p.k=x.q.k then 1 else if ¬(yAt x.p 0).h=(yAt x.q 0).h∧¬zw (yAt x.p 0).h=zw (yAt x.q 0).h then 12 else 0
def zg5 (p q:Proof):Int:=if ¬zjO ⟨p,q⟩=0 then zjO ⟨p,q⟩ else zlx ⟨p,q⟩
def zuE (p:Proof) (i:Int):Int:=zro ((zos p).drop (i+1).toNat) p.m
def zhZ (p q:Proof):Bool:=decide (zg5 p q=0)&&decide (zuE p (zcZ p q).1<zuE q (zcZ p q).2)
def zbg (p q:Proof):Proof×Int :=
  if ¬zaa p=0∧zaa q=0 then (q,0) else if ¬zaa p=0∨¬zaa q=0 then (p,zaa p) else if zhZ p q=true then (q,0) else (p,zg5 p q)
theorem ztI {p:Proof} (h:zaa p=0):0<p.p.length:=by
  have h:=zcy.1 h
  have:=h.k1
  have:=h.l1
  omega
theorem zqx {x:PPair} (h:zjO x=0):zaa x.p=0∧zaa x.q=0:=by
  unfold zjO at h
  split at h
  · rename_i c;exact absurd h c
  rename_i c;exact⟨ua c,h⟩
theorem pick_small {p q:Proof} (hp:zmt p) (hq:zmt q):zmt (zbg p q).1:=by
  unfold zbg
  split
  · exact hq
  split
  · exact hp
  split
  · exact hq
  exact hp
theorem zrl {α:Type} {l:List α} {i:Nat} {x:α} (h:l[i]?=some x):l.set i x=l:=by
  apply List.ext_getElem?;intro j;by_cases e:i=j
  · subst e
    rw[List.getElem?_set_self (ul.1 h).1,h]
  rw[List.getElem?_set_ne e]
theorem ze_204:zay P 204 (arrT 2 yp zac) (List.replicate 2 zbL):=zY (ze4 yp zeQ) yr
theorem zo9 (l:List Part) (hl:l.length*208≤140737488355328∧l.length≤9223372036854775807):Tells P 107 [.val (bsl zbl) l] (.fresh 72 zbl l):=by
 refine zc Tryz.func107 rfl rfl rfl (fun ext w hext=>?_);refine ze (d:=0) rfl zk (fun hsl0=>?_);refine qaq ?_;refine qbg ?_;refine zfS rfl rfl rfl rfl rfl zcx (fun c4 hc4=>?_);refine CN ?_;refine zn (p:=c4=true) rfl yy (fun ht4=>?_) (fun ht4=>?_)
 ·
  obtain rfl:=hc4 ht4;refine qaq ?_;refine CN ?_;exact zb rfl rfl (zp rfl)
 refine CSQR ?_;refine zce (T:=zbl) (xs:=[]) rfl rfl rfl rfl zfE zn5 trivial rfl rfl ?_;refine qax ?_;refine zF rfl rfl rfl rfl rfl rfl rfl zn5 yaz ?_;refine qbm ?_;exact zb rfl rfl (zh rfl rfl yy)
theorem score_ok (v:List Int) (m:Int):Tells P 64 [.val (bsl i64T) v,.val i64T m] (.val i64T (zro v m)):=by
 refine zc Tryz.func64 rfl rfl rfl (fun ext w hext=>?_);refine ze (d:=0) rfl zk (fun hsl0=>?_);refine ze (d:=1) rfl zt (fun hin1=>?_);refine qcw ?_;refine qbt ?_;refine qcC ?_;refine Cf (p:=100<v.length) (fun ht14=>?_) (fun ht14=>?_)
 ·
  refine qas ?_;exact zb rfl rfl (za rfl (by unfold zro;rw[ut ht14]))
 refine CSQR ?_;refine zs ze_209 rfl rfl rfl rfl ?_;refine qbg ?_;refine qbt ?_;refine qa2 ?_;refine zP (n:=0) (y:=znb (v.take 0)) rfl (by rw[List.take_zero,cnt_nil]) ?_;refine Lp (ι:=Nat) 1 (fun (i:Nat)=>(((((Fr.none).set 1 (.val i64T m)).set 5 (.ptr 0 0)).set 15 (.val (bsl i64T) v)).set 16 (.val i64T (v.length:Int))).set 17 (.val i64T (i:Int))) (fun (i:Nat)=>(Hp.none).set 0 (.box 209 (arrT 32 yp i64T) (znb (v.take i)))) (fun (i:Nat)=>i≤v.length) (fun (i:Nat)=>v.length-i) (0) (uf _) ?_;intro i hinv;refine qak ?_;refine Cf (p:=i<v.length) (fun ht18=>?_) (fun ht18=>?_)
 ·
  obtain⟨x,hx⟩:∃x,v[i]?=some x:=⟨_,ub ht18⟩;refine CSQBQR ?_;refine qc3 ?_;refine ze (d:=20) rfl zt (fun hxr=>?_);refine qce ?_;refine A0 (g_min rfl rfl rfl) ?_;refine A0 zdp ?_;refine qa2 ?_;refine zP (n:=0) (y:=cntK (v.take i) ((0:Nat):Int)) rfl (cntK_zero _ yy).symm ?_;refine Lp (ι:=Nat) 1 (fun (k:Nat)=>(((((((Fr.none).set 1 (.val i64T m)).set 5 (.ptr 0 0)).set 15 (.val (bsl i64T) v)).set 16 (.val i64T (v.length:Int))).set 17 (.val i64T (i:Int))).set 23 (.val i64T (min x 31+1))).set 24 (.val i64T (k:Int))) (fun (k:Nat)=>(Hp.none).set 0 (.box 209 (arrT 32 yp i64T) (cntK (v.take i) k))) (fun (k:Nat)=>(k:Int)≤max (min x 31+1) 0) (fun (k:Nat)=>33-k) (0) yx ?_;intro k hk;refine qak ?_;refine Cf (p:=(k:Int)<min x 31+1) (fun ht25=>?_) (fun ht25=>?_)
  ·
   have hg:(cntK (v.take i) k).getD k default=(many (v.take i) k:Int):=by rw[uq,zse _ _ yc,ur yc];simp
   have hml:=many_le (v.take i) k;have hml2:(v.take i).length≤100:=ybH;refine qaE ?_;refine qc5 ?_;refine qax ?_;refine A0 (zG (i:=k) rfl rfl rfl yn zxI yc) ?_;refine A0 (zz rfl rfl rfl (Lens.elem (i:=k) yc i64T) ty_3) ?_;refine A0 (g_add rfl rfl rfl (show _=((many (v.take i) k:Int)+1:Int) from by rw[hg];exact zax yc)) ?_;refine A0 (zG (i:=k) rfl rfl rfl yn zxI yc) ?_;refine zf rfl rfl rfl rfl rfl (Lens.elem (i:=k) yc i64T) ty_3 rfl ?_;refine qbh ?_;refine zP (n:=0) (y:=cntK (v.take i) ((k+1:Nat):Int)) rfl (cntK_step _ yc) ?_;exact Nx (k+1) yc yc
  refine CE ?_;refine CI ?_;refine CR ?_;refine qah ?_;refine zP (n:=0) (y:=znb (v.take (i+1))) rfl (cntK_end hx hk ht25) ?_;exact Nx (i+1) yc yc
 refine zP (n:=0) (y:=znb v) rfl yN ?_;refine CE ?_;refine CQR ?_;refine A0 (zG (i:=0) rfl rfl rfl yn zxI yc) ?_;refine A0 (zz rfl rfl rfl (Lens.elem (i:=0) yc i64T) ty_3) ?_;refine zj (d:=35) (y:=znY v m 0) rfl (by rw[uq,cnt_at v yp];rfl) ?_;refine qbS ?_;refine A0 (oLs rfl rfl rfl ty_209) ?_;refine qa2 ?_;refine Lp (ι:=Nat) 1 (fun n=>(((Fr.none.set 1 (.val i64T m)).set 9 (.val i64T (znY v m n))).set 36 (.val (arrT 32 yp i64T) (znb v))).set 37 (.val i64T (n:Int))) (fun n=>Hp.none) (fun n=>n≤32) (fun n=>32-n) (0) (uf _) ?_;intro n hn;refine qak ?_;refine Cf (p:=n<32) (fun ht38=>?_) (fun ht38=>?_)
 ·
  have hc:=cnt_at v ht38;have hml:=many_le v n;refine qaE ?_;refine A0 (ziO rfl rfl rfl rfl zxI ty_3 yh) ?_;refine A0 aV ?_;refine qag ?_;refine qax ?_;refine qbZ ?_;refine Cf (p:=m≤(many v n:Int)) (fun ht43=>?_) (fun ht43=>?_)
  ·
   refine CR ?_;refine qao ?_;refine qax ?_;refine A0 (g_shlI rfl rfl rfl yai (shl_many (a:=many v n) ht38 yc)) ?_;refine A0 (g_max rfl rfl rfl) ?_;refine A0 aV ?_;refine qbh ?_;refine zj (d:=9) (y:=znY v m (n+1)) rfl (ut ht43).symm ?_;exact Nx (n+1) yc yc
  refine qaZ ?_;refine zj (d:=9) (y:=znY v m (n+1)) rfl (ur ht43).symm ?_;exact Nx (n+1) yc yc
 refine CE ?_;refine qbK ?_;exact zb rfl rfl (za rfl (by unfold zro;rw[ur ht14,show n=32 by omega]))
theorem common_ok (p q:Proof) (hp:p.p.length≤110) (hq:q.p.length≤110):Tells P 62 [.val zac p,.val zac q] (.tup2 (.val i64T (zcZ p q).1) (.val i64T (zcZ p q).2)):=by
 have hia:=zu (zow p yc);have hib:=zu (zow q yc);obtain⟨A,hA⟩:∃A,A=idsP p:=⟨_,rfl⟩;obtain⟨B,hB⟩:∃B,B=idsP q:=⟨_,rfl⟩;have hcm:zcZ p q=zeX A B A.length:=by rw[hA,hB];rfl
 have hal:A.length≤110:=by rw[hA];unfold idsP;simpa using hp
 rw[←hA] at hia;rw[←hB] at hib;refine zc Tryz.func62 rfl rfl rfl (fun ext w hext=>?_);refine qay ?_;refine zs ze_3 rfl rfl rfl rfl ?_;refine zs ze_3 rfl rfl rfl rfl ?_;refine CNQR ?_;refine qaQ ?_;refine A0 (oCl (hib) rfl zvp yf) ?_;refine zs ze_56 rfl rfl rfl rfl ?_;refine zf rfl rfl rfl rfl rfl (Lens.self _) za5 rfl ?_;refine CNQQR ?_;refine qaQ ?_;refine A0 (oCl (hia) rfl zvp yf) ?_;refine zU rfl rfl rfl rfl Tryz.func121 fn_121 rfl rfl (fun ia1 iok1=>?_);refine qae ?_;refine qbo ?_;refine CNB ?_;refine zh2 rfl rfl rfl Tryz.func186 fn_186 rfl rfl yG (fun fid2 ca2 lN2 DN2 cok2 rc2 hrc2=>?_);refine CQR ?_;refine A0 (oLs rfl rfl rfl za5) ?_;refine qaS ?_;refine A0 zbb ?_;refine qc7 ?_;refine Lp (ι:=Nat) 8 (fun (k:Nat)=>(((Fr.none).set 0 (.lit (.func (.yield lN2) #[] #[]))).set 1 (.ptr 5 0)).set 3 (.val i64T ((k:Int)-1))) (fun (k:Nat)=>((((((Hp.none).set 2 (.box 3 i64T 0)).set 3 (.box 3 i64T 0)).set 4 (.box 56 (sl idT) B)).set 5 (.box 56 (sl idT) A)).set 6 (.objAt DN2 (.deferred (some [])))).set 7 (.objAt lN2 (rc2 .ready none))) (fun (k:Nat)=>k≤A.length∧zcZ p q=zeX A B k) (fun (k:Nat)=>k) (A.length) (⟨ug _,hcm⟩) ?_;intro k hinv;refine qb1 ?_;refine qbZ ?_;refine Cf (p:=0<k) (fun ht8=>?_) (fun ht8=>?_)
 ·
  obtain⟨a,ha⟩:∃a,A[k-1]?=some a:=yv;refine CSQBQR ?_;refine A0 mL ?_;refine qax ?_;refine A0 (oLs rfl rfl rfl za5) ?_;refine qax ?_;refine A0 (zK (i:=k-1) rfl rfl rfl yc zb8 yh) ?_;refine A0 (zg rfl rfl zaj) ?_;refine zh1 (nL:=7) rfl rfl rfl rfl rfl hrc2 rfl rfl rfl (fun ya3 yok3=>?_);refine CQR ?_;refine qc5 ?_;refine qaM ?_;refine qau ?_;refine CN ?_;refine zh5 (nL:=7) hrc2 rfl ?_;refine CB ?_;refine CQR ?_;refine A0 (oLs rfl rfl rfl za5) ?_;refine qb2 ?_;refine A0 (oCl (indexId B a) rfl fn_122 yl) ?_;refine qag ?_;refine qbk ?_;refine zn (p:=¬idx (fun y=>decide (a=y)) B = -1) rfl yH (fun ht21=>?_) (fun ht21=>?_)
  ·
   refine CQR ?_;refine qao ?_;refine qcm ?_;refine qcm ?_;refine CN ?_;refine zfo (nL:=7) hrc2 rfl ?_;refine qaL ?_;refine Ct ?_;refine zd9 (nL:=7) rfl hrc2 rfl yp ?_;refine zap (zbD (nD:=6) rfl rfl rfl ?_);exact zlv rfl rfl (zl rfl rfl ty_3 (by rw[hinv.2,zo3 ht8 ha ht21])) (zl rfl rfl ty_3 (by rw[hinv.2,zo3 ht8 ha ht21]))
  refine CS ?_;refine CI ?_;refine zde (nL:=7) hrc2 rfl ?_;refine qaL ?_;refine Cg ?_;refine CSIR ?_;refine qcb ?_;refine qad ?_;refine zj (d:=3) (y:=((k-1:Nat):Int)-1) rfl yc ?_;exact Nx (k-1) (⟨by omega,by rw[hinv.2];exact common_go ht8 ha (ua ht21)⟩) yc
 refine CE ?_;refine zei (nL:=7) rfl hrc2 rfl yp ?_;refine CI ?_;refine CQR ?_;refine qcm ?_;refine qcm ?_;refine CN ?_;refine zap (zbD (nD:=6) rfl rfl rfl ?_);exact zlv rfl rfl (zl rfl rfl ty_3 yaG) (zl rfl rfl ty_3 yaG)
theorem zoh (p:Proof) (hp:zmt p):Tells P 86 [.val zac p] (.val zac p):=by
 have hpl:=hp.1;refine zc Tryz.func86 rfl rfl rfl (fun ext w hext=>?_);refine qae ?_;refine qby ?_;refine CN ?_;refine zdd 0 (x:=p) (zs2 p) rfl ?_;refine CQR ?_;refine A0 (oFp zat) ?_;refine A0 (zy rfl rfl rfl rfl rfl zcm) ?_;refine zaD (zo9 p.p yU) rfl fn_107 yf rfl rfl rfl ?_;refine A0 (oFp zat) ?_;refine zZ rfl rfl rfl rfl rfl rfl rfl rfl rfl rfl zcm ?_;refine CNQQR ?_;refine qcy ?_;refine Lp (ι:=Nat) 3 (fun i=>((((Fr.none.set 1 (.ptr 0 0)).set 2 (.ptr 1 0)).set 10 (.own 2)).set 11 (.val i64T (p.p.length:Int))).set 12 (.val i64T (i:Int))) (fun i=>((Hp.none.set 0 (.parts 27 [.val i64T p.m,.val i64T p.k,.own 2])).set 1 (.box 27 zac zbL)).set 2 (.row 72 zbl p.p)) (fun i=>i≤p.p.length) (fun i=>p.p.length-i) (0) (uf _) ?_;intro i hinv;refine qak ?_;refine Cf (p:=i<p.p.length) (fun ht13=>?_) (fun ht13=>?_)
 ·
  obtain⟨x,hx⟩:∃x,p.p[i]?=some x:=⟨_,ub ht13⟩;refine qaE ?_;refine A0 (zcs (i:=i) rfl rfl rfl rfl yn zfE yg) ?_;refine qbv ?_;refine zx [some 1,some 1,some 1,some 1,some 1,some 1,some 1,some 1,none] mixed ye ?_;refine qbz ?_;refine X0 mV ?_;refine X0 (oFp zbA) ?_;refine X0 (oLb za4 za5) ?_;refine X0 (oCl (zu (zg3 x.l (by have:=hp.2 x (ud hx);constructor<;>omega))) rfl zpS yf) ?_;refine X0 (zcs (i:=i) rfl rfl rfl rfl yn zfE yg) ?_;refine X0 (zoD rfl rfl zbA rfl) ?_;refine XK.e (x:=.idk) (fun fr' hfr kk H=>by exact zcM rfl rfl rfl ((hfr 24 ye).trans rfl) rfl rfl yh za4 za5 ((hfr 22 ye).trans rfl) (zr H)) ?_;refine qaJ ?_;refine zA (n:=2) (y:=p.p) rfl (zrl hx) ?_;exact Nx (i+1) yc yc
 refine CE ?_;refine CQ ?_;refine zh3 0 2 [.val i64T p.m,.val i64T p.k] (z:=p) (R:=zac) rfl rfl rfl zhh ?_;refine CR ?_;refine qaQ ?_;refine qam ?_;refine CN ?_;exact zag rfl rfl rfl rfl zaR (rfl)
theorem holdsE_ok (x:PPair):Tells P 60 [.val zkO x] (.val i64T (zjO x)):=by
 refine zc Tryz.func60 rfl rfl rfl (fun ext w hext=>?_);refine qae ?_;refine qbS ?_;refine A0 (oFp zjq) ?_;refine A0 (oLb zht zaR) ?_;refine A0 (oFp zjp) ?_;refine A0 (oLb zhs zaR) ?_;refine A0 (zji (T:=zac) (xs:=[_,_]) rfl ar_204 ze_204 y4 rfl) ?_;refine qa2 ?_;refine Lp (ι:=Nat) 1 (fun (k:Nat)=>((Fr.none).set 10 (.val (arrT 2 yp zac) [x.p,x.q])).set 11 (.val i64T (k:Int))) (fun (k:Nat)=>Hp.none) (fun (k:Nat)=>k≤2∧(0<k→zaa x.p=0)∧(1<k→zaa x.q=0)) (fun (k:Nat)=>2-k) (0) (⟨by omega,fun h=>absurd h yp,fun h=>absurd h yp⟩) ?_;intro k hinv;refine qak ?_;refine Cf (p:=k<2) (fun ht12=>?_) (fun ht12=>?_)
 ·
  obtain⟨e,he⟩:∃e,[x.p,x.q][k]?=some e:=⟨_,ub (show k < [x.p,x.q].length from ht12)⟩;have hek:(k=0∧e=x.p)∨(k=1∧e=x.q):=ycc;rcases hek with ⟨hk,rfl⟩|⟨hk,rfl⟩
  ·
   refine CSQBQR ?_;refine A0 (ziO rfl rfl rfl rfl ar_204 zaR yh) ?_;refine qby ?_;refine qam ?_;refine CNQR ?_;refine qaQ ?_;refine A0 (oCl (zgu x.p) rfl zvq yf) ?_;refine qag ?_;refine qbk ?_;refine zn (p:=¬zaa x.p=0) rfl yH (fun ht17=>?_) (fun ht17=>?_)
   ·
    refine qbK ?_;exact zb rfl rfl (za rfl (by unfold zjO;rw[ut ht17]))
   refine qaZ ?_;exact Nx (k+1) yaP yc
  refine CSQBQR ?_;refine A0 (ziO rfl rfl rfl rfl ar_204 zaR yh) ?_;refine qby ?_;refine qam ?_;refine CNQR ?_;refine qaQ ?_;refine A0 (oCl (zgu x.q) rfl zvq yf) ?_;refine qag ?_;refine qbk ?_;refine zn (p:=¬zaa x.q=0) rfl yH (fun ht17=>?_) (fun ht17=>?_)
  ·
   refine qbK ?_;exact zb rfl rfl (za rfl (by unfold zjO;rw[ur (fun h=>h (hinv.2.1 yc))]))
  refine qaZ ?_;exact Nx (k+1) yaP yc
 refine qcn ?_;exact zb rfl rfl (za rfl (by unfold zjO;rw[ur (fun h=>h (hinv.2.1 yc)),hinv.2.2 yc]))
theorem alikeE_ok (x:PPair) (h1:0<x.p.p.length) (h2:0<x.q.p.length) (h3:x.p.p.length≤110) (h4:x.q.p.length≤110):Tells P 61 [.val zkO x] (.val i64T (zlx x)):=by
 have hy:=at_ x.p h1;have hz:=at_ x.q h2;have hiy:=zmF x.p h1;have hiz:=zmF x.q h2;refine zc Tryz.func61 rfl rfl rfl (fun ext w hext=>?_);refine qae ?_;refine qa7 ?_;refine CB ?_;refine CQQR ?_;refine A0 (oFp zjq) ?_;refine A0 (oFp zd6) ?_;refine A0 (oLb (zht.comp zdg) ty_3) ?_;refine A0 (oFp zjp) ?_;refine A0 (oFp zd6) ?_;refine A0 (oLb (zhs.comp zdg) ty_3) ?_;refine A0 zdQ ?_;refine qad ?_;refine zn (p:=¬x.p.m=x.q.m) rfl yH (fun ht3=>?_) (fun ht3=>?_)
 ·
  refine CS ?_;refine zgz rfl (by simpa [IntL.toI] using ht3) ?_;refine qas ?_;exact zb rfl rfl (za rfl (by unfold zlx;rw[ut (.inl yh)]))
 refine CR ?_;refine A0 (oFp zjq) ?_;refine A0 (oFp zdG) ?_;refine A0 (oLb (zht.comp zcJ) ty_3) ?_;refine A0 (oFp zjp) ?_;refine A0 (oFp zdG) ?_;refine A0 (oLb (zhs.comp zcJ) ty_3) ?_;refine A0 zdQ ?_;refine qad ?_;refine zn (p:=¬x.p.k=x.q.k) rfl yH (fun ht3=>?_) (fun ht3=>?_)
 ·
  refine qas ?_;exact zb rfl rfl (za rfl (by unfold zlx;rw[ut (.inr yh)]))
 refine qaV ?_;refine G0 (oFp zjq) ?_;refine G0 (oFp zat) ?_;refine G0 (oLb (zht.comp zau) zcm) ?_;refine G0 (zK (i:=0) rfl rfl rfl yc zfE yh) ?_;refine G0 (oFr zbk zaU) ?_;refine G0 (zg rfl rfl zaM) ?_;refine G0 (oFp zjp) ?_;refine G0 (oFp zat) ?_;refine G0 (oLb (zhs.comp zau) zcm) ?_;refine G0 (zK (i:=0) rfl rfl rfl yc zfE yh) ?_;refine G0 (oFr zbk zaU) ?_;refine G0 (zg rfl rfl zaM) ?_;refine G0 (zee rfl rfl rfl (zjQ)) ?_;refine G0 mV ?_;refine zaG (d:=32) (p:=¬(yAt x.p 0).h=(yAt x.q 0).h) rfl yy (fun g32=>?_) (fun g32=>?_)
 ·
  refine G1 (oFp zjq) ?_;refine G1 (oLb zht zaR) ?_;refine G1 (oCl (zu (zow x.p yc)) rfl zvp yf) ?_;refine qbX ?_;refine G1 (oFp zjp) ?_;refine G1 (oLb zhs zaR) ?_;refine G1 (oCl (zu (zow x.q yc)) rfl zvp yf) ?_;refine qbX ?_;refine G1 (zee rfl rfl rfl (zfl)) ?_;refine G0 oK ?_;refine qaP ?_;refine zn (p:=¬zw (yAt x.p 0).h=zw (yAt x.q 0).h) rfl yy (fun ht18=>?_) (fun ht18=>?_)
  ·
   refine qas ?_;exact zb rfl rfl (za rfl (by unfold zlx;rw[ur (fun h=>by omega),ut ⟨g32,ht18⟩]))
  refine CS ?_;refine CI ?_;refine qas ?_;exact zb rfl rfl (za rfl (by unfold zlx;rw[ur (fun h=>by omega),ur (fun h=>ht18 h.2)]))
 refine qab ?_;refine qaK ?_;refine G2 ?_;refine G2 ?_;refine G0 oK ?_;refine qaP ?_;refine Cg ?_;refine CS ?_;refine CI ?_;refine qas ?_;exact zb rfl rfl (za rfl (by unfold zlx;rw[ur (fun h=>by omega),ur (fun h=>g32 h.1)]))
theorem zv2 (p:Proof) (i:Int) (hp:p.p.length≤110) (h1:-1≤i) (h2:i<p.p.length):Tells P 63 [.val zac p,.val i64T i] (.val i64T (zuE p i)):=by
 have hll:(zos p).length=p.p.length:=by unfold zos;simp
 refine zc Tryz.func63 rfl rfl rfl (fun ext w hext=>?_);refine ze (d:=1) rfl zt (fun hin1=>?_);refine qae ?_;refine qbI ?_;refine G0 (oLs rfl rfl rfl zaR) ?_;refine G0 (oCl (zu (levelsP_ok p yc)) rfl fn_65 yf) ?_;refine G0 mV ?_;refine G0 zdp ?_;refine G0 (zhi rfl rfl rfl zbR yg) ?_;refine G0 (oFp zd6) ?_;refine G0 (oLb zdg ty_3) ?_;refine G0 (oCl (score_ok ((zos p).drop (i+1).toNat) p.m) rfl fn_64 yl) ?_;refine qaP ?_;exact zb rfl rfl (za rfl (rfl))
theorem better_ok (p q:Proof) (hp:p.p.length≤110) (hq:q.p.length≤110):Tells P 19 [.val zac p,.val zac q] (.tup2 (.val zm (zhZ p q)) (.val i64T (zg5 p q))):=by
 obtain⟨x,hx⟩:∃x:PPair,x=⟨p,q⟩:=⟨_,rfl⟩;have hbd:=zt6 p q;refine zc Tryz.func19 rfl rfl rfl (fun ext w hext=>?_);refine qay ?_;refine A0 aV ?_;refine qaz ?_;refine qaQ ?_;refine qaQ ?_;refine A0 (zC rfl ze_124 bd_124 (.cons zjq zht zaR rfl (.cons zjp zhs zaR rfl .nil)) rfl) ?_;refine zs ze_124 rfl rfl rfl rfl ?_;refine zf rfl rfl rfl rfl rfl (Lens.self _) ty_124 rfl ?_;refine CNQ ?_;refine CQ ?_;refine zP (n:=2) (y:=x) rfl hx.symm ?_;refine CR ?_;refine A0 (oLs rfl rfl rfl ty_124) ?_;refine A0 (g_mkbv rfl rfl) ?_;refine A0 (oLs rfl rfl rfl ty_124) ?_;refine A0 (g_mkbv rfl rfl) ?_;refine A0 (zX (T:=(bndvT zkO)) (xs:=[_,_]) rfl sl_203 row_203 y4 rfl rfl) ?_;refine zU rfl rfl rfl rfl Tryz.func59 fn_59 rfl rfl (fun ia1 iok1=>?_);refine qcw ?_;refine A0 (zW rfl rfl isl_203) ?_;refine qa2 ?_;refine Lp (ι:=Nat) 3 (fun (k:Nat)=>(((Fr.none).set 6 (.val (sl (bndvT zkO)) [(60,x),(61,x)])).set 7 (.val i64T 2)).set 8 (.val i64T (k:Int))) (fun (k:Nat)=>((Hp.none).set 0 (.box 27 zac p)).set 1 (.box 27 zac q)) (fun (k:Nat)=>k≤2∧(0<k→zjO x=0)∧(1<k→zlx x=0)) (fun (k:Nat)=>2-k) (0) (⟨by omega,fun h=>absurd h yp,fun h=>absurd h yp⟩) ?_;intro k hinv;refine qak ?_;refine Cf (p:=k<2) (fun ht9=>?_) (fun ht9=>?_)
 ·
  obtain⟨e,he⟩:∃e,[((60:Nat),x),(61,x)][k]?=some e:=⟨_,ub (show k<2 from ht9)⟩;have hek:(k=0∧e=(60,x))∨(k=1∧e=(61,x)):=ycc;rcases hek with ⟨hk,rfl⟩|⟨hk,rfl⟩
  ·
   refine CSQBQR ?_;refine A0 (zby rfl rfl rfl sl_203 yh) ?_;refine A0 (zg rfl rfl ty_119) ?_;refine qce ?_;refine A0 (zw1 (holdsE_ok x) rfl rfl fn_60 rfl) ?_;refine qap ?_;refine zn (p:=¬zjO x=0) rfl yH (fun ht15=>?_) (fun ht15=>?_)
   ·
    refine qbC ?_;refine qb9 ?_;refine zgz rfl (by simpa [IntL.toI] using ht15) ?_;refine CQR ?_;refine A0 mX ?_;refine A0 aV ?_;refine qaA ?_;exact zV rfl rfl (za rfl (by unfold zhZ zg5;rw[←hx,ut ht15,uh ht15];rfl)) (za rfl (by unfold zg5;rw[←hx,ut ht15]))
   refine qaZ ?_;exact Nx (k+1) yaQ yc
  refine CSQBQR ?_;refine A0 (zby rfl rfl rfl sl_203 yh) ?_;refine A0 (zg rfl rfl ty_119) ?_;refine qce ?_;refine A0 (zw1 (alikeE_ok x (by have:=zqx (hinv.2.1 yc);exact ztI this.1) (by have:=zqx (hinv.2.1 yc);exact ztI this.2) (by rw[hx];exact hp) (by rw[hx];exact hq)) rfl rfl fn_61 rfl) ?_;refine qap ?_;refine zn (p:=¬zlx x=0) rfl yH (fun ht15=>?_) (fun ht15=>?_)
  ·
   refine qbC ?_;refine qb9 ?_;refine zgz rfl (by simpa [IntL.toI] using ht15) ?_;refine CQR ?_;refine A0 mX ?_;refine A0 aV ?_;refine qaA ?_;exact zV rfl rfl (za rfl (by unfold zhZ zg5;rw[←hx,ur (fun h=>h (hinv.2.1 yc)),uh ht15];rfl)) (za rfl (by unfold zg5;rw[←hx,ur (fun h=>h (hinv.2.1 yc))]))
  refine qaZ ?_;exact Nx (k+1) yaQ yc
 refine qcn ?_;refine qb9 ?_;refine Cg ?_;refine CSQR ?_;refine qaQ ?_;refine qaQ ?_;refine A0 (oCl (common_ok p q hp hq) rfl fn_62 yl) ?_;refine qbi ?_;refine A0 aV ?_;refine qaz ?_;refine A0 aC ?_;refine CNQ ?_;refine CD mixed ?_;refine G0 mC ?_;refine G0 (oLs rfl rfl rfl zaR) ?_;refine G0 mV ?_;refine G0 (zfw (As:=[_,_]) (Cs:=[]) (zv2 q (zcZ p q).2 hq hbd.2.1 hbd.2.2) rfl rfl fn_63 yl yD trivial rfl) ?_;refine G0 mC ?_;refine G0 (oLs rfl rfl rfl zaR) ?_;refine G0 mV ?_;refine G0 (zfw (As:=[_,_]) (Cs:=[]) (zv2 p (zcZ p q).1 hp hbd.1.1 hbd.1.2) rfl rfl fn_63 yl yD trivial rfl) ?_;refine G0 zc1 ?_;refine G0 aV ?_;refine qaP ?_;exact zV rfl rfl (za rfl (by unfold zhZ zg5;rw[←hx,ur (fun h=>h (hinv.2.1 yc)),hinv.2.2 yc];simp[IntL.toI])) (za rfl (by unfold zg5;rw[←hx,ur (fun h=>h (hinv.2.1 yc)),hinv.2.2 yc]))
theorem pick_ok (p q:Proof) (hp:zmt p) (hq:zmt q):Tells P 87 [.val zac p,.val zac q] (.tup2 (.val zac (zbg p q).1) (.val i64T (zbg p q).2)):=by
 refine zc Tryz.func87 rfl rfl rfl (fun ext w hext=>?_);refine qay ?_;refine qby ?_;refine qbI ?_;refine G0 (oLs rfl rfl rfl zaR) ?_;refine G0 (oCl (zgu p) rfl zvq yf) ?_;refine G0 (oLs rfl rfl rfl zaR) ?_;refine G0 (oCl (zgu q) rfl zvq yf) ?_;refine G0 aV ?_;refine qaP ?_;refine CQ ?_;refine CB ?_;refine qa4 ?_;refine A0 zdQ ?_;refine qax ?_;refine zaP (d:=16) (p:=¬zaa p=0) rfl yH (fun g16=>?_) (fun g16=>?_)
 ·
  refine A1 mV ?_;refine A1 zbZ ?_;refine qaI ?_;refine zn (p:=zaa q=0) rfl yH (fun ht13=>?_) (fun ht13=>?_)
  ·
   refine CQR ?_;refine qaQ ?_;refine A0 (oCl (zoh q hq) rfl fn_86 yf) ?_;refine qcx ?_;exact zq rfl rfl (zl rfl rfl zaR (by unfold zbg;rw[ut ⟨g16,ht13⟩])) (zT (za rfl (by unfold zbg;rw[ut ⟨g16,ht13⟩])))
  refine qa4 ?_;refine A0 zdQ ?_;refine qax ?_;refine zi3 (d:=25) rfl (by simpa [IntL.toI] using g16) ?_;refine A2 ?_;refine A2 ?_;refine qaI ?_;refine Ct ?_;refine CQR ?_;refine qaQ ?_;refine A0 (oCl (zoh p hp) rfl fn_86 yf) ?_;refine qax ?_;refine qcx ?_;exact zq rfl rfl (zl rfl rfl zaR (by unfold zbg;rw[ur (fun h=>ht13 h.2),ut (.inl g16)])) (zT (za rfl (by unfold zbg;rw[ur (fun h=>ht13 h.2),ut (.inl g16)])))
 refine A2 ?_;refine A2 ?_;refine qaI ?_;refine Cg ?_;refine qa4 ?_;refine A0 zdQ ?_;refine qax ?_;refine zi4 (d:=25) rfl (by simpa [IntL.toI] using g16) ?_;refine A1 mV ?_;refine A1 zdQ ?_;refine qaI ?_;refine zn (p:=¬zaa q=0) rfl yH (fun ht22=>?_) (fun ht22=>?_)
 ·
  refine CQR ?_;refine qaQ ?_;refine A0 (oCl (zoh p hp) rfl fn_86 yf) ?_;refine qax ?_;refine qcx ?_;exact zq rfl rfl (zl rfl rfl zaR (by unfold zbg;rw[ur (fun h=>g16 h.1),ut (.inr ht22)])) (zT (za rfl (by unfold zbg;rw[ur (fun h=>g16 h.1),ut (.inr ht22)])))
 refine CS ?_;refine CI ?_;refine CQR ?_;refine qaQ ?_;refine qaQ ?_;refine A0 (oCl (better_ok p q hp.1 hq.1) rfl fn_19 yl) ?_;refine qbi ?_;refine A0 aV ?_;refine qaj ?_;refine CN ?_;refine zn (p:=zhZ p q=true) rfl yy (fun ht38=>?_) (fun ht38=>?_)
 ·
  refine CQR ?_;refine qaQ ?_;refine A0 (oCl (zoh q hq) rfl fn_86 yf) ?_;refine qcx ?_;exact zq rfl rfl (zl rfl rfl zaR ybC) (zT (za rfl ybC))
 refine CSQR ?_;refine qaQ ?_;refine A0 (oCl (zoh p hp) rfl fn_86 yf) ?_;refine qax ?_;refine qcx ?_;exact zq rfl rfl (zl rfl rfl zaR ybD) (zT (za rfl ybD))
set_option maxRecDepth 20000
theorem pick_1 {p q:Proof} (hp:¬zaa p=0) (hq:zaa q=0):zbg p q=(q,0):=by unfold zbg;rw[ut ⟨hp,hq⟩]
theorem pick_2 {p q:Proof} (hp:¬zaa p=0) (hq:¬zaa q=0):zbg p q=(p,zaa p):=by unfold zbg;rw[ur (fun h=>hq h.2),ut (.inl hp)]
theorem pick_3 {p q:Proof} (hp:zaa p=0) (hq:¬zaa q=0):zbg p q=(p,0):=by unfold zbg;rw[ur (fun h=>hq h.2),ut (.inr hq),hp]
theorem pick_4 {p q:Proof} (hp:zaa p=0) (hq:zaa q=0) (h:zhZ p q=true):zbg p q=(q,0):=by
  unfold zbg;rw[ur (fun h=>h.1 hp),ur (fun h=>h.elim (fun c=>c hp) (fun c=>c hq)),ut h]
theorem pick_5 {p q:Proof} (hp:zaa p=0) (hq:zaa q=0) (h:¬zhZ p q=true):zbg p q=(p,zg5 p q):=by
  unfold zbg;rw[ur (fun h=>h.1 hp),ur (fun h=>h.elim (fun c=>c hp) (fun c=>c hq)),ur h]
abbrev foldP (l:List Proof) (p:Proof):Proof:=l.foldl (fun o q=>(zbg o q).1) p
theorem pick_mem (p q:Proof):(zbg p q).1=p∨(zbg p q).1=q:=by
  unfold zbg
  split
  · exact .inr rfl
  split
  · exact .inl rfl
  split
  · exact .inr rfl
  exact .inl rfl
theorem pick_holds (p q:Proof):zaa (zbg p q).1=0↔zaa p=0∨zaa q=0:=by
  by_cases hp:zaa p=0
  · by_cases hq:zaa q=0
    · rcases pick_mem p q with e|e<;>rw[e]<;>simp[hp,hq]
    rw[pick_3 hp hq];simp[hp]
  by_cases hq:zaa q=0
  · rw[pick_1 hp hq];simp[hq]
  rw[pick_2 hp hq];simp[hp,hq]
theorem zp_75:(P.info? 75).bind (·.zero)=some .nilFunc:=yr
def zcw (l:List Ab.Id):List UInt8:=if l.length=0 then [2] else if l.length≤1 then [0]++l.headD zId else zdq (zal (l.take (halfN l.length))) (zal (l.drop (halfN l.length)))
theorem shaSum_len (b:List UInt8):(zco b).length=32:=by unfold zco;simp
theorem ziv (l:List Ab.Id):zal l=zco (zcw l):=by
  unfold zcw zal;rw[zcF];simp only[List.length_map];by_cases h0:l.length=0
  · rw[ut h0,ut h0]
  rw[ur h0,ur h0];by_cases h1:l.length≤1
  · rw[dif_pos h1,ut h1]
    match l,h0,h1 with
    | [x],_,_=>rfl
    | [],h0,_=>exact absurd rfl h0
    | _::_::_,_,h1=>simp at h1
  rw[dif_neg h1,ur h1,←List.map_take,←List.map_drop];rfl
theorem zfh (l:List Ab.Id):(zal l).length=32:=by rw[ziv];exact shaSum_len _
def zcC:Nat→List Ab.Id→List Ab.Id→List UInt8×List UInt8×Bool
  | 0,a,b=>(zcw a,zcw b,!decide (zcw a=zcw b))
  | n+1,a,b =>
    if ¬zcw a=zcw b then (zcw a,zcw b,true)
    else if a.length<2∨b.length<2 then (zcw a,zcw b,false)
    else if (zcC n (a.take (halfN a.length)) (b.take (halfN b.length))).2.2=true then zcC n (a.take (halfN a.length)) (b.take (halfN b.length))
    else zcC n (a.drop (halfN a.length)) (b.drop (halfN b.length))
theorem zvA {n:Nat} {a b:List Ab.Id} (h:¬zcw a=zcw b):zcC n a b=(zcw a,zcw b,true):=by
  cases n with
  | zero=>unfold zcC;rw[uh h];rfl
  | succ n=>unfold zcC;rw[ut h]
theorem zsb {n:Nat} {a b:List Ab.Id} (h:zcw a=zcw b) (h2:a.length<2∨b.length<2):zcC n a b=(zcw a,zcw b,false):=by
  cases n with
  | zero=>unfold zcC;rw[ui h];rfl
  | succ n=>unfold zcC;rw[ur (fun c=>c h),ut h2]
def zaS (a b:List Ab.Id):List UInt8×List UInt8×Bool :=
  if a=b∨¬zal a=zal b then ([],[],false)
  else if (zcC a.length a b).2.2=true then zcC a.length a b else ([],[],false)
def HD (X Y:List UInt8):Hp:=((Hp.none.set 0 (.box 22 (sl u8T) X)).set 1 (.box 22 (sl u8T) Y)).set 2 (.parts 75 [.clo 143 [0,1,2]])
theorem hd_two (X Y X' Y':List UInt8):HD X' Y'=((HD X Y).set 0 (.box 22 (sl u8T) X')).set 1 (.box 22 (sl u8T) Y'):=by
  funext t
  match t with
  | 0=>rfl
  | 1=>rfl
  | 2=>rfl
  | t+3=>rfl
theorem hd_init (X Y:List UInt8) (Z:HE):HD X Y=(((Hp.none.set 0 (.box 22 (sl u8T) X)).set 1 (.box 22 (sl u8T) Y)).set 2 Z).set 2 (.parts 75 [.clo 143 [0,1,2]]):=by
  funext t
  match t with
  | 0=>rfl
  | 1=>rfl
  | 2=>rfl
  | t+3=>rfl
def DownCall (a b:List Ab.Id) (A B:List UInt8) (r:Bool):Prop:=∀{J:Job} {nx:Nat} {fr:Fr} {k:List It} {ops:Array Oper} {rest:List Oper} {o:Oper} {d:Nat} {x ya yb:Operand} {ts:Array TypeId} {X Y:List UInt8},J.P=P→o.op = .call { callee:=.value x,args:=#[ya,yb],argTypes:=ts }→o.dst=some d→o.guard=none→Nat.blt d J.nt=true→
  fr.ev x = .clo 143 [0,1,2]→fr.ev ya = .val (bsl idT) a→fr.ev yb = .val (bsl idT) b→AW J nx (fr.set d (.val zm r)) (HD A B) (.ops ops rest::k)→AW J nx fr (HD X Y) (.ops ops (o::rest)::k)
theorem zlm (n:Nat) (h:2≤n) (hn:n<4398046511104):Tells P 146 [.val i64T (n:Int)] (.val i64T (halfN n:Nat)):=by
 obtain⟨hb1,hb2⟩:=zqU h hn;refine zc Tryz.func146 rfl rfl rfl (fun ext w hext=>?_);refine ze (d:=0) rfl zt (fun hin0=>?_);refine qbJ ?_;refine A0 zbb ?_;refine qc4 ?_;refine A0 (oCl (lenU_ok _) rfl fn_169 yf) ?_;refine A0 zbb ?_;refine A0 (g_shlI rfl rfl rfl yai rfl) ?_;refine qad ?_;exact zb rfl rfl (za rfl (half_eq h hn))
theorem bequal_ok (a b:List UInt8):Tells P 145 [.val (bsl u8T) a,.val (bsl u8T) b] (.val zm (decide (a=b))):=by
 refine zc Tryz.func145 rfl rfl rfl (fun ext w hext=>?_);refine ze (d:=0) rfl zk (fun hsl0=>?_);refine ze (d:=1) rfl zk (fun hsl1=>?_);refine qbJ ?_;refine A0 (g_cvs rfl rfl uu_22 ui_5 st_9) ?_;refine qax ?_;refine A0 (g_cvs rfl rfl uu_22 ui_5 st_9) ?_;refine A0 (g_eqlstr rfl rfl rfl) ?_;refine qad ?_;exact zb rfl rfl (za rfl (rfl))
theorem text_ok (l:List Ab.Id) (hl:l.length≤1000000):Tells P 144 [.val (bsl idT) l] (.fresh 5 u8T (zcw l)):=by
 refine zc Tryz.func144 rfl rfl rfl (fun ext w hext=>?_);refine ze (d:=0) rfl zk (fun hsl0=>?_);refine ze (d:=0) rfl fact_idsL (fun hids=>?_);refine qaq ?_;refine qbg ?_;refine qaS ?_;refine CNB ?_;refine CQR ?_;refine A0 zbZ ?_;refine qad ?_;refine zn (p:=l.length=0) rfl yH (fun ht8=>?_) (fun ht8=>?_)
 ·
  refine CQR ?_;refine qbB ?_;refine qbm ?_;exact zb rfl rfl (zh rfl rfl (by unfold zcw;rw[ut ht8];rfl))
 refine CQR ?_;refine A0 zbZ ?_;refine qad ?_;refine zn (p:=l.length=1) rfl yab (fun ht11=>?_) (fun ht11=>?_)
 ·
  obtain⟨x,hx⟩:∃x,l[0]?=some x:=yv;have hxl:=hids x (ud hx);refine CQR ?_;refine qbB ?_;refine qax ?_;refine A0 (zK (i:=0) rfl rfl rfl yc zb8 yh) ?_;refine A0 (ziM rfl rfl zjH rfl rfl) ?_;refine zF rfl rfl rfl rfl rfl rfl rfl zc4 yx ?_;refine qbm ?_;exact zb rfl rfl (zh rfl rfl (by unfold zcw;rw[ur ht8,ut yc];cases l with|nil=>simp at hx|cons y m=>simp at hx;simp[hx]))
 have hp:=zcY l.length;have hh:=zev (n:=l.length) yc;have hra:=zfh (l.take (halfN l.length));have hrb:=zfh (l.drop (halfN l.length));refine CS ?_;refine CI ?_;refine qa4 ?_;refine qaS ?_;refine A0 (oCl (zlm l.length yc yc) rfl ztV yf) ?_;refine qa7 ?_;refine zxB 8 (.box 49 idT zId) [some 1000001,some 1000001,some 1000001,some 1000001,some 1000001,some 1000001,some 1000001,some 1000001,some 1000001,none,none,none] mixed ye rfl ?_;refine XKF.ga rfl (fun _=>g_mv (.inl rfl) rfl) rfl rfl rfl rfl ?_;refine XKF.ga rfl (fun _=>g_mv (.inl rfl) rfl) rfl rfl rfl rfl ?_;refine XKF.ga rfl (fun _=>by first|exact zfM rfl rfl rfl yaq zb8|exact zk3 rfl rfl rfl zb8 yg) rfl rfl rfl rfl ?_;refine XKF.ga rfl (fun _=>zgl (zd5 (l.take (halfN l.length)) yx) rfl zoJ yf rfl) rfl rfl rfl rfl ?_;refine XKF.ga rfl (fun _=>g_mv (.inl rfl) rfl) rfl rfl rfl rfl ?_;refine XKF.ga rfl (fun _=>g_mv (.inl rfl) rfl) rfl rfl rfl rfl ?_;refine XKF.ga rfl (fun _=>zhi rfl rfl rfl zb8 yg) rfl rfl rfl rfl ?_;refine XKF.ga rfl (fun _=>zgl (zd5 (l.drop (halfN l.length)) yx) rfl zoJ yf rfl) rfl rfl rfl rfl ?_;refine XKF.f rfl zq8 rfl rfl rfl rfl rfl rfl ?_;refine XKF.e rfl (fun fr' hfr kk H=>by exact zs zq8 rfl rfl rfl rfl (zr H)) (EffA.conv (fun fr' hfr kk H=>by exact zs zq8 rfl rfl rfl rfl (zr H)) ybF) ya1 ya1 ya1 (by (repeat refine zq1 ?_ rfl);exact fun _ _=>rfl) ?_;refine XKF.ew (x:=.idk) rfl ye (fun fr' hfr kk H=>by exact zf rfl rfl rfl ((hfr 4 ye).trans rfl) rfl (Lens.self _) zaj ((hfr 24 ye).trans rfl) (zr H)) ya1 (by (repeat refine zq1 ?_ rfl);exact fun _ _=>rfl) ?_;refine XKF.ew (x:=.idk) rfl ye (fun fr' hfr kk H=>by exact zf rfl rfl rfl ((hfr 5 ye).trans rfl) rfl (Lens.self _) zaj ((hfr 28 ye).trans rfl) (zr H)) ya1 (by (repeat refine zq1 ?_ rfl);exact fun _ _=>rfl) ?_;refine XKF.nilp trivial ?_;refine CQ ?_;refine zdR (d:=4) rfl rfl (Lens.self _) ?_;refine zdR (d:=5) rfl rfl (Lens.self _) ?_;refine zx [some 1,some 1,some 1,some 1,none,some 1] mixed ye ?_;refine qcB ?_;refine qbE ?_;refine qbE ?_;refine qbQ ?_;refine XK.e (fun fr' hfr kk H=>by exact zaD (zgs [[1],zal (l.take (halfN l.length)),zal (l.drop (halfN l.length))] yx) rfl zoI ⟨(zd ((hfr 32 ye).trans rfl)),trivial⟩ rfl rfl rfl (zr H)) ?_;refine X0 aO ?_;refine xf ?_;exact zb rfl rfl (zh rfl rfl (by unfold zcw;rw[ur ht8,ur yc];unfold zdq;simp))
theorem down_ok (n:Nat):∀(a b:List Ab.Id),a.length≤n→a.length≤1000000→b.length≤1000000→DownCall a b (zcC n a b).1 (zcC n a b).2.1 (zcC n a b).2.2:=by
 induction n using Nat.strongRecOn with
 | _ n ih =>
 intro a b hn hal hbl J nx fr k ops rest o d x ya yb ts X Y hP ho hd hg hlt hx hya hyb H;cases J;dsimp only at hP;subst hP;refine zcN ho hd hg hlt hx Tryz.func143 fn_143 rfl rfl (by intro n hn;simp only[List.mem_cons,List.not_mem_nil,or_false] at hn;rcases hn with rfl|rfl|rfl<;>rfl) (fun ia iok=>?_);have hargs:((#[ya,yb]:Array Operand).toList.map fr.ev++([0,1,2]:List Nat).map fun n=>AV.ptr n 0)=[.val (bsl idT) a,.val (bsl idT) b,.ptr 0 0,.ptr 1 0,.ptr 2 0]:=by simp[hya,hyb]
 rw[hargs];refine qbJ ?_;refine A0 (oCl (zu (text_ok a yc)) rfl fn_144 yf) ?_;refine qax ?_;refine A0 (oCl (zu (text_ok b yc)) rfl fn_144 yf) ?_;refine zf rfl rfl rfl rfl rfl (Lens.self _) zbi rfl ?_;refine zf rfl rfl rfl rfl rfl (Lens.self _) zbi rfl ?_;refine CN ?_;refine zpl (hp':=HD (zcw a) (zcw b)) (hd_two _ _ _ _) ?_;refine CQQR ?_;refine xq ?_;refine xq ?_;refine A0 (oCl (bequal_ok (zcw a) (zcw b)) rfl fn_145 yl) ?_;refine qaL ?_;refine zn (p:=¬zcw a=zcw b) rfl yy (fun ht17=>?_) (fun ht17=>?_)
 ·
  refine qas ?_;refine zbn rfl ?_;rw[zvA ht17] at H;exact H
 have hte:=ua ht17;refine qbM ?_;refine qaS ?_;refine qax ?_;refine qaS ?_;refine A0 (g_min rfl rfl rfl) ?_;refine qaY ?_;refine zn (p:=a.length<2∨b.length<2) rfl yab (fun ht23=>?_) (fun ht23=>?_)
 ·
  refine qas ?_;refine zbn rfl ?_;rw[zsb hte ht23] at H;exact zpl rfl H
 obtain⟨m,rfl⟩:∃m,n=m+1:=⟨n-1,by omega⟩;have hpa:=zcY a.length;have hha:=zev (n:=a.length) yc;have hpb:=zcY b.length;have hhb:=zev (n:=b.length) yc;have ihl:=@ih m (Nat.lt_succ_self m) (a.take (halfN a.length)) (b.take (halfN b.length)) yx yx yx;have ihr:=@ih m (Nat.lt_succ_self m) (a.drop (halfN a.length)) (b.drop (halfN b.length)) yx yx yx;have hdn:zcC (m+1) a b=if (zcC m (a.take (halfN a.length)) (b.take (halfN b.length))).2.2=true then zcC m (a.take (halfN a.length)) (b.take (halfN b.length)) else zcC m (a.drop (halfN a.length)) (b.drop (halfN b.length)):=by rw[zcC,ur ht17,ur ht23]
 rw[hdn] at H;obtain⟨A2,B2,r,hr⟩:∃A2 B2 r,zcC m (a.take (halfN a.length)) (b.take (halfN b.length))=(A2,B2,r):=⟨_,_,_,rfl⟩;rw[hr] at ihl H;cases r
 ·
  refine qcG ?_;refine qaS ?_;refine A0 (oCl (zlm a.length yc yc) rfl ztV yf) ?_;refine qax ?_;refine qaS ?_;refine A0 (oCl (zlm b.length yc yc) rfl ztV yf) ?_;refine A0 aV ?_;refine qa7 ?_;refine zx [some 1,some 1,some 1,some 1,some 1,some 1,some 1,none,some 1,some 1,some 1,some 1,some 1,some 1,some 1,some 1,none,some 1,some 1] mixed ye ?_;refine X0 (zy rfl rfl rfl rfl rfl ty_75) ?_;refine X0 mV ?_;refine qa3 ?_;refine X0 mV ?_;refine qa3 ?_;refine XK.e (fun fr' hfr kk H=>by exact ihl rfl rfl rfl rfl rfl ((hfr 30 ye).trans rfl) ((hfr 33 ye).trans rfl) ((hfr 36 ye).trans rfl) (zr H)) ?_;refine X0 mX ?_;refine XK.gi (zy rfl rfl rfl rfl rfl ty_75) rfl rfl rfl rfl rfl rfl rfl rfl ?_;refine xO ?_;refine xO ?_;refine XK.gi (zhi rfl rfl rfl zb8 yg) rfl rfl rfl rfl rfl rfl rfl rfl ?_;refine xO ?_;refine xO ?_;refine XK.gi (zhi rfl rfl rfl zb8 yg) rfl rfl rfl rfl rfl rfl rfl rfl ?_;refine XK.e (fun fr' hfr kk H=>by exact zqX rfl rfl rfl ((hfr 38 ye).trans rfl) rfl rfl (ihr rfl rfl rfl rfl rfl ((hfr 39 ye).trans rfl) ((hfr 42 ye).trans rfl) ((hfr 45 ye).trans rfl) (zr H))) ?_;refine X0 oK ?_;refine X0 aX ?_;refine xf ?_;refine zbn rfl ?_;exact H
 refine qcG ?_;refine qaS ?_;refine A0 (oCl (zlm a.length yc yc) rfl ztV yf) ?_;refine qax ?_;refine qaS ?_;refine A0 (oCl (zlm b.length yc yc) rfl ztV yf) ?_;refine A0 aV ?_;refine qa7 ?_;refine zx [some 1,some 1,some 1,some 1,some 1,some 1,some 1,none,some 1,some 1,some 1,some 1,some 1,some 1,some 1,some 1,some 1,some 1,some 1] mixed ye ?_;refine X0 (zy rfl rfl rfl rfl rfl ty_75) ?_;refine X0 mV ?_;refine qa3 ?_;refine X0 mV ?_;refine qa3 ?_;refine XK.e (fun fr' hfr kk H=>by exact ihl rfl rfl rfl rfl rfl ((hfr 30 ye).trans rfl) ((hfr 33 ye).trans rfl) ((hfr 36 ye).trans rfl) (zr H)) ?_;refine X0 mX ?_;refine xP ?_;refine xP ?_;refine xP ?_;refine xP ?_;refine xP ?_;refine xP ?_;refine xP ?_;refine xP ?_;refine X0 oK ?_;refine X0 aV ?_;refine xf ?_;refine zbn rfl ?_;exact H
theorem differ_ok (a b:List Ab.Id) (hal:a.length≤1000000) (hbl:b.length≤1000000):Tells P 74 [.val (bsl idT) a,.val (bsl idT) b] (.tup3 (.val (sl u8T) (zaS a b).1) (.val (sl u8T) (zaS a b).2.1) (.val zm (zaS a b).2.2)):=by
 refine zc Tryz.func74 rfl rfl rfl (fun ext w hext=>?_);refine ze (d:=0) rfl zk (fun hsl0=>?_);refine ze (d:=1) rfl zk (fun hsl1=>?_);refine qaq ?_;refine A0 aL ?_;refine qaj ?_;refine qax ?_;refine A0 (oCl (zoT a b) rfl fn_57 yl) ?_;refine qax ?_;refine Sp (d:=13) (p:=a=b) (fun g13=>?_) (fun g13=>?_)
 ·
  refine qb7 ?_;refine qco ?_;refine Ct ?_;refine qaq ?_;refine A0 aL ?_;refine qad ?_;exact zdH rfl rfl (by unfold zaS;rw[ut (.inl g13)];exact zdC rfl) (by unfold zaS;rw[ut (.inl g13)];exact zdC rfl) (za rfl (by unfold zaS;rw[ut (.inl g13)]))
 refine A1 mV ?_;refine A1 (oCl (zd5 a yc) rfl zoJ yf) ?_;refine A1 mV ?_;refine A1 (oCl (zd5 b yc) rfl zoJ yf) ?_;refine A1 (zee rfl rfl rfl (zfl)) ?_;refine qaw ?_;refine zn (p:=¬zal a=zal b) rfl yy (fun ht19=>?_) (fun ht19=>?_)
 ·
  refine qaq ?_;refine A0 aL ?_;refine qad ?_;exact zdH rfl rfl (by unfold zaS;rw[ut (.inr ht19)];exact zdC rfl) (by unfold zaS;rw[ut (.inr ht19)];exact zdC rfl) (za rfl (by unfold zaS;rw[ut (.inr ht19)]))
 have hdf:zaS a b=if (zcC a.length a b).2.2=true then zcC a.length a b else ([],[],false):=by unfold zaS;rw[ur (fun h=>h.elim g13 ht19)]
 have hdn:=@down_ok a.length a b (ug _) hal hbl;obtain⟨A,B,r,hr⟩:∃A B r,zcC a.length a b=(A,B,r):=⟨_,_,_,rfl⟩;rw[hr] at hdn hdf;refine CSQR ?_;refine zs ze_22 rfl rfl rfl rfl ?_;refine zs ze_22 rfl rfl rfl rfl ?_;refine CNQR ?_;refine zf2 zp_75 rfl rfl rfl rfl rfl rfl ?_;refine CNQR ?_;refine A0 (ziN (caps:=[_,_,_]) rfl rfl) ?_;refine zZ rfl rfl rfl rfl rfl rfl rfl rfl rfl rfl ty_75 ?_;refine CN ?_;refine zpl (hp':=HD [] []) (hd_init _ _ _) ?_;refine CQQR ?_;refine A0 (zy rfl rfl rfl rfl rfl ty_75) ?_;refine qao ?_;refine hdn rfl rfl rfl rfl rfl rfl rfl rfl ?_;refine qaL ?_;refine zn (p:=r=false) rfl (by cases r<;>rfl) (fun ht25=>?_) (fun ht25=>?_)
 ·
  refine qaq ?_;refine A0 aL ?_;refine qad ?_;exact zdH rfl rfl (by rw[hdf,ur (by rw[ht25];simp)];exact zdC rfl) (by rw[hdf,ur (by rw[ht25];simp)];exact zdC rfl) (za rfl (by rw[hdf,ur (by rw[ht25];simp)]))
 refine CS ?_;refine qaV ?_;refine G0 (oLs rfl rfl rfl zbi) ?_;refine G0 (oLs rfl rfl rfl zbi) ?_;refine G0 aV ?_;refine G0 aV ?_;refine qaP ?_;exact zdH rfl rfl (za rfl (by rw[hdf,ut (by simpa using ht25)])) (za rfl (by rw[hdf,ut (by simpa using ht25)])) (za rfl (by rw[hdf,ut (by simpa using ht25)];simpa using ht25))
def zik (l:List Ab.Id):Prop:=∀x∈l,x.length=32
theorem zik.take {l:List Ab.Id} (h:zik l) (n:Nat):zik (l.take n):=fun x hx=>h x (List.mem_of_mem_take hx)
theorem zik.drop {l:List Ab.Id} (h:zik l) (n:Nat):zik (l.drop n):=fun x hx=>h x (List.mem_of_mem_drop hx)
theorem zg8 {l:List Ab.Id} (h:zik l):(zcw l).length≤65:=by
  unfold zcw
  split
  · simp
  split
  · match l with
    | []=>simp[zId]
    | x::_=>have:=h x (List.mem_cons_self ..);simp[this]
  unfold zdq;simp[zfh]
theorem node_inj {a b c d:Ab.Id} (ha:a.length=32) (hc:c.length=32) (h:zdq a b=zdq c d):a=c∧b=d:=by
  unfold zdq at h;have h:a++b=c++d:=by simpa using h
  exact List.append_inj h (by rw[ha,hc])
theorem zrg {a b:List Ab.Id} (h:zcw a=zcw b) (hs:a.length<2):a=b:=by
  unfold zcw at h
  match a,hs with
  | [],_ =>
    by_cases h0:b.length=0
    · exact(List.length_eq_zero_iff.1 h0).symm
    rw[ut (show([]:List Ab.Id).length=0 from rfl),ur h0] at h;by_cases h1:b.length≤1
    · rw[ut h1] at h;simp at h
    rw[ur h1] at h;unfold zdq at h;simp at h
  | [x],_ =>
    rw[ur (show ¬[x].length=0 by simp),ut (show [x].length≤1 by simp)] at h;by_cases h0:b.length=0
    · rw[ut h0] at h;simp at h
    rw[ur h0] at h;by_cases h1:b.length≤1
    · rw[ut h1] at h
      match b,h0,h1 with
      | [y],_,_=>simp at h;rw[h]
      | [],h0,_=>exact absurd rfl h0
      | _::_::_,_,h1=>simp at h1
    rw[ur h1] at h;unfold zdq at h;simp at h
theorem zt3:∀(n:Nat) (a b:List Ab.Id),a.length≤n→zal a=zal b→
    ((zcC n a b).2.2=true↔¬a=b)∧((zcC n a b).2.2=true→¬(zcC n a b).1=(zcC n a b).2.1∧zco (zcC n a b).1=zco (zcC n a b).2.1):=by
  intro n
  induction n with
  | zero =>
    intro a b hn hr;by_cases h:zcw a=zcw b
    · have e:=zrg h yc
      rw[zsb h (.inl yc)];exact⟨⟨fun c=>(by cases c),fun c=>absurd e c⟩,fun c=>(by cases c)⟩
    rw[zvA h];exact⟨⟨fun _ c=>h (by rw[c]),fun _=>rfl⟩,fun _=>⟨h,by rw[←ziv,←ziv];exact hr⟩⟩
  | succ n ih =>
    intro a b hn hr;by_cases h:zcw a=zcw b
    · by_cases h2:a.length<2∨b.length<2
      · have e:a=b:=h2.elim (zrg h) (fun c=>(zrg h.symm c).symm)
        rw[zsb h h2];exact⟨⟨fun c=>(by cases c),fun c=>absurd e c⟩,fun c=>(by cases c)⟩
      have hp:=zcY a.length;have hh:=zev (n:=a.length) yc;have ht:=h;unfold zcw at ht;rw[ur yc,ur yc,ur yc,ur yc] at ht;obtain⟨r1,r2⟩:=node_inj (zfh _) (zfh _) ht;have hl:=ih (a.take (halfN a.length)) (b.take (halfN b.length)) yx r1;have hd:=ih (a.drop (halfN a.length)) (b.drop (halfN b.length)) yx r2;have hdn:zcC (n+1) a b=if (zcC n (a.take (halfN a.length)) (b.take (halfN b.length))).2.2=true then zcC n (a.take (halfN a.length)) (b.take (halfN b.length)) else zcC n (a.drop (halfN a.length)) (b.drop (halfN b.length)):=by rw[zcC,ur (fun c=>c h),ur h2]
      rw[hdn];by_cases c:(zcC n (a.take (halfN a.length)) (b.take (halfN b.length))).2.2=true
      · rw[ut c]
        exact⟨⟨fun _ e=>hl.1.1 c (by rw[e]),fun _=>c⟩,hl.2⟩
      rw[ur c];have et:a.take (halfN a.length)=b.take (halfN b.length):=Classical.byContradiction fun e=>c (hl.1.2 e)
      refine⟨hd.1.trans ⟨fun e q=>e (by rw[q]),fun e q=>e ?_⟩,hd.2⟩;rw[←List.take_append_drop (halfN a.length) a,et,q,List.take_append_drop]
    rw[zvA h];exact⟨⟨fun _ c=>h (by rw[c]),fun _=>rfl⟩,fun _=>⟨h,by rw[←ziv,←ziv];exact hr⟩⟩
theorem zsa:∀(n:Nat) (a b:List Ab.Id),zik a→zik b→(zcC n a b).1.length≤65∧(zcC n a b).2.1.length≤65
  | 0,a,b,ha,hb=>⟨zg8 ha,zg8 hb⟩
  | n+1,a,b,ha,hb=>by
    unfold zcC
    split
    · exact⟨zg8 ha,zg8 hb⟩
    split
    · exact⟨zg8 ha,zg8 hb⟩
    split
    · exact zsa n _ _ (ha.take _) (hb.take _)
    exact zsa n _ _ (ha.drop _) (hb.drop _)
theorem differ_len {a b:List Ab.Id} (ha:zik a) (hb:zik b):(zaS a b).1.length≤65∧(zaS a b).2.1.length≤65:=by
  unfold zaS
  split
  · simp
  split
  · exact zsa _ _ _ ha hb
  simp
theorem zt2 (a b:List Ab.Id):(zaS a b).2.2=true↔¬a=b∧zal a=zal b:=by
  unfold zaS;by_cases h:a=b∨¬zal a=zal b
  · rw[ut h]
    exact⟨fun c=>(by cases c),fun c=>absurd h (fun q=>q.elim c.1 (fun e=>e c.2))⟩
  rw[ur h];have hr:zal a=zal b:=Classical.byContradiction fun c=>h (.inr c)
  have hs:=(zt3 a.length a b (ug _) hr).1;have hne:¬a=b:=fun c=>h (.inl c)
  rw[ut (hs.2 hne)];exact⟨fun _=>⟨hne,hr⟩,fun _=>hs.2 hne⟩
theorem differ_yes {a b:List Ab.Id} (h:(zaS a b).2.2=true):¬(zaS a b).1=(zaS a b).2.1∧zco (zaS a b).1=zco (zaS a b).2.1:=by
  obtain⟨h1,h2⟩:=(zt2 a b).1 h;have hs:=zt3 a.length a b (ug _) h2;have e:zaS a b=zcC a.length a b:=by unfold zaS;rw[ur (fun q=>q.elim h1 (fun c=>c h2)),ut (hs.1.2 h1)]
  rw[e] at h ⊢;exact hs.2 h
def zdB (h:Head):List UInt8:=5::zav h
def zBlockD:Block:=⟨zko,[],[]⟩
def bAt (l:List Block) (id:Ab.Id):Block:=(l[(zbz l id).toNat]?).getD zBlockD
def extF (p:Proof) (l:List Block):Nat→List UInt8×List UInt8×Bool
  | 0=>([],[],false)
  | i+1 =>
    if zbz l (zw (yAt p i).h)<0 then ([],[],false)
    else if ¬(bAt l (zw (yAt p i).h)).h=(yAt p i).h then (zdB (yAt p i).h,zdB (bAt l (zw (yAt p i).h)).h,true)
    else if ¬(bAt l (zw (yAt p i).h)).l=(yAt p i).l then zaS (yAt p i).l (bAt l (zw (yAt p i).h)).l
    else extF p l i
def zgp (p:Proof) (l:List Block):List UInt8×List UInt8×Bool :=
  if ¬(zH l).2=0∨¬zaa p=0 then ([],[],false)
  else if ¬zw (yAt p (p.p.length-1)).h=zw (zH l).1.b.h then ([],[],false)
  else extF p l p.p.length
section
variable {p:Proof} {l:List Block} {i:Nat} {b:Block}
theorem bAt_of (h:l[(zbz l (zw (yAt p i).h)).toNat]?=some b):bAt l (zw (yAt p i).h)=b:=by unfold bAt;rw[h];rfl
theorem zxm (h:zbz l (zw (yAt p i).h)<0):extF p l (i+1)=([],[],false):=ut h
theorem zoS (h:¬zbz l (zw (yAt p i).h)<0) (hb:l[(zbz l (zw (yAt p i).h)).toNat]?=some b) (hh:¬b.h=(yAt p i).h):extF p l (i+1)=(zdB (yAt p i).h,zdB b.h,true):=by
  show(if _ then _ else _)=_;rw[ur h,bAt_of hb,ut hh]
theorem zoR (h:¬zbz l (zw (yAt p i).h)<0) (hb:l[(zbz l (zw (yAt p i).h)).toNat]?=some b) (hh:b.h=(yAt p i).h) (hl:¬b.l=(yAt p i).l):extF p l (i+1)=zaS (yAt p i).l b.l:=by
  show(if _ then _ else _)=_;rw[ur h,bAt_of hb,ur (fun c=>c hh),ut hl]
theorem ext_go (h:¬zbz l (zw (yAt p i).h)<0) (hb:l[(zbz l (zw (yAt p i).h)).toNat]?=some b) (hh:b.h=(yAt p i).h) (hl:b.l=(yAt p i).l):extF p l (i+1)=extF p l i:=by
  show(if _ then _ else _)=_;rw[ur h,bAt_of hb,ur (fun c=>c hh),ur (fun c=>c hl)]
end
section
variable {p:Proof} {l:List Block} {k:Nat} {x:Part} {b:Block}
theorem zpW (h:p.p[k]?=some x):yAt p k=x:=by unfold yAt;simp[h]
theorem zoQ (h0:0<k) (hx:p.p[k-1]?=some x) (h:zbz l (zw x.h)<0):extF p l k=([],[],false):=by
  obtain⟨j,rfl⟩:∃j,k=j+1:=⟨k-1,by omega⟩;have e:yAt p j=x:=zpW hx;subst e;exact zxm h
theorem zmb (h0:0<k) (hx:p.p[k-1]?=some x) (h:¬zbz l (zw x.h)<0) (hb:l[(zbz l (zw x.h)).toNat]?=some b) (hh:¬b.h=x.h):extF p l k=(zdB x.h,zdB b.h,true):=by
  obtain⟨j,rfl⟩:∃j,k=j+1:=⟨k-1,by omega⟩;have e:yAt p j=x:=zpW hx;subst e;exact zoS h hb hh
theorem zma (h0:0<k) (hx:p.p[k-1]?=some x) (h:¬zbz l (zw x.h)<0) (hb:l[(zbz l (zw x.h)).toNat]?=some b) (hh:¬¬b.h=x.h) (hl:¬b.l=x.l):extF p l k=zaS x.l b.l:=by
  obtain⟨j,rfl⟩:∃j,k=j+1:=⟨k-1,by omega⟩;have e:yAt p j=x:=zpW hx;subst e;exact zoR h hb (ua hh) hl
theorem extk_go (h0:0<k) (hx:p.p[k-1]?=some x) (h:¬zbz l (zw x.h)<0) (hb:l[(zbz l (zw x.h)).toNat]?=some b) (hh:¬¬b.h=x.h) (hl:¬¬b.l=x.l):extF p l k=extF p l (k-1):=by
  obtain⟨j,rfl⟩:∃j,k=j+1:=⟨k-1,by omega⟩;have e:yAt p j=x:=zpW hx;subst e;exact ext_go h hb (ua hh) (ua hl)
end
theorem zqE {l:List Block} {id:Ab.Id} (h:¬zbz l id<0):∃b,l[(zbz l id).toNat]?=some b:=by
  obtain⟨b,hb,_⟩:=(find_range (l:=l) (id:=id)).2.2 yc;exact⟨b,hb⟩
theorem zvE {l:List Block} {t:Tip} {k:Nat} {b:Block} (h:Chain l t) (hb:l[k]?=some b):b.l.length≤32:=by
  obtain⟨hk,_⟩:=ul.1 hb;by_cases k0:k=0
  · subst k0
    obtain⟨t',h1,_⟩:=zf1 h (i:=1) (ug _) yc;have e:l.take 1=[b]:=by rw[show(1:Nat)=0+1 from rfl,un,hb];rfl
    rw[e] at h1;obtain⟨_,hb,_⟩:=zhm h1;rw[hb];exact uf _
  obtain⟨t',h1,h2,_⟩:=zjv h yc hb;have e:b.l=zes t':=(zfH.1 h2).2.2.1;rw[e];exact(zkj h1).2.1
theorem zvk {p:Proof} {k:Nat} {x:Part} (h:zaa p=0) (hx:p.p[k]?=some x):x.l.length≤32:=by
  have hp:=zcy.1 h;obtain⟨hk,_⟩:=ul.1 hx;rw[←zpW hx];by_cases k0:k=0
  · subst k0
    rw[List.length_eq_zero_iff.1 hp.fst.2.1];exact uf _
  exact(zfX.1 (hp.steps k yc hk).2.1).2.1
theorem zue {l:List Block} (h:(zH l).2=0):l[l.length-1]?=some (zH l).1.b:=by
  have:=(zgv (zdr h)).1
  rwa [List.getLast?_eq_getElem?] at this
theorem zud {l:List Block} (h:(zH l).2=0):0<l.length:=List.length_pos_iff.2 (zjt h)
theorem zmc {p:Proof} {l:List Block} (h:¬(zH l).2=0∨¬zaa p=0):zgp p l=([],[],false):=ut h
theorem zvt {p:Proof} {l:List Block} (h1:(zH l).2=0) (h2:zaa p=0) (h:¬zw (yAt p (p.p.length-1)).h=zw (zH l).1.b.h):zgp p l=([],[],false):=by
  unfold zgp;rw[ur (fun q=>q.elim (fun c=>c h1) (fun c=>c h2)),ut h]
theorem ext_in {p:Proof} {l:List Block} (h1:(zH l).2=0) (h2:zaa p=0) (h:¬¬zw (yAt p (p.p.length-1)).h=zw (zH l).1.b.h):zgp p l=extF p l p.p.length:=by
  unfold zgp;rw[ur (fun q=>q.elim (fun c=>c h1) (fun c=>c h2)),ur h]
theorem ztH {p:Proof} (h:zaa p=0):0<p.p.length:=by
  have h:=zcy.1 h
  have:=h.k1
  have:=h.l1
  omega
theorem zp9 (h:Head):Tells P 73 [.val zbW h] (.fresh 5 u8T (zdB h)):=by
 refine zc Tryz.func73 rfl rfl rfl (fun ext w hext=>?_);refine ze (d:=0) rfl zoP (fun hh=>?_);obtain⟨hh1,hh2,hh3,hh4,hh5⟩:=hh;have hbl:(zav h).length≤176:=by unfold zav;split<;>simp[zbU,hh1,hh2,hh3,hh4,zct,zJ]
 refine qc6 ?_;refine CNQR ?_;refine qcc ?_;refine A0 (oCl (zcn (zvj h)) rfl fn_69 yf) ?_;refine qbi ?_;refine A0 aV ?_;refine qaz ?_;refine qbB ?_;refine qax ?_;refine zF rfl rfl rfl rfl rfl rfl rfl zc4 yx ?_;refine qbm ?_;exact zb rfl rfl (zh rfl rfl (rfl))
theorem extract_ok (p:Proof) (l:List Block) (hl:zia l):Tells P 24 [.val zac p,.val (bsl zL) l] (.tup3 (.val (sl u8T) (zgp p l).1) (.val (sl u8T) (zgp p l).2.1) (.val zm (zgp p l).2.2)):=by
 obtain⟨A,hA⟩:∃A,A=idsP p:=⟨_,rfl⟩;refine zc Tryz.func24 rfl rfl rfl (fun ext w hext=>?_);refine ze (d:=1) rfl zk (fun hsl1=>?_);refine qay ?_;refine zs ze_22 rfl rfl rfl rfl ?_;refine zs ze_22 rfl rfl rfl rfl ?_;refine zs ze_4 rfl rfl rfl rfl ?_;refine CNQR ?_;refine A0 (oLs rfl rfl rfl znJ) ?_;refine A0 (oCl (zlk l hl) rfl fn_21 yf) ?_;refine qa5 ?_;refine qaj ?_;refine A0 zdQ ?_;refine zaP (d:=19) (p:=¬(zH l).2=0) rfl yH (fun g19=>?_) (fun g19=>?_)
 ·
  refine qax ?_;refine qac ?_;refine qaw ?_;refine Ct ?_;refine qa6 ?_;exact zlq rfl rfl (zl rfl rfl zbi (by rw[zmc (.inl g19)])) (zl rfl rfl zbi (by rw[zmc (.inl g19)])) (zl rfl rfl ty_4 (by rw[zmc (.inl g19)]))
 refine qax ?_;refine A1 (oLs rfl rfl rfl zaR) ?_;refine A1 (oCl (zgu p) rfl zvq yf) ?_;refine A1 zdQ ?_;refine qaw ?_;refine zn (p:=¬zaa p=0) rfl yH (fun ht24=>?_) (fun ht24=>?_)
 ·
  refine qa6 ?_;exact zlq rfl rfl (zl rfl rfl zbi (by rw[zmc (.inr ht24)])) (zl rfl rfl zbi (by rw[zmc (.inr ht24)])) (zl rfl rfl ty_4 (by rw[zmc (.inr ht24)]))
 have hc0:(zH l).2=0:=ua g19;have hp0:zaa p=0:=ua ht24;have hlp:=ztH hp0;have hcp:=zud hc0;have hsz:=(zcy.1 hp0).l2;have hle:=zue hc0;have hal:A.length=p.p.length:=by rw[hA];unfold idsP;simp
 have hids:=zu (zow p yc);rw[←hA] at hids;have hiy:A[A.length-1]?=some (zw (yAt p (p.p.length-1)).h):=by rw[hal,hA];exact zmF p yc
 refine CSQR ?_;refine qaQ ?_;refine A0 (oCl (hids) rfl zvp yf) ?_;refine zs ze_56 rfl rfl rfl rfl ?_;refine zf rfl rfl rfl rfl rfl (Lens.self _) za5 rfl ?_;refine CNQ ?_;refine qaV ?_;refine G0 (oLs rfl rfl rfl za5) ?_;refine G0 (oLs rfl rfl rfl za5) ?_;refine G0 (zW rfl rfl zcq) ?_;refine G0 zbb ?_;refine G0 (zK (i:=A.length-1) rfl rfl rfl yc zb8 yh) ?_;refine qcD ?_;refine G0 (oFp zeB) ?_;refine G0 (oFp zbe) ?_;refine G0 (oLb (zeK.comp zaw) zaM) ?_;refine G0 (oCl (zeu (zH l).1.b.h) rfl zr0 yf) ?_;refine G0 (zee rfl rfl rfl (zfl)) ?_;refine GK.nil ?_;refine zn (p:=¬zw (yAt p (p.p.length-1)).h=zw (zH l).1.b.h) rfl yy (fun ht37=>?_) (fun ht37=>?_)
 ·
  refine qa6 ?_;exact zlq rfl rfl (zl rfl rfl zbi (by rw[zvt hc0 hp0 ht37])) (zl rfl rfl zbi (by rw[zvt hc0 hp0 ht37])) (zl rfl rfl ty_4 (by rw[zvt hc0 hp0 ht37]))
 have hex:=ext_in hc0 hp0 ht37;refine CSQQR ?_;refine A0 (oFp zat) ?_;refine A0 (oLb zau zcm) ?_;refine zU rfl rfl rfl rfl Tryz.func71 fn_71 rfl rfl (fun ia1 iok1=>?_);refine qae ?_;refine qbo ?_;refine CNB ?_;refine zh2 rfl rfl rfl Tryz.func140 fn_140 rfl rfl yG (fun fid2 ca2 lN2 DN2 cok2 rc2 hrc2=>?_);refine CQR ?_;refine A0 (oLs rfl rfl rfl zcm) ?_;refine xL ?_;refine A0 zbb ?_;refine qc7 ?_;refine Lp (ι:=Nat) 10 (fun k=>((Fr.none.set 0 (.lit (.func (.yield lN2) #[] #[]))).set 1 (.ptr 7 0)).set 3 (.val i64T ((k:Int)-1))) (fun k=>(((((((Hp.none.set 1 (.box 46 (bsl zL) l)).set 2 (.box 22 (sl u8T) [])).set 3 (.box 22 (sl u8T) [])).set 4 (.box 4 zm false)).set 6 (.box 56 (sl idT) A)).set 7 (.box 25 (sl zbl) p.p)).set 8 (.objAt DN2 (.deferred (some [])))).set 9 (.objAt lN2 (rc2 .ready none))) (fun k=>k≤p.p.length∧zgp p l=extF p l k) (fun k=>k) (p.p.length) (⟨ug _,hex⟩) ?_;intro k hinv;refine qb1 ?_;refine qbZ ?_;refine Cf (p:=0<k) (fun ht8=>?_) (fun ht8=>?_)
 ·
  obtain⟨x,hx⟩:∃x,p.p[k-1]?=some x:=yv;have hxi:A[k-1]?=some (zw x.h):=by rw[hA,←zpW hx];exact zmF p yc
  have hxl:=zvk hp0 hx;refine CSQBQR ?_;refine A0 mL ?_;refine qax ?_;refine A0 (oLs rfl rfl rfl zcm) ?_;refine qax ?_;refine A0 (zK (i:=k-1) rfl rfl rfl yc zfE yh) ?_;refine A0 (zg rfl rfl zga) ?_;refine zh1 (nL:=9) rfl rfl rfl rfl rfl hrc2 rfl rfl rfl (fun ya3 yok3=>?_);refine CQR ?_;refine qc5 ?_;refine qa1 ?_;refine CN ?_;refine zh5 (nL:=9) hrc2 rfl ?_;refine CB ?_;refine qaV ?_;refine G0 (oLs rfl rfl rfl znJ) ?_;refine G0 (oLs rfl rfl rfl za5) ?_;refine G0 mV ?_;refine G0 (zK (i:=k-1) rfl rfl rfl yc zb8 yh) ?_;refine qcD ?_;refine G0 (oCl (findC_ok l (zw x.h)) rfl fn_72 ⟨yo,yd,trivial⟩) ?_;refine qaP ?_;refine CB ?_;refine qa4 ?_;refine A0 zb2 ?_;refine qad ?_;refine Cf (p:=zbz l (zw x.h)<0) (fun ht49=>?_) (fun ht49=>?_)
  ·
   refine qa6 ?_;refine zfo (nL:=9) hrc2 rfl ?_;refine qaL ?_;refine Ct ?_;refine zd9 (nL:=9) rfl hrc2 rfl yp ?_;refine zap (zbD (nD:=8) rfl rfl rfl ?_);exact zlu rfl rfl (zl rfl rfl zbi (by rw[hinv.2,zoQ ht8 hx ht49])) (zl rfl rfl zbi (by rw[hinv.2,zoQ ht8 hx ht49])) (zl rfl rfl ty_4 (by rw[hinv.2,zoQ ht8 hx ht49]))
  obtain⟨b,hb⟩:=zqE ht49;have hbl:=zvE (zdr hc0) hb;refine qaV ?_;refine G0 (oLs rfl rfl rfl znJ) ?_;refine G0 mV ?_;refine G0 (zK (i:=(zbz l (zw x.h)).toNat) rfl rfl rfl yc zdz yh) ?_;refine G0 (oFr zbe zaw) ?_;refine G0 (zg rfl rfl zaM) ?_;refine G0 (oFp zbk) ?_;refine G0 (oLb zaU zaM) ?_;refine G0 (zee rfl rfl rfl (zjQ)) ?_;refine qaP ?_;refine zn (p:=¬b.h=x.h) rfl yy (fun ht52=>?_) (fun ht52=>?_)
  ·
   refine CQ ?_;refine zx [some 1,some 1,some 1,some 1,some 1,some 1,some 1,some 1,some 1,none,none,none] mixed ye ?_;refine X0 (oFp zbk) ?_;refine X0 (oLb zaU zaM) ?_;refine X0 (oCl (zu (zp9 x.h)) rfl fn_73 yf) ?_;refine X0 (oLs rfl rfl rfl znJ) ?_;refine X0 mV ?_;refine X0 (zK (i:=(zbz l (zw x.h)).toNat) rfl rfl rfl yc zdz yh) ?_;refine X0 (oFr zbe zaw) ?_;refine X0 (zg rfl rfl zaM) ?_;refine X0 (oCl (zu (zp9 b.h)) rfl fn_73 ybN) ?_;refine XK.e (x:=.idk) (fun fr' hfr kk H=>by exact zf rfl rfl rfl ((hfr 4 ye).trans rfl) rfl (Lens.self _) zbi ((hfr 63 ye).trans rfl) (zr H)) ?_;refine XK.e (x:=.idk) (fun fr' hfr kk H=>by exact zf rfl rfl rfl ((hfr 5 ye).trans rfl) rfl (Lens.self _) zbi ((hfr 69 ye).trans rfl) (zr H)) ?_;refine XK.e (x:=.idk) (fun fr' hfr kk H=>by exact zf rfl rfl rfl ((hfr 6 ye).trans rfl) rfl (Lens.self _) ty_4 rfl (zr H)) ?_;refine xf ?_;refine zfo (nL:=9) hrc2 rfl ?_;refine qaL ?_;refine Ct ?_;refine zd9 (nL:=9) rfl hrc2 rfl yp ?_;refine zap (zbD (nD:=8) rfl rfl rfl ?_);exact zlu rfl rfl (zl rfl rfl zbi ybE) (zl rfl rfl zbi ybE) (zl rfl rfl ty_4 ybE)
  refine qaV ?_;refine G0 (oLs rfl rfl rfl znJ) ?_;refine G0 mV ?_;refine G0 (zK (i:=(zbz l (zw x.h)).toNat) rfl rfl rfl yc zdz yh) ?_;refine G0 (oFr zcQ zbN) ?_;refine G0 (zg rfl rfl za5) ?_;refine G0 (oFp zbA) ?_;refine G0 (oLb za4 za5) ?_;refine G0 (oCl (zoT b.l x.l) rfl fn_57 ybP) ?_;refine G0 oN ?_;refine qaP ?_;refine zn (p:=¬b.l=x.l) rfl yy (fun ht70=>?_) (fun ht70=>?_)
  ·
   refine CQ ?_;refine zx [some 1,some 1,some 1,some 1,some 1,some 1,some 1,some 1,some 1,some 1,some 1,none,none,none] mixed ye ?_;refine X0 (oFp zbA) ?_;refine X0 (oLb za4 za5) ?_;refine X0 (oLs rfl rfl rfl znJ) ?_;refine X0 mV ?_;refine X0 (zK (i:=(zbz l (zw x.h)).toNat) rfl rfl rfl yc zdz yh) ?_;refine X0 (oFr zcQ zbN) ?_;refine X0 (zg rfl rfl za5) ?_;refine X0 (oCl (differ_ok x.l b.l yc yc) rfl fn_74 ⟨yo,yd,trivial⟩) ?_;refine X0 yZ ?_;refine X0 yaN ?_;refine X0 e32 ?_;refine XK.e (x:=.idk) (fun fr' hfr kk H=>by exact zf rfl rfl rfl ((hfr 4 ye).trans rfl) rfl (Lens.self _) zbi ((hfr 88 ye).trans rfl) (zr H)) ?_;refine XK.e (x:=.idk) (fun fr' hfr kk H=>by exact zf rfl rfl rfl ((hfr 5 ye).trans rfl) rfl (Lens.self _) zbi ((hfr 89 ye).trans rfl) (zr H)) ?_;refine XK.e (x:=.idk) (fun fr' hfr kk H=>by exact zf rfl rfl rfl ((hfr 6 ye).trans rfl) rfl (Lens.self _) ty_4 ((hfr 90 ye).trans rfl) (zr H)) ?_;refine xf ?_;refine zfo (nL:=9) hrc2 rfl ?_;refine qaL ?_;refine Ct ?_;refine zd9 (nL:=9) rfl hrc2 rfl yp ?_;refine zap (zbD (nD:=8) rfl rfl rfl ?_);exact zlu rfl rfl (zl rfl rfl zbi ybu) (zl rfl rfl zbi ybu) (zl rfl rfl ty_4 ybu)
  refine CS ?_;refine CI ?_;refine CI ?_;refine zde (nL:=9) hrc2 rfl ?_;refine qaL ?_;refine Cg ?_;refine CSIR ?_;refine qcb ?_;refine qad ?_;refine zj (d:=3) (y:=((k-1:Nat):Int)-1) rfl yc ?_;exact Nx (k-1) (⟨by omega,by rw[hinv.2];exact extk_go ht8 hx ht49 hb ht52 ht70⟩) yc
 refine CE ?_;refine zei (nL:=9) rfl hrc2 rfl yp ?_;refine CI ?_;refine qa6 ?_;refine zap (zbD (nD:=8) rfl rfl rfl ?_);exact zlu rfl rfl (zl rfl rfl zbi yaG) (zl rfl rfl zbi yaG) (zl rfl rfl ty_4 yaG)
set_option maxRecDepth 20000
theorem zk1 {h:Head} (ho:hOk h=true):zw h=zco (zdB h):=by
  unfold zw zdB zav;rw[ut ho,ut ho];rfl
theorem ziJ {p:Proof} (hp:HoldsP p):∀i,i<p.p.length→(i:Int)≤(yAt p i).h.height∧(i=0→(yAt p i).h.height=0)
  | 0,_=>by
    obtain⟨b1,_,b3⟩:=hp.fst;have e:(yAt p 0).h.height=0:=by rw[b3,zda b1];rfl
    exact⟨by rw[e];exact Int.le_refl _,fun _=>e⟩
  | i+1,h=>by
    have ih:=ziJ hp i yc;have hs:=(zlQ.1 (hp.steps (i+1) yc h).1).1;have hs:(yAt p i).h.height<(yAt p (i+1)).h.height:=hs;exact⟨by omega,fun c=>by omega⟩
theorem holds_ok {p:Proof} (hp:HoldsP p) {i:Nat} (h:i<p.p.length):hOk (yAt p i).h=true∧(i=0→(yAt p i).l=[])∧(1≤i→zal (yAt p i).l=(yAt p i).h.links):=by
  by_cases i0:i=0
  · subst i0
    obtain⟨b1,b2,b3⟩:=hp.fst;refine⟨?_,fun _=>List.length_eq_zero_iff.1 b2,fun c=>by omega⟩;rw[b3,zda b1];rfl
  obtain⟨_,s2,s3⟩:=hp.steps i yc h;exact⟨mayH_ok (zpX.1 s3),fun c=>absurd c i0,fun _=>(zfX.1 s2).2.2.2.2⟩
theorem zxl {p:Proof} {l:List Block} {t:Tip} (hp:HoldsP p) (hc:Chain l t) (wp:∀x∈p.p,HW x.h) (wl:∀x∈l,HW x.h) :
    ∀i,i≤p.p.length→(i=0∨∃(j:Nat) (b:Block),l[j]?=some b∧zw b.h=zw (yAt p (i-1)).h)→
    ((extF p l i).2.2=true→¬(extF p l i).1=(extF p l i).2.1∧zco (extF p l i).1=zco (extF p l i).2.1)∧
    ((extF p l i).2.2=false→∀j,j<i→∃b,l[(yAt p j).h.height.toNat]?=some b∧b.h=(yAt p j).h∧b.l=(yAt p j).l)
  | 0,_,_=>⟨fun h=>(by cases h),fun _ j hj=>by omega⟩
  | i+1,hi,hf=>by
    obtain⟨j,b,hb,hid⟩:=hf.resolve_left yc;have hid:zw b.h=zw (yAt p i).h:=hid;obtain⟨k,hk,_,c,hcl,hci⟩:=find_self hb;rw[hid] at hk hci;have hn:¬zbz l (zw (yAt p i).h)<0:=by rw[hk];omega
    have hcl':l[(zbz l (zw (yAt p i).h)).toNat]?=some c:=by rw[hk];exact hcl
    obtain⟨c1,c2,c3,c4⟩:=zeY hc hcl;obtain⟨o1,o2,o3⟩:=holds_ok hp (i:=i) yc;obtain⟨g1,g2⟩:=ziJ hp i yc;by_cases hh:c.h=(yAt p i).h
    · have hkh:(yAt p i).h.height=k:=by rw[←hh];exact c1
      by_cases hl:c.l=(yAt p i).l
      · rw[ext_go hn hcl' hh hl]
        have ih:=zxl hp hc wp wl i yc (by
          by_cases i0:i=0
          · exact .inl i0
          refine .inr ?_;have hle:=(zfX.1 (hp.steps i yc yc).2.1).2.2.2.1;unfold zgN at hle;rw[Bool.or_eq_true,uj,List.any_eq_true] at hle;have hkl:k<l.length:=(ul.1 hcl).1;have hk1:1≤k:=yc;rcases hle with e|⟨x,hx,e⟩
          · obtain⟨a,ha⟩:∃a,l[k-1]?=some a:=yv
            have e2:=chain_prev hc (i:=k-1) ha (by rw[show k-1+1=k by omega];exact hcl);exact⟨k-1,a,ha,by rw[←e2,hh];exact e⟩
          rw[uj] at e;rw[←hl] at hx;obtain⟨n,hnl,hnx⟩:=List.getElem_of_mem hx;have hll:c.l.length≤32:=by rw[hl];exact(zfX.1 (hp.steps i yc yc).2.1).2.1
          obtain⟨q1,_⟩:=((zi0 hc hk1 hcl).2 n yc).1 hnl;rw[ub hnl,hnx] at q1;have hlt:zb1 (za7 l) n k<l.length:=by
            have:=zkU (v:=za7 l) (n:=n) (i:=k);omega
          obtain⟨a,ha⟩:∃a,l[zb1 (za7 l) n k]?=some a:=⟨_,ub hlt⟩;refine⟨_,a,ha,?_⟩;have q2:idAt l (zb1 (za7 l) n k)=zw a.h:=by unfold idAt;rw[ha];rfl
          rw[←q2,←Option.some.inj q1];exact e.symm)
        refine⟨ih.1,fun h j hj=>?_⟩;by_cases e:j=i
        · subst e
          exact⟨c,by rw[hkh];exact hcl,hh,hl⟩
        exact ih.2 h j yc
      rw[zoR hn hcl' hh hl];have hroot:zal (yAt p i).l=zal c.l:=by
        by_cases i0:i=0
        · exact absurd (by rw[o2 i0,c3 (by have:=g2 i0;omega)]) hl
        rw[o3 yc,←hh,c4 yc]
      have hd:=(zt2 (yAt p i).l c.l).2 ⟨fun e=>hl e.symm,hroot⟩;exact⟨fun h=>differ_yes h,fun h=>by rw[hd] at h;cases h⟩
    rw[zoS hn hcl' hh];refine⟨fun _=>⟨fun e=>?_,?_⟩,fun h=>(by cases h)⟩
    · have e:zdB (yAt p i).h=zdB c.h:=e
      unfold zdB zav at e;rw[ut o1,ut c2] at e;injection e with _ e;have w1:HW (yAt p i).h:=wp _ (ud (at_ p (i:=i) yc));exact hh (zuZ w1 (wl c (ud hcl)) o1 c2 e).symm
    show zco (zdB (yAt p i).h)=zco (zdB c.h);rw[←zk1 o1,←zk1 c2];exact hci.symm
theorem zxn {p:Proof} {l:List Block} (hp:zaa p=0) (hc:(zH l).2=0) (hlast:zw (yAt p (p.p.length-1)).h=zw (zH l).1.b.h) (wp:∀x∈p.p,HW x.h) (wl:∀x∈l,HW x.h) :
    ((zgp p l).2.2=true→¬(zgp p l).1=(zgp p l).2.1∧zco (zgp p l).1=zco (zgp p l).2.1)∧
    ((zgp p l).2.2=false→∀j,j<p.p.length→∃b,l[(yAt p j).h.height.toNat]?=some b∧b.h=(yAt p j).h∧b.l=(yAt p j).l):=by
  have hh:=zcy.1 hp;have hch:=zdr hc;have e:zgp p l=extF p l p.p.length:=by
    unfold zgp;rw[ur (fun h=>h.elim (fun c=>c hc) (fun c=>c hp)),ur (fun c=>c hlast)]
  rw[e];refine zxl hh hch wp wl _ (ug _) (.inr ?_);have ht:=(zgv hch).1;rw[List.getLast?_eq_getElem?] at ht;exact⟨_,_,ht,hlast.symm⟩
theorem zwW {U N:Nat→Prop} {w:World} {h:Head} {cs:List Value} (hr:zbW.rel U N w h cs):HW h:=by
  obtain⟨_,_,_,_,_,_,_,h1,_,_,_,h2,_,_,_,h3,_,_,_,h4,_,_,_,h5,_⟩:=hr;exact⟨h1.1,h2.1,h3.1,h4.1,h5.1⟩
theorem ids_rel {U N:Nat→Prop} {w:World} {b:Bool} {l:List Ab.Id} {cs:List Value} (hr:(slT b idT).rel U N w l cs):zik l:=fun x hx=>by
  obtain⟨ad,cap,_,_,_,h3⟩:=hr;obtain⟨_,ds,_,_,hr,_⟩:=h3 (List.ne_nil_of_mem hx);obtain⟨c,hc⟩:=zeT hr x hx;exact hc.1
theorem fact_hwp {p:Proof} {ρ:Nat→Value} {B:Nat→Prop} {U N:Nat→Prop} {w:World} {v:Value} (h:(AV.val zac p).rel ρ B U N w v):∀x∈p.p,HW x.h∧zik x.l:=by
  obtain⟨cs,⟨c1,c2,_,_,c3,c4,_,_,a,cap,_,_,_,h3⟩,_⟩:=h;intro x hx;obtain⟨i,hi⟩:=List.getElem?_of_mem hx;obtain⟨ad,ds,_,_,hr,_⟩:=h3 (List.ne_nil_of_mem hx);obtain⟨d1,d2,_,hh,hl⟩:=hr.get hi;exact⟨zwW hh,ids_rel hl⟩
theorem fact_hwb {l:List Block} {b:Bool} {ρ:Nat→Value} {B:Nat→Prop} {U N:Nat→Prop} {w:World} {v:Value} (h:(AV.val (slT b zL) l).rel ρ B U N w v):∀x∈l,HW x.h∧zik x.l:=by
  obtain⟨cs,⟨ad,cap,_,_,_,h3⟩,_⟩:=h;intro x hx;obtain⟨_,ds,_,_,hr,_⟩:=h3 (List.ne_nil_of_mem hx);obtain⟨c,d1,d2,_,hh,e1,e2,_,hl,_⟩:=zeT hr x hx;exact⟨zwW hh,ids_rel hl⟩
theorem zp8 {h:Head} (hh:HW h):(zdB h).length≤177:=by
  obtain⟨h1,h2,h3,h4,h5⟩:=hh;unfold zdB zav
  split<;>simp[zbU,h1,h2,h3,h4,zct,zJ]
theorem zxo {p:Proof} {l:List Block} (wp:∀x∈p.p,HW x.h∧zik x.l) (wl:∀x∈l,HW x.h∧zik x.l):∀i,i≤p.p.length→(extF p l i).1.length≤177∧(extF p l i).2.1.length≤177
  | 0,_=>⟨uf _,uf _⟩
  | i+1,hi=>by
    have hy:=wp _ (ud (at_ p (i:=i) yc));by_cases h:zbz l (zw (yAt p i).h)<0
    · rw[zxm h];exact⟨uf _,uf _⟩
    obtain⟨b,hb⟩:=zqE h;have hb2:=wl b (ud hb);by_cases hh:b.h=(yAt p i).h
    · by_cases hl:b.l=(yAt p i).l
      · rw[ext_go h hb hh hl];exact zxo wp wl i yc
      rw[zoR h hb hh hl]
      have:=differ_len hy.2 hb2.2
      exact⟨by omega,by omega⟩
    rw[zoS h hb hh];exact⟨zp8 hy.1,zp8 hb2.1⟩
theorem ext_len {p:Proof} {l:List Block} (wp:∀x∈p.p,HW x.h∧zik x.l) (wl:∀x∈l,HW x.h∧zik x.l):(zgp p l).1.length≤177∧(zgp p l).2.1.length≤177:=by
  unfold zgp
  split
  · exact⟨uf _,uf _⟩
  split
  · exact⟨uf _,uf _⟩
  exact zxo wp wl _ (ug _)
def zle (n i:Nat):List Int:=if _h:2≤n then (if i<halfN n then 0::zle (halfN n) i else 1::zle (n-halfN n) (i-halfN n)) else []
termination_by n
decreasing_by
  · exact zev _h
  have:=zcY n;omega
def zhc (n i:Nat):List Int:=(zle n i).reverse
def upTr (s:Int) (x p:Ab.Id):Ab.Id:=if s=0 then ztr x p else ztr p x
def zeG (ss:List Int) (ps:List Ab.Id) (x:Ab.Id):Ab.Id:=(ss.zip ps).foldl (fun x sp=>upTr sp.1 x sp.2) x
def zgt (root:Ab.Id) (n i:Int) (leaf:Ab.Id) (path:List Ab.Id):Bool:=decide (1≤n∧n≤64∧0≤i∧i<n)&&(decide ((zhc n.toNat i.toNat).length=path.length)&&decide (zeG (zhc n.toNat i.toNat) path leaf=root))
theorem zld {m j:Nat} (h:2≤m):zle m j=if j<halfN m then 0::zle (halfN m) j else 1::zle (m-halfN m) (j-halfN m):=by
  conv=>lhs;rw[zle,dif_pos h]
theorem ziX {m j:Nat} (h:¬2≤m):zle m j=[]:=by rw[zle,dif_neg h]
theorem zoZ:∀{m j:Nat},(zle m j).length≤m:=by
  intro m
  induction m using Nat.strongRecOn with
  | ind m ih =>
    intro j;by_cases c:2≤m
    · have hp:=zcY m
      have hlt:=zev c;rw[zld c]
      split
      · have:=ih (halfN m) hlt (j:=j);rw[List.length_cons];omega
      have:=ih (m-halfN m) yc (j:=j-halfN m);rw[List.length_cons];omega
    rw[ziX c];simp
theorem downT_bit:∀{m j:Nat},∀s∈zle m j,s=0∨s=1:=by
  intro m
  induction m using Nat.strongRecOn with
  | ind m ih =>
    intro j s hs;by_cases c:2≤m
    · have hp:=zcY m
      have hlt:=zev c;rw[zld c] at hs
      split at hs
      · rcases List.mem_cons.1 hs with e|h
        · exact .inl e
        exact ih (halfN m) hlt s h
      rcases List.mem_cons.1 hs with e|h
      · exact .inr e
      exact ih (m-halfN m) yc s h
    rw[ziX c] at hs;cases hs
theorem sides_len {n i:Nat}:(zhc n i).length≤n:=by unfold zhc;rw[List.length_reverse];exact zoZ
theorem sides_bit {n i:Nat}:∀s∈zhc n i,s=0∨s=1:=fun s hs=>downT_bit s (List.mem_reverse.1 hs)
theorem zme {ss:List Int} {ps:List Ab.Id} {s:Int} {p x:Ab.Id} (e:ss.length=ps.length):zeG (ss++[s]) (ps++[p]) x=upTr s (zeG ss ps x) p:=by
  unfold zeG;rw[List.zip_append e,List.foldl_append];rfl
theorem climb_step {ss:List Int} {ps:List Ab.Id} {k:Nat} {s:Int} {p x:Ab.Id} (hs:ss[k]?=some s) (hp:ps[k]?=some p):zeG (ss.take (k+1)) (ps.take (k+1)) x=upTr s (zeG (ss.take k) (ps.take k) x) p:=by
  obtain⟨h1,_⟩:=ul.1 hs;obtain⟨h2,_⟩:=ul.1 hp;rw[un,hs,un,hp];exact zme (by rw[um,um];omega)
theorem climb_all {ss:List Int} {ps:List Ab.Id} {k:Nat} {x:Ab.Id} (h:ss.length≤k) (e:ss.length=ps.length):zeG (ss.take k) (ps.take k) x=zeG ss ps x:=by
  rw[uc h,uc yc]
def zcV (l:List Ab.Id) (i:Nat):List Ab.Id:=if _h:2≤l.length then (if i<halfN l.length then zcV (l.take (halfN l.length)) i++[zcF (l.drop (halfN l.length))] else zcV (l.drop (halfN l.length)) (i-halfN l.length)++[zcF (l.take (halfN l.length))]) else []
termination_by l.length
decreasing_by
  · have:=zev _h;simp;omega
  have:=zcY l.length;simp;omega
theorem zry {l:List Ab.Id} {i:Nat} (h:2≤l.length):zcV l i=if i<halfN l.length then zcV (l.take (halfN l.length)) i++[zcF (l.drop (halfN l.length))] else zcV (l.drop (halfN l.length)) (i-halfN l.length)++[zcF (l.take (halfN l.length))]:=by
  conv=>lhs;rw[zcV,dif_pos h]
theorem zrx {l:List Ab.Id} {i:Nat} (h:¬2≤l.length):zcV l i=[]:=by rw[zcV,dif_neg h]
theorem zkL:∀(n:Nat) (l:List Ab.Id) (i:Nat),l.length=n→(zcV l i).length=(zle n i).length:=by
  intro n
  induction n using Nat.strongRecOn with
  | ind n ih =>
    intro l i hl;subst hl;by_cases c:2≤l.length
    · have hp:=zcY l.length
      have hlt:=zev c;rw[zry c,zld c]
      split
      · rw[ue,List.length_singleton,List.length_cons,ih _ hlt _ i ybH]
      rw[ue,List.length_singleton,List.length_cons,ih (l.length-halfN l.length) yc _ _ (by rw[List.length_drop])]
    rw[zrx c,ziX c];rfl
theorem root_cutT {l:List Ab.Id} (h:2≤l.length):zcF l=ztr (zcF (l.take (halfN l.length))) (zcF (l.drop (halfN l.length))):=by
  conv=>lhs;rw[zcF,ur yc,dif_neg yc]
theorem zu5:∀(n:Nat) (l:List Ab.Id) (i:Nat),l.length=n→∀x,l[i]?=some x→zeG (zhc n i) (zcV l i) x=zcF l:=by
  intro n
  induction n using Nat.strongRecOn with
  | ind n ih =>
    intro l i hl x hx;subst hl;obtain⟨hi,hxe⟩:=ul.1 hx;by_cases c:2≤l.length
    · have hp:=zcY l.length
      have hlt:=zev c;unfold zhc at ih ⊢;rw[zry c,zld c,root_cutT c]
      split
      · rename_i d
        rw[List.reverse_cons,zme (by rw[List.length_reverse,zkL _ _ i rfl,um,Nat.min_eq_left yc]),
          ih _ hlt (l.take (halfN l.length)) i ybH x (by rw[List.getElem?_take_of_lt d];exact hx)]
        unfold upTr;rw[ut rfl]
      rename_i d
      rw[List.reverse_cons,zme (by rw[List.length_reverse,zkL _ _ _ rfl,List.length_drop]),
        ih _ yc (l.drop (halfN l.length)) (i-halfN l.length) (by rw[List.length_drop]) x (by rw[List.getElem?_drop,show halfN l.length+(i-halfN l.length)=i by omega];exact hx)]
      unfold upTr;rw[ur yp]
    rw[zrx c];unfold zhc;rw[ziX c,zcF,ur yc,dif_pos yc]
    have:i=0:=yc
    subst this;cases l with
    | nil=>cases hx
    | cons a m=>simp at hx;exact hx.symm
theorem zu6 {l:List Ab.Id} {i:Nat} {x:Ab.Id} (hl:l.length≤64) (hx:l[i]?=some x):zgt (zcF l) l.length i x (zcV l i)=true:=by
  obtain⟨hi,_⟩:=ul.1 hx;unfold zgt;rw[uk,uk,uj,uj,uj,Int.toNat_natCast,Int.toNat_natCast];exact⟨⟨by omega,by omega,by omega,by omega⟩,by unfold zhc;rw[List.length_reverse,zkL _ l i rfl],zu5 _ l i rfl x hx⟩
def zmC (ss:List Int) (ps:List Ab.Id) (x:Ab.Id) (k:Nat):List Ab.Id:=if ss.getD k 0=0 then [zeG (ss.take k) (ps.take k) x,ps.getD k zId] else [ps.getD k zId,zeG (ss.take k) (ps.take k) x]
def zkM (ss:List Int) (ps:List Ab.Id) (x:Ab.Id) (k:Nat):List (List Ab.Id):=(List.range k).map (zmC ss ps x)
theorem zws {ss:List Int} {ps:List Ab.Id} {x:Ab.Id} {k:Nat} {a:List Ab.Id} (h:a=zmC ss ps x k):zkM ss ps x k++[a]=zkM ss ps x (k+1):=by
  unfold zkM;rw[List.range_succ,List.map_append,h];rfl
theorem ztp {ss:List Int} {ps:List Ab.Id} {x:Ab.Id} {k:Nat}:(zkM ss ps x k).length=k:=by unfold zkM;simp
theorem pair_left {ss:List Int} {ps:List Ab.Id} {x p:Ab.Id} {k:Nat} (hs:ss[k]?=some 0) (hp:ps[k]?=some p):[zeG (ss.take k) (ps.take k) x,p]=zmC ss ps x k:=by
  unfold zmC;rw[uq,uq,hs,hp];rfl
theorem pair_right {ss:List Int} {ps:List Ab.Id} {x p:Ab.Id} {k:Nat} (hs:ss[k]?=some 1) (hp:ps[k]?=some p):[p,zeG (ss.take k) (ps.take k) x]=zmC ss ps x k:=by
  unfold zmC;rw[uq,uq,hs,hp];rfl
theorem sides_ok (n i:Nat) (hn:n≤64) (hi:i<n):Tells P 91 [.val i64T (n:Int),.val i64T (i:Int)] (.fresh 3 i64T (zhc n i)):=by
 refine zc Tryz.func91 rfl rfl rfl (fun ext w hext=>?_);refine ze (d:=0) rfl zt (fun hin0=>?_);refine ze (d:=1) rfl zt (fun hin1=>?_);refine qbD ?_;refine A0 aL ?_;refine CNQ ?_;refine CB ?_;obtain⟨i_,hi_⟩:∃k,k=i:=⟨_,rfl⟩;refine zcv (T:=i64T) (d:=5) 3 rfl ?_;refine Lp (ι:=List Int×Nat×Nat) 1 (fun(out,m,j)=>((Fr.none.set 0 (.val i64T (m:Int))).set 1 (.val i64T (j:Int))).set 5 (.own 0)) (fun(out,m,j)=>Hp.none.set 0 (.row 3 i64T out)) (fun(out,m,j)=>m≤n∧j≤m∧zle n i_=out++zle m j) (fun(out,m,j)=>m) (([],n,i)) (⟨ug _,by omega,by rw[hi_];rfl⟩) ?_;intro⟨out,m,j⟩ hinv;dsimp only at hinv;have hol:out.length≤n:=by have h1:=congrArg List.length hinv.2.2;have h2:=zoZ (m:=n) (j:=i_);simp at h1;omega
 refine qb1 ?_;refine qcC ?_;refine Cf (p:=2≤m) (fun ht8=>?_) (fun ht8=>?_)
 ·
  have hp:=zcY m;have hlt:=zev ht8;have hgo:=zld (j:=j) ht8;refine CS ?_;refine CB ?_;refine qa4 ?_;refine A0 (oCl (zvm m yc yc) rfl fn_102 yf) ?_;refine qag ?_;refine qax ?_;refine qaY ?_;refine Cf (p:=j<halfN m) (fun ht13=>?_) (fun ht13=>?_)
  ·
   rw[ut ht13] at hgo;refine CR ?_;refine A0 mO ?_;refine xe ?_;refine zF rfl rfl rfl rfl rfl rfl rfl zeo yaa ?_;refine qax ?_;refine qch ?_;refine CI ?_;refine xm ?_;exact Nx ((out++[0],halfN m,j)) ybx (by first|(show halfN m<m;omega)|(show m-halfN m<m;omega))
  rw[ur ht13] at hgo;refine CR ?_;refine A0 mO ?_;refine xe ?_;refine zF rfl rfl rfl rfl rfl rfl rfl zeo yaa ?_;refine qao ?_;refine A0 (zj5 rfl rfl rfl (show _=(((m-halfN m:Nat):Int):Int) from(show IntKind.i64.wrap ((m:Int)-(halfN m:Int))=_ from(zax yc).trans yc))) ?_;refine qao ?_;refine A0 (zj5 rfl rfl rfl (show _=(((j-halfN m:Nat):Int):Int) from(show IntKind.i64.wrap ((j:Int)-(halfN m:Int))=_ from(zax yc).trans yc))) ?_;refine A0 aO ?_;refine qbA ?_;refine CI ?_;refine xm ?_;exact Nx ((out++[1],m-halfN m,j-halfN m)) ybx (by first|(show halfN m<m;omega)|(show m-halfN m<m;omega))
 have hdn:=ziX (j:=j) ht8;refine CE ?_;refine qb6 ?_;refine zgT (revInt out yc) rfl fn_158 rfl trivial trivial rfl ⟨yi,trivial⟩ rfl rfl rfl ?_;refine CNQR ?_;refine A0 mO ?_;refine qbm ?_;exact zb rfl rfl (zh rfl rfl (by unfold zhc;rw[←hi_,hinv.2.2,hdn,List.append_nil]))
theorem pairs_ok (ss:List Int) (x:Ab.Id) (ps:List Ab.Id) (hs:∀s∈ss,s=0∨s=1) (he:ss.length=ps.length) (hl:ss.length≤64):Tells P 92 [.val (bsl i64T) ss,.val idT x,.val (bsl idT) ps] (.tup2 (.fresh 246 (arrT 2 yp idT) (zkM ss ps x ss.length)) (.val idT (zeG ss ps x))):=by
 refine zc Tryz.func92 rfl rfl rfl (fun ext w hext=>?_);refine ze (d:=0) rfl zk (fun hsl0=>?_);refine ze (d:=2) rfl zk (fun hsl2=>?_);refine qc6 ?_;refine qaM ?_;refine CNQR ?_;refine A0 aL ?_;refine qbg ?_;refine qbt ?_;refine qa2 ?_;refine zcv (T:=(arrT 2 yp idT)) (d:=8) 246 rfl ?_;refine Lp (ι:=Nat) 3 (fun i=>((((((Fr.none.set 2 (.val (bsl idT) ps)).set 4 (.ptr 0 0)).set 7 (.ptr 1 0)).set 8 (.own 2)).set 12 (.val (bsl i64T) ss)).set 13 (.val i64T (ss.length:Int))).set 14 (.val i64T (i:Int))) (fun i=>((Hp.none.set 0 (.box 49 idT (zeG (ss.take i) (ps.take i) x))).set 1 (.box 49 idT zId)).set 2 (.row 246 (arrT 2 yp idT) (zkM ss ps x i))) (fun i=>i≤ss.length) (fun i=>ss.length-i) (0) (uf _) ?_;intro i hinv;refine qak ?_;refine Cf (p:=i<ss.length) (fun ht15=>?_) (fun ht15=>?_)
 ·
  obtain⟨s,hsi⟩:∃s,ss[i]?=some s:=⟨_,ub ht15⟩;obtain⟨p,hpi⟩:∃p,ps[i]?=some p:=yv;have hcl:=climb_step (x:=x) hsi hpi;rcases hs s (ud hsi) with rfl|rfl
  ·
   refine qaE ?_;refine xD ?_;refine qbL ?_;refine A0 aV ?_;refine A0 aX ?_;refine CNQR ?_;refine zs ze_246 rfl rfl rfl rfl ?_;refine CNQ ?_;refine zx [some 1,some 1000001,some 1000001,some 1,some 1000001,some 1000001,some 1000001,some 1000001,some 1,none,some 1,none] mixed ye ?_;refine X0 mX ?_;refine XK.ga yq rfl rfl rfl ?_;refine XK.ga yal rfl rfl rfl ?_;refine X0 (oLs rfl rfl rfl zaj) ?_;refine XK.ga (fun _=>g_mv (.inl rfl) rfl) rfl rfl rfl ?_;refine XK.ga (fun _=>g_mv (.inl rfl) rfl) rfl rfl rfl ?_;refine XK.ga (fun _=>zK (i:=i) rfl rfl rfl yc zb8 yh) rfl rfl rfl ?_;refine XK.ga (fun _=>zg rfl rfl zaj) rfl rfl rfl ?_;refine X0 (zG (i:=0) rfl rfl rfl yn zi6 yc) ?_;refine XK.e (x:=.idk) (fun fr' hfr kk H=>by exact zf rfl rfl rfl ((hfr 27 ye).trans rfl) rfl (Lens.elem (i:=0) yc idT) zaj ((hfr 22 ye).trans rfl) (zr H)) ?_;refine X0 (zG (i:=1) rfl rfl rfl yn zi6 yc) ?_;refine XK.e (x:=.idk) (fun fr' hfr kk H=>by exact zf rfl rfl rfl ((hfr 28 ye).trans rfl) rfl (Lens.elem (i:=1) yc idT) zaj ((hfr 26 ye).trans rfl) (zr H)) ?_;refine xf ?_;refine qb6 ?_;refine A0 (oLs rfl rfl rfl ty_246) ?_;refine A0 (zX (T:=(arrT 2 yp idT)) (xs:=[_]) rfl sl_161 zrr yB rfl rfl) ?_;refine zF rfl rfl rfl rfl rfl rfl rfl zrr (by rw[ztp];simp;omega) ?_;refine qbm ?_;obtain⟨w,hw⟩:∃w,w=zmC ss ps x i:=⟨_,rfl⟩;refine CR ?_;refine A0 (zG (i:=0) rfl rfl rfl yn zi6 yc) ?_;refine A0 (zz rfl rfl rfl (Lens.elem (i:=0) yc idT) zaj) ?_;refine A0 (zG (i:=1) rfl rfl rfl yn zi6 yc) ?_;refine A0 (zz rfl rfl rfl (Lens.elem (i:=1) yc idT) zaj) ?_;refine A0 (oCl (zu9 (zeG (ss.take i) (ps.take i) x) p) rfl fn_159 yl) ?_;refine qau ?_;refine qbh ?_;refine zh4 3 ?_;refine zaQ 4 2 5 rfl rfl rfl rfl rfl rfl ?_;refine zA (n:=2) (y:=zkM ss ps x (i+1)) rfl (zws (pair_left hsi hpi)) ?_;refine zP (n:=0) (y:=zeG (ss.take (i+1)) (ps.take (i+1)) x) rfl (by rw[hcl];rfl) ?_;exact Nx (i+1) yc yc
  refine qaE ?_;refine xD ?_;refine qbL ?_;refine A0 aV ?_;refine A0 aX ?_;refine CNQR ?_;refine zs ze_246 rfl rfl rfl rfl ?_;refine CNQ ?_;refine zx [some 1,some 1000001,some 1000001,some 1,some 1000001,some 1000001,some 1000001,some 1000001,some 1,none,some 1,none] mixed ye ?_;refine X0 mX ?_;refine XK.ga yq rfl rfl rfl ?_;refine XK.ga yal rfl rfl rfl ?_;refine X0 (oLs rfl rfl rfl zaj) ?_;refine XK.ga (fun _=>g_mv (.inl rfl) rfl) rfl rfl rfl ?_;refine XK.ga (fun _=>g_mv (.inl rfl) rfl) rfl rfl rfl ?_;refine XK.ga (fun _=>zK (i:=i) rfl rfl rfl yc zb8 yh) rfl rfl rfl ?_;refine XK.ga (fun _=>zg rfl rfl zaj) rfl rfl rfl ?_;refine X0 (zG (i:=1) rfl rfl rfl yn zi6 yc) ?_;refine XK.e (x:=.idk) (fun fr' hfr kk H=>by exact zf rfl rfl rfl ((hfr 27 ye).trans rfl) rfl (Lens.elem (i:=1) yc idT) zaj ((hfr 22 ye).trans rfl) (zr H)) ?_;refine X0 (zG (i:=0) rfl rfl rfl yn zi6 yc) ?_;refine XK.e (x:=.idk) (fun fr' hfr kk H=>by exact zf rfl rfl rfl ((hfr 28 ye).trans rfl) rfl (Lens.elem (i:=0) yc idT) zaj ((hfr 26 ye).trans rfl) (zr H)) ?_;refine xf ?_;refine qb6 ?_;refine A0 (oLs rfl rfl rfl ty_246) ?_;refine A0 (zX (T:=(arrT 2 yp idT)) (xs:=[_]) rfl sl_161 zrr yB rfl rfl) ?_;refine zF rfl rfl rfl rfl rfl rfl rfl zrr (by rw[ztp];simp;omega) ?_;refine qbm ?_;obtain⟨w,hw⟩:∃w,w=zmC ss ps x i:=⟨_,rfl⟩;refine CR ?_;refine A0 (zG (i:=0) rfl rfl rfl yn zi6 yc) ?_;refine A0 (zz rfl rfl rfl (Lens.elem (i:=0) yc idT) zaj) ?_;refine A0 (zG (i:=1) rfl rfl rfl yn zi6 yc) ?_;refine A0 (zz rfl rfl rfl (Lens.elem (i:=1) yc idT) zaj) ?_;refine A0 (oCl (zu9 p (zeG (ss.take i) (ps.take i) x)) rfl fn_159 yl) ?_;refine qau ?_;refine qbh ?_;refine zh4 3 ?_;refine zaQ 4 2 5 rfl rfl rfl rfl rfl rfl ?_;refine zA (n:=2) (y:=zkM ss ps x (i+1)) rfl (zws (pair_right hsi hpi)) ?_;refine zP (n:=0) (y:=zeG (ss.take (i+1)) (ps.take (i+1)) x) rfl (by rw[hcl];rfl) ?_;exact Nx (i+1) yc yc
 refine CE ?_;refine CQ ?_;refine zx [some 1,some 1,some 1,none] mixed ye ?_;refine X0 mO ?_;refine X0 (oLs rfl rfl rfl zaj) ?_;refine X0 aO ?_;refine XK.e (x:=.idk) (fun fr' hfr kk H=>by exact zf rfl rfl rfl ((hfr 7 ye).trans rfl) rfl (Lens.self _) zaj ((hfr 40 ye).trans rfl) (zr H)) ?_;refine xf ?_;exact zq rfl rfl (zT (zh rfl rfl (by rw[show i=ss.length by omega]))) (zl rfl rfl zaj (climb_all yc he))
theorem checkTr_ok (root:Ab.Id) (n i:Int) (x:Ab.Id) (ps:List Ab.Id):Tells P 41 [.val idT root,.val i64T n,.val i64T i,.val idT x,.val (bsl idT) ps] (.val zm (zgt root n i x ps)):=by
 refine zc Tryz.func41 rfl rfl rfl (fun ext w hext=>?_);refine ze (d:=1) rfl zt (fun hin1=>?_);refine ze (d:=2) rfl zt (fun hin2=>?_);refine ze (d:=4) rfl zk (fun hsl4=>?_);refine qay ?_;refine qaj ?_;refine A0 zb2 ?_;refine qax ?_;refine Sp (d:=16) (p:=n<1) (fun g16=>?_) (fun g16=>?_)
 ·
  refine qaX ?_;refine A2 ?_;refine qbd ?_;refine qaw ?_;refine Ct ?_;refine qas ?_;exact zb rfl rfl (za rfl ya8)
 refine qck ?_;refine qal ?_;refine Sp (d:=20) (p:=64<n) (fun g20=>?_) (fun g20=>?_)
 ·
  refine A2 ?_;refine A2 ?_;refine qbd ?_;refine qaw ?_;refine Ct ?_;refine qas ?_;exact zb rfl rfl (za rfl ya8)
 refine A1 mV ?_;refine A1 zb2 ?_;refine qal ?_;refine Sp (d:=24) (p:=i<0) (fun g24=>?_) (fun g24=>?_)
 ·
  refine qac ?_;refine qaw ?_;refine Ct ?_;refine qas ?_;exact zb rfl rfl (za rfl ya8)
 refine qca ?_;refine A1 zfd ?_;refine qaw ?_;refine Cf (p:=n≤i) (fun ht28=>?_) (fun ht28=>?_)
 ·
  refine qas ?_;exact zb rfl rfl (za rfl ya8)
 obtain⟨N,rfl⟩:∃N:Nat,n=N:=⟨n.toNat,by omega⟩;obtain⟨J,rfl⟩:∃J:Nat,i=J:=⟨i.toNat,by omega⟩;have hin:1≤(N:Int)∧(N:Int)≤64∧0≤(J:Int)∧(J:Int)<N:=yc;refine CSQR ?_;refine qao ?_;refine A0 (oCl (zu (sides_ok N J yc yc)) rfl fn_91 yl) ?_;refine qaj ?_;refine qbt ?_;refine qax ?_;refine qaS ?_;refine qbk ?_;refine Cf (p:=¬(zhc N J).length=ps.length) (fun ht36=>?_) (fun ht36=>?_)
 ·
  refine qas ?_;exact zb rfl rfl (za rfl (by unfold zgt;rw[ui hin,Int.toNat_natCast,Int.toNat_natCast,uh ht36];rfl))
 refine qcG ?_;refine qb2 ?_;refine qax ?_;refine A0 (oCl (zcn (pairs_ok (zhc N J) x ps sides_bit (ua ht36) (by have:=sides_len (n:=N) (i:=J);omega))) rfl fn_92 yT) ?_;refine qbi ?_;refine qaM ?_;refine A0 aV ?_;refine qau ?_;refine CNQR ?_;refine qb2 ?_;refine qb2 ?_;refine A0 (ziP rfl rfl rfl (zfl)) ?_;refine qad ?_;exact zb rfl rfl (za rfl (by unfold zgt;rw[ui hin,Int.toNat_natCast,Int.toNat_natCast,ui (ua ht36),Bool.true_and,Bool.true_and]))
def zeV (c:Client) (raw:List UInt8):Client×Int :=
  if ¬zcG raw=true then (c,2)
  else if ¬(zdD raw).m=c.m∨¬(zdD raw).k=c.k then (c,1)
  else if ¬zaa (zdD raw)=0 then (c,zaa (zdD raw))
  else if c.have_=true then (if (zbg c.p (zdD raw)).2=0 then ({ c with p:=(zbg c.p (zdD raw)).1,have_:=true },0) else (c,(zbg c.p (zdD raw)).2))
  else ({ c with p:=zdD raw,have_:=true },0)
def zoi (c:Client) (who:Int):Client×Int:=if who∈c.opn then (c,10) else if 8≤c.opn.length then (c,11) else ({ c with opn:=c.opn++[who] },0)
def without (l:List Int) (who:Int):List Int:=l.filter fun x=>!decide (x=who)
def zli (c:Client) (who:Int):Client×Int:=if who∈c.opn then ({ c with opn:=without c.opn who },0) else (c,9)
def zbY (c:Client) (x:Msg):Client×Int :=
  if x.who<0∨63<x.who∨x.kind<0∨3≤x.kind then (c,1)
  else if x.kind=0 then zoi c x.who
  else if x.kind=1 then zli c x.who
  else if x.who∈c.opn then zeV c x.raw else (c,9)
def runC:Client→List Msg→Client
  | c,[]=>c
  | c,x::l=>runC (zbY c x).1 l
def runE:Client→List Msg→List Int
  | _,[]=>[]
  | c,x::l=>(zbY c x).2::runE (zbY c x).1 l
theorem zn3:∀(l m:List Msg) (c:Client),runC c (l++m)=runC (runC c l) m
  | [],_,_=>rfl
  | _::l,m,_=>zn3 l m _
theorem zn2:∀(l m:List Msg) (c:Client),runE c (l++m)=runE c l++runE (runC c l) m
  | [],_,_=>rfl
  | x::l,m,c=>by
    show(zbY c x).2::runE (zbY c x).1 (l++m)=_;rw[zn2 l m];rfl
theorem zwg:∀(l:List Msg) (c:Client),(runE c l).length=l.length
  | [],_=>rfl
  | x::l,c=>by
    show(runE (zbY c x).1 l).length+1=l.length+1;rw[zwg l]
theorem run_step {c:Client} {l:List Msg} {i:Nat} {x:Msg} (hx:l[i]?=some x):runC c (l.take (i+1))=(zbY (runC c (l.take i)) x).1∧runE c (l.take (i+1))=runE c (l.take i)++[(zbY (runC c (l.take i)) x).2]:=by
  have e:l.take (i+1)=l.take i++[x]:=by rw[un,hx];rfl
  rw[e,zn3,zn2];exact⟨rfl,rfl⟩
def ztK (c:Client) (x:Msg):Bool:=decide (¬(x.who<0∨63<x.who)∧x.kind=2∧x.who∈c.opn)&&zcG x.raw&&decide ((zdD x.raw).m=c.m∧(zdD x.raw).k=c.k∧zaa (zdD x.raw)=0)
def givesL:Client→List Msg→List Proof
  | _,[]=>[]
  | c,x::l=>(if ztK c x=true then [zdD x.raw] else [])++givesL (zbY c x).1 l
def zwV:List Proof→Proof
  | []=>zbL
  | p::r=>foldP r p
theorem held_snoc (l:List Proof) (q:Proof):zwV (l++[q])=if l=[] then q else (zbg (zwV l) q).1:=by
  cases l with
  | nil=>rfl
  | cons p r =>
    rw[ur yy];show foldP (r++[q]) p=_;unfold foldP;rw[List.foldl_append];rfl
structure Holds22 (c:Client) (all:List Proof):Prop where
  have_:c.have_ = !all.isEmpty
  p:c.p=zwV all
  ok:all≠[]→zaa c.p=0
theorem give_holds {c:Client} {x:Msg} {all:List Proof} (h:Holds22 c all):Holds22 (zbY c x).1 (all++if ztK c x=true then [zdD x.raw] else []):=by
  obtain⟨q,hq⟩:∃q,q=zdD x.raw:=⟨_,rfl⟩;by_cases g:ztK c x=true
  · rw[ut g,←hq]
    unfold ztK at g;rw[←hq,uk,uk,uj,uj] at g;obtain⟨⟨⟨g1,g2,g3⟩,g4⟩,g5,g6,g7⟩:=g;have e:zbY c x=zeV c x.raw:=by
      unfold zbY;rw[ur yc,ur yc,ur yc,ut g3]
    rw[e];unfold zeV;rw[←hq,ur (fun n=>n g4),ur (fun n=>n.elim (fun n=>n g5) (fun n=>n g6)),ur (fun n=>n g7)];by_cases hv:c.have_=true
    · rw[ut hv]
      have hne:all≠[]:=fun n=>by
        have:=h.have_
        rw[hv,n] at this;cases this
      have hp:=h.ok hne;have hs:zwV (all++[q])=(zbg c.p q).1:=by rw[held_snoc,ur hne,←h.p]
      by_cases f:(zbg c.p q).2=0
      · rw[ut f]
        exact⟨by simp,hs.symm,fun _=>(pick_holds c.p q).2 (.inl hp)⟩
      rw[ur f];have hb:¬zhZ c.p q=true:=fun n=>f (by rw[pick_4 hp g7 n])
      have hk:(zbg c.p q).1=c.p:=by rw[pick_5 hp g7 hb]
      refine⟨by show c.have_=_;rw[hv];simp,by show c.p=_;rw[hs,hk],fun _=>hp⟩
    rw[ur hv];have hn:all=[]:=by
      have:=h.have_
      rw[Bool.eq_false_iff.2 hv] at this;cases all with
      | nil=>rfl
      | cons a l=>cases this
    subst hn;exact⟨rfl,rfl,fun _=>g7⟩
  rw[ur g,List.append_nil];have e:(zbY c x).1.have_=c.have_∧(zbY c x).1.p=c.p:=by
    unfold zbY
    split
    · exact⟨rfl,rfl⟩
    rename_i a
    split
    · unfold zoi
      repeat' split
      all_goals exact⟨rfl,rfl⟩
    rename_i b
    split
    · unfold zli
      repeat' split
      all_goals exact⟨rfl,rfl⟩
    rename_i d
    split
    · rename_i f
      unfold zeV;rw[←hq]
      split
      · exact⟨rfl,rfl⟩
      rename_i a1
      split
      · exact⟨rfl,rfl⟩
      rename_i a2
      split
      · exact⟨rfl,rfl⟩
      rename_i a3;exfalso;refine g ?_;unfold ztK;rw[←hq,uk,uk,uj,uj];exact⟨⟨⟨by omega,by omega,f⟩,ua a1⟩,ua fun n=>a2 (.inl n),ua fun n=>a2 (.inr n),ua a3⟩
    exact⟨rfl,rfl⟩
  exact⟨e.1.trans h.have_,e.2.trans h.p,fun hne=>by rw[e.2];exact h.ok hne⟩
theorem ztb:∀(l:List Msg) (c:Client) (all:List Proof),Holds22 c all→Holds22 (runC c l) (all++givesL c l)
  | [],_,_,h=>by
    show Holds22 _ (_++[]);rw[List.append_nil];exact h
  | x::l,c,all,h=>by
    have:=ztb l _ _ (give_holds (x:=x) h)
    rw[List.append_assoc] at this;exact this
theorem zqy {p:Proof} (h:zaa p=0):zmt p:=by
  have hp:=zcy.1 h;refine⟨by have:=hp.l2;omega,fun x hx=>?_⟩;obtain⟨k,hk⟩:=List.mem_iff_getElem?.1 hx;obtain⟨hl,_⟩:=ul.1 hk;have e:yAt p k=x:=by unfold yAt;simp[hk]
  rw[←e];by_cases k0:k=0
  · subst k0;rw[hp.fst.2.1];exact uf _
  have:=(zfX.1 (hp.steps k yc hl).2.1).2.1;omega
def SmC (c:Client):Prop:=zmt c.p∧c.opn.length≤1000
theorem give_small {c:Client} {raw:List UInt8} (h:SmC c):SmC (zeV c raw).1:=by
  unfold zeV
  split
  · exact h
  split
  · exact h
  split
  · exact h
  rename_i d;have hq:=zqy (ua d)
  split
  · split
    · exact⟨pick_small h.1 hq,h.2⟩
    exact h
  exact⟨hq,h.2⟩
theorem step_small {c:Client} {x:Msg} (h:SmC c):SmC (zbY c x).1:=by
  unfold zbY
  split
  · exact h
  split
  · unfold zoi
    split
    · exact h
    split
    · exact h
    refine⟨h.1,?_⟩;show(c.opn++[x.who]).length≤1000;rw[ue,List.length_singleton];omega
  split
  · unfold zli
    split
    · exact⟨h.1,Nat.le_trans (List.length_filter_le _ _) h.2⟩
    exact h
  split
  · exact give_small h
  exact h
theorem zkB:∀(l:List Msg) {c:Client},SmC c→SmC (runC c l)
  | [],_,h=>h
  | _::l,_,h=>zkB l (step_small h)
def zxP (l:List Msg):Prop:=l.length≤100∧∀x∈l,x.raw.length≤1000000
theorem zwT {α:Type} {p:α→Bool}:∀{l:List α} {k:Nat},idx p l=(k:Int)→∃x,l[k]?=some x∧p x=true
  | [],k,h=>by unfold idx at h;omega
  | x::l,k,h=>by
    have hg:=ziI p l;unfold idx at h
    split at h
    · rename_i c
      have:k=0:=yc
      subst this;exact⟨x,rfl,c⟩
    split at h
    · omega
    obtain⟨j,rfl⟩:∃j,k=j+1:=⟨k-1,by omega⟩;obtain⟨y,hy,hp⟩:=zwT (p:=p) (l:=l) (k:=j) yc;exact⟨y,hy,hp⟩
def atI (c:Client) (h:Int):Int:=idx (fun x:Part=>decide (x.h.height=h)) c.p.p
def atOk (c:Client) (h:Int):Bool:=c.have_&&decide (0≤atI c h)
def atP (c:Client) (h:Int):Part:=if atOk c h=true then c.p.p.getD (atI c h).toNat zsH else zsH
theorem at_no {c:Client} {h:Int} (hn:¬atOk c h=true):atP c h=zsH:=ur hn
theorem zxE {c:Client} {h:Int} (hy:atOk c h=true):c.have_=true∧(atP c h).h.height=h∧c.p.p[(atI c h).toNat]?=some (atP c h)∧0<c.p.p.length:=by
  have hy':=hy;unfold atOk at hy';rw[uk,uj] at hy';obtain⟨h1,h2⟩:=hy';obtain⟨x,hx,hp⟩:=zwT (p:=fun x:Part=>decide (x.h.height=h)) (l:=c.p.p) (k:=(atI c h).toNat) (by rw[Int.toNat_of_nonneg h2];rfl);have e:atP c h=x:=by unfold atP;rw[ut hy];simp[hx]
  rw[e];obtain⟨hl,_⟩:=ul.1 hx;exact⟨h1,by simpa using hp,hx,by omega⟩
def zuK (c:Client) (h n i:Int) (tx:Ab.Id) (path:List Ab.Id):Bool:=atOk c h&&(decide (h≤IntKind.i64.wrap ((c.p.p.getD (c.p.p.length-1) zsH).h.height-c.k))&&zgt (atP c h).h.txs n i tx path)
theorem zvT {l:List Int} {w:Int}:(l.any fun x=>decide (w=x))=decide (w∈l):=by
  rw[Bool.eq_iff_iff,List.any_eq_true,uj]
  constructor
  · rintro ⟨x,hx,e⟩;rw[uj] at e;rw[e];exact hx
  intro h;exact⟨w,h,by simp⟩
def newC (m k:Int):Client:=⟨m,k,[],false,zbL⟩
theorem new_holds (m k:Int):Holds22 (newC m k) []:=⟨rfl,rfl,fun h=>absurd rfl h⟩
theorem ziB (m k:Int):SmC (newC m k):=⟨⟨show(0:Nat)≤110 by decide,fun x hx=>by cases hx⟩,show(0:Nat)≤1000 by decide⟩
theorem zkv (c:Client):zdL zaK c [.val i64T c.m,.val i64T c.k,.val (sl i64T) c.opn,.val zm c.have_,.val i64T c.p.m,.val i64T c.p.k,.val (sl zbl) c.p.p]:=zkt (zaB zaz (zaB zaz (zaB zaz (zaB zaz (zkt (zaB zaz (zaB zaz zaz)))))))
theorem ztB (c:Client):zpu zaK c [.val i64T c.m,.val i64T c.k,.val (sl i64T) c.opn,.val zm c.have_,.val i64T c.p.m,.val i64T c.p.k,.val (sl zbl) c.p.p]:=zkX (zb6 zbV (zb6 zbV (zb6 zbV (zb6 zbV (zkX (zb6 zbV (zb6 zbV zbV)))))))
def zjG (m k:Int):Bool:=decide (1≤m∧m≤20∧1≤k∧k≤20)
def newR (m k:Int):Client:=if 1≤m∧m≤20∧1≤k∧k≤20 then newC m k else zf6
theorem zxw (l:List Int) (hl:l.length*8≤140737488355328∧l.length≤9223372036854775807):Tells P 106 [.val (bsl i64T) l] (.fresh 3 i64T l):=by
 refine zc Tryz.func106 rfl rfl rfl (fun ext w hext=>?_);refine ze (d:=0) rfl zk (fun hsl0=>?_);refine qaq ?_;refine qbg ?_;refine zfS rfl rfl rfl rfl rfl zcX (fun c4 hc4=>?_);refine CN ?_;refine zn (p:=c4=true) rfl yy (fun ht4=>?_) (fun ht4=>?_)
 ·
  obtain rfl:=hc4 ht4;refine qaq ?_;refine CN ?_;exact zb rfl rfl (zp rfl)
 refine CSQR ?_;refine zce (T:=i64T) (xs:=[]) rfl rfl rfl rfl zbR zeo trivial rfl rfl ?_;refine qax ?_;refine zF rfl rfl rfl rfl rfl rfl rfl zeo yaz ?_;refine qbm ?_;exact zb rfl rfl (zh rfl rfl yy)
theorem equalInt (l m:List Int):Tells P 82 [.val (bsl i64T) l,.val (bsl i64T) m] (.val zm (decide (l=m))):=by
 refine zc Tryz.func82 rfl rfl rfl (fun ext w hext=>?_);refine ze (d:=0) rfl zk (fun hsl0=>?_);refine ze (d:=1) rfl zk (fun hsl1=>?_);refine qcw ?_;refine qbt ?_;refine qax ?_;refine qbt ?_;refine qbk ?_;refine Cf (p:=¬l.length=m.length) (fun ht10=>?_) (fun ht10=>?_)
 ·
  refine qas ?_;exact zb rfl rfl (za rfl (uh (fun e=>ht10 (by rw[e]))).symm)
 refine qbM ?_;refine qbt ?_;refine qa2 ?_;refine Lp (ι:=Nat) 0 (fun (k:Nat)=>((((Fr.none).set 0 (.val (bsl i64T) l)).set 1 (.val (bsl i64T) m)).set 12 (.val i64T (l.length:Int))).set 13 (.val i64T (k:Int))) (fun (k:Nat)=>Hp.none) (fun (k:Nat)=>k≤l.length∧l.take k=m.take k) (fun (k:Nat)=>l.length-k) (0) (⟨uf _,by simp⟩) ?_;intro k hinv;refine qak ?_;refine Cf (p:=k<l.length) (fun ht14=>?_) (fun ht14=>?_)
 ·
  obtain⟨x,hx⟩:∃x,l[k]?=some x:=⟨_,ub ht14⟩;obtain⟨y,hy⟩:∃y,m[k]?=some y:=yv;refine qaE ?_;refine qbI ?_;refine qbY ?_;refine G0 (zby rfl rfl rfl zbR yh) ?_;refine G0 (zg rfl rfl ty_3) ?_;refine qbY ?_;refine G0 (zby rfl rfl rfl zbR yh) ?_;refine G0 (zg rfl rfl ty_3) ?_;refine G0 zdQ ?_;refine GK.nil ?_;refine zn (p:=¬x=y) rfl yH (fun ht24=>?_) (fun ht24=>?_)
  ·
   refine qas ?_;exact zb rfl rfl (za rfl (uh (zhH hx hy ht24)).symm)
  refine qaZ ?_;exact Nx (k+1) (⟨by omega,zdc hx hy hinv.2 (by simpa using ht24)⟩) yc
 refine qcn ?_;exact zb rfl rfl (za rfl (ui yO).symm)
theorem zrS (l:List Part) (p:Part→Bool):Tells P 78 [.val (bsl zbl) l,.fn1 P zbl zm p] (.val i64T (idx p l)):=by
 refine zc Tryz.func78 rfl rfl rfl (fun ext w hext=>?_);refine ze (d:=0) rfl zk (fun hsl0=>?_);refine qcw ?_;refine xL ?_;refine qa2 ?_;refine Lp (ι:=Nat) 0 (fun (k:Nat)=>(((((Fr.none).set 0 (.val (bsl zbl) l)).set 1 (.fn1 P zbl zm p)).set 6 (.val (bsl zbl) l)).set 7 (.val i64T (l.length:Int))).set 8 (.val i64T (k:Int))) (fun (k:Nat)=>Hp.none) (fun (k:Nat)=>k≤l.length∧idx p l=shift k (idx p (l.drop k))) (fun (k:Nat)=>l.length-k) (0) (⟨uf _,zdl p l⟩) ?_;intro k hinv;refine qak ?_;refine Cf (p:=k<l.length) (fun ht9=>?_) (fun ht9=>?_)
 ·
  obtain⟨x,hx⟩:∃x,l[k]?=some x:=ybc;refine qaE ?_;refine qaz ?_;refine A0 mF ?_;refine qao ?_;refine qbP ?_;refine qaH ?_;refine zn (p:=p x=true) rfl yy (fun ht16=>?_) (fun ht16=>?_)
  ·
   refine qbK ?_;exact zb rfl rfl (za rfl (hinv.2.trans (zhJ hx ht16)).symm)
  refine qaZ ?_;exact Nx (k+1) (⟨by omega,hinv.2.trans (zk0 hx ht16)⟩) yc
 refine qcn ?_;exact zb rfl rfl (za rfl (hinv.2.trans (zhK yc)).symm)
theorem indexInt (l:List Int) (v:Int):Tells P 252 [.val (bsl i64T) l,.val i64T v] (.val i64T (idx (fun x=>decide (v=x)) l)):=by
 refine zc Tryz.func252 rfl rfl rfl (fun ext w hext=>?_);refine ze (d:=0) rfl zk (fun hsl0=>?_);refine ze (d:=1) rfl zt (fun hin1=>?_);refine qcw ?_;refine qbt ?_;refine qa2 ?_;refine Lp (ι:=Nat) 0 (fun (k:Nat)=>(((((Fr.none).set 0 (.val (bsl i64T) l)).set 1 (.val i64T v)).set 6 (.val (bsl i64T) l)).set 7 (.val i64T (l.length:Int))).set 8 (.val i64T (k:Int))) (fun (k:Nat)=>Hp.none) (fun (k:Nat)=>k≤l.length∧idx (fun x=>decide (v=x)) l=shift k (idx (fun x=>decide (v=x)) (l.drop k))) (fun (k:Nat)=>l.length-k) (0) (⟨uf _,zdl _ l⟩) ?_;intro k hinv;refine qak ?_;refine Cf (p:=k<l.length) (fun ht9=>?_) (fun ht9=>?_)
 ·
  obtain⟨x,hx⟩:∃x,l[k]?=some x:=ybc;refine qaE ?_;refine qag ?_;refine qao ?_;refine qc3 ?_;refine A0 zbZ ?_;refine CN ?_;refine zn (p:=(decide (v=x))=true) rfl yH (fun ht16=>?_) (fun ht16=>?_)
  ·
   refine qbK ?_;exact zb rfl rfl (za rfl (hinv.2.trans (zhJ hx ht16)).symm)
  refine qaZ ?_;exact Nx (k+1) (⟨by omega,hinv.2.trans (zk0 hx ht16)⟩) yc
 refine qcn ?_;exact zb rfl rfl (za rfl (hinv.2.trans (zhK yc)).symm)
theorem zke (l:List Int) (v:Int):Tells P 197 [.val (bsl i64T) l,.val i64T v] (.val zm (l.any fun x=>decide (v=x))):=by
 refine zc Tryz.func197 rfl rfl rfl (fun ext w hext=>?_);refine ze (d:=0) rfl zk (fun hsl0=>?_);refine ze (d:=1) rfl zt (fun hin1=>?_);refine qbJ ?_;refine qax ?_;refine A0 (oCl (indexInt _ _) rfl fn_252 yl) ?_;refine A0 zfd ?_;refine qad ?_;exact zb rfl rfl (za rfl (zhL _ l))
theorem zok (m k:Int):Tells P 14 [.val i64T m,.val i64T k] (.tup2 (.val zaK (newR m k)) (.val zm (zjG m k))):=by
 refine zc Tryz.func14 rfl rfl rfl (fun ext w hext=>?_);refine ze (d:=0) rfl zt (fun hin0=>?_);refine ze (d:=1) rfl zt (fun hin1=>?_);refine CQR ?_;refine qbW ?_;refine qaj ?_;refine A0 zb2 ?_;refine qax ?_;refine Sp (d:=8) (p:=m<1) (fun g8=>?_) (fun g8=>?_)
 ·
  refine qaX ?_;refine A2 ?_;refine qal ?_;refine A2 ?_;refine qco ?_;refine Ct ?_;refine CQR ?_;refine A0 (zC rfl ze_29 bd_29 .nil rfl) ?_;refine qar ?_;refine qad ?_;exact zq rfl rfl (zl rfl rfl zdk ybh) (zT (za rfl (ybj)))
 refine qck ?_;refine qal ?_;refine Sp (d:=12) (p:=20<m) (fun g12=>?_) (fun g12=>?_)
 ·
  refine qaX ?_;refine qco ?_;refine Ct ?_;refine CQR ?_;refine A0 (zC rfl ze_29 bd_29 .nil rfl) ?_;refine qar ?_;refine qad ?_;exact zq rfl rfl (zl rfl rfl zdk ybh) (zT (za rfl (ybj)))
 refine A1 mV ?_;refine A1 zb2 ?_;refine qal ?_;refine Sp (d:=16) (p:=k<1) (fun g16=>?_) (fun g16=>?_)
 ·
  refine A2 ?_;refine qco ?_;refine Ct ?_;refine CQR ?_;refine A0 (zC rfl ze_29 bd_29 .nil rfl) ?_;refine qar ?_;refine qad ?_;exact zq rfl rfl (zl rfl rfl zdk ybh) (zT (za rfl (ybj)))
 refine qck ?_;refine qaw ?_;refine Cf (p:=20<k) (fun ht19=>?_) (fun ht19=>?_)
 ·
  refine CQR ?_;refine A0 (zC rfl ze_29 bd_29 .nil rfl) ?_;refine qar ?_;refine qad ?_;exact zq rfl rfl (zl rfl rfl zdk ybh) (zT (za rfl (ybj)))
 refine CSQR ?_;refine qao ?_;refine A0 (zC rfl ze_29 bd_29 (.cons zr2 zmm ty_3 rfl (.cons zoO zjD ty_3 rfl .nil)) rfl) ?_;refine qar ?_;refine qad ?_;exact zq rfl rfl (zl rfl rfl zdk (by unfold newR;rw[ut yc];rfl)) (zT (za rfl ((by unfold zjG;rw[ui yc]))))
theorem sameC22_ok (a b:Client):Tells P 30 [.val zaK a,.val zaK b] (.val zm (decide (a=b))):=by
 refine zc Tryz.func30 rfl rfl rfl (fun ext w hext=>?_);refine qay ?_;refine qaz ?_;refine A0 (oFp zr2) ?_;refine A0 (oLb zmm ty_3) ?_;refine A0 (oFp zr2) ?_;refine A0 (oLb zmm ty_3) ?_;refine A0 zbZ ?_;refine qax ?_;refine zaP (d:=10) (p:=a.m=b.m) rfl yH (fun g10=>?_) (fun g10=>?_)
 ·
  refine A1 (oFp zoO) ?_;refine A1 (oLb zjD ty_3) ?_;refine A1 (oFp zoO) ?_;refine A1 (oLb zjD ty_3) ?_;refine A1 zbZ ?_;refine qal ?_;refine zaP (d:=17) (p:=a.k=b.k) rfl yH (fun g17=>?_) (fun g17=>?_)
  ·
   refine A1 (oFp ziU) ?_;refine A1 (oLb zdU ty_4) ?_;refine A1 (oFp ziU) ?_;refine A1 (oLb zdU ty_4) ?_;refine A1 (g_eqlB rfl rfl rfl ub_4) ?_;refine qal ?_;refine zaP (d:=24) (p:=a.have_=b.have_) rfl (by first|rfl|(cases a.have_<;>cases b.have_<;>rfl)) (fun g24=>?_) (fun g24=>?_)
   ·
    refine A1 (oFp zeC) ?_;refine A1 (oLb zmP zen) ?_;refine A1 (oFp zeC) ?_;refine A1 (oLb zmP zen) ?_;refine A1 (oCl (equalInt a.opn b.opn) rfl fn_82 yl) ?_;refine qal ?_;refine Sp (d:=31) (p:=a.opn=b.opn) (fun g31=>?_) (fun g31=>?_)
    ·
     refine A1 (oFp zci) ?_;refine A1 (oLb zel zaR) ?_;refine A1 (oFp zci) ?_;refine A1 (oLb zel zaR) ?_;refine A1 (oCl (sameP_ok a.p b.p) rfl fn_18 yl) ?_;refine qaI ?_;exact zb rfl rfl (za rfl (yag))
    refine qb7 ?_;refine A2 ?_;refine qaI ?_;exact zb rfl rfl (za rfl ((by symm;apply uh;intro h;exact g31 (by rw[h]))))
   refine qb7 ?_;refine qav ?_;refine A2 ?_;refine qaI ?_;exact zb rfl rfl (za rfl ((by symm;apply uh;intro h;exact g24 (by rw[h]))))
  refine qb7 ?_;refine qav ?_;refine qav ?_;refine A2 ?_;refine qaI ?_;exact zb rfl rfl (za rfl ((by symm;apply uh;intro h;exact g17 (by rw[h]))))
 refine qb7 ?_;refine qav ?_;refine qav ?_;refine qav ?_;refine A2 ?_;refine qaI ?_;exact zb rfl rfl (za rfl ((by symm;apply uh;intro h;exact g10 (by rw[h]))))
theorem atFn_ok (h:Int) (x:Part):Tells P 79 [.val zbl x,.rptr i64T h] (.val zm (decide (x.h.height=h))):=by
 refine zc Tryz.func79 rfl rfl rfl (fun ext w hext=>?_);refine qae ?_;refine qaz ?_;refine A0 (oFp zbk) ?_;refine A0 (oFp zcR) ?_;refine A0 (oLb (zaU.comp zar) ty_3) ?_;refine qbL ?_;refine A0 zbZ ?_;refine qad ?_;exact zb rfl rfl (za rfl yH)
theorem zss (c:Client) (h:Int) (hc:SmC c):Tells P 26 [.val zaK c,.val i64T h] (.tup2 (.val zbl (atP c h)) (.val zm (atOk c h))):=by
 have hge:=ziI (fun x:Part=>decide (x.h.height=h)) c.p.p;have hit:atI c h=idx (fun x:Part=>decide (x.h.height=h)) c.p.p:=rfl;refine zc Tryz.func26 rfl rfl rfl (fun ext w hext=>?_);refine ze (d:=1) rfl zt (fun hin1=>?_);refine qay ?_;refine zs zpx rfl rfl rfl rfl ?_;refine qaz ?_;refine A0 (oFp zci) ?_;refine A0 (oFp zat) ?_;refine A0 (oLb (zel.comp zau) zcm) ?_;refine xi ?_;refine A0 (oCl (zrS c.p.p (fun x=>decide (x.h.height=h))) rfl fn_78 ⟨yo,(by first|exact zdJ (Cs:=[_]) rfl fn_79 yk ybO rfl (fun x=>atFn_ok h x)|exact zdI (Cs:=[_]) rfl fn_79 yk ybO rfl (fun x y=>atFn_ok h x)|exact zdK rfl),trivial⟩) ?_;refine qbS ?_;refine A0 (oFp ziU) ?_;refine A0 (oLb zdU ty_4) ?_;refine A0 oN ?_;refine qax ?_;refine zaP (d:=16) (p:=¬c.have_=true) rfl yy (fun g16=>?_) (fun g16=>?_)
 ·
  refine A2 ?_;refine qco ?_;refine Ct ?_;refine CQR ?_;refine A0 (zC rfl zpx bd_72 .nil rfl) ?_;refine xd ?_;refine qad ?_;exact zq rfl rfl (zl rfl rfl zga ((at_no (fun h=>by unfold atOk at h;rw[uk] at h;exact g16 h.1)).symm)) (zT (za rfl (by symm;unfold atOk;simp[g16])))
 refine A1 mV ?_;refine A1 zb2 ?_;refine qaw ?_;refine zn (p:=atI c h<0) rfl (by rw[hit,uo];simp only[IntL.toI,id_eq]) (fun ht19=>?_) (fun ht19=>?_)
 ·
  refine CQR ?_;refine A0 (zC rfl zpx bd_72 .nil rfl) ?_;refine xd ?_;refine qad ?_;exact zq rfl rfl (zl rfl rfl zga ((at_no (fun hh=>by unfold atOk at hh;rw[uk,uj] at hh;omega)).symm)) (zT (za rfl (by symm;unfold atOk;rw[uh yc,Bool.and_false])))
 have hyo:atOk c h=true:=by unfold atOk;rw[ua g16,Bool.true_and,uj];omega
 have hya:=zxE hyo;have hyi:=hya.2.2.1;refine zj (d:=6) (y:=(((atI c h).toNat:Nat):Int)) rfl (by rw[Int.toNat_of_nonneg yc];rfl) ?_;refine CSQR ?_;refine A0 (oFp zci) ?_;refine A0 (oFp zat) ?_;refine A0 (oLb (zel.comp zau) zcm) ?_;refine qax ?_;refine A0 (zK (i:=(atI c h).toNat) rfl rfl rfl yc zfE yh) ?_;refine A0 (zg rfl rfl zga) ?_;refine qa1 ?_;refine CNQR ?_;refine A0 (oFp zbA) ?_;refine A0 (oLb za4 za5) ?_;refine A0 (oCl (zu (zg3 (atP c h).l (by have:=hc.1.2 _ (ud hya.2.2.1);constructor<;>omega))) rfl zpS yf) ?_;refine A0 (oFp zbA) ?_;refine zf rfl rfl rfl rfl rfl za4 za5 rfl ?_;refine CNQR ?_;refine A0 (oLs rfl rfl rfl zga) ?_;refine xd ?_;refine qad ?_;exact zq rfl rfl (zl rfl rfl zga (rfl)) (zT (za rfl (hyo.symm)))
theorem zcW (c:Client) (hc:SmC c):Tells P 48 [.val zaK c] (.val zaK c):=by
 have hc1:=hc.1.1;have hc2:=hc.2;refine zc Tryz.func48 rfl rfl rfl (fun ext w hext=>?_);refine qae ?_;refine qbW ?_;refine CN ?_;refine zdd 0 (x:=c) (zkv c) rfl ?_;refine CQ ?_;refine zx [some 1,some 1,none,some 2,some 2,some 2,none,some 2,none,some 1,some 1,none] mixed ye ?_;refine X0 (oFp zeC) ?_;refine X0 (zy rfl rfl rfl rfl rfl zen) ?_;refine XK.e (fun fr' hfr kk H=>by exact zaD (zxw c.opn yU) rfl fn_106 ⟨(zd ((hfr 6 ye).trans rfl)),trivial⟩ rfl rfl rfl (zr H)) ?_;refine XK.g2 (zcI rfl rfl zci rfl) (zcI rfl rfl zci rfl) rfl rfl rfl ?_;refine XK.g2 (zcI rfl rfl zat rfl) (zcI rfl rfl zat rfl) rfl rfl rfl ?_;refine XK.gb (t:=9) rfl rfl (fun _ he=>zy rfl rfl he rfl rfl zcm) rfl ybS rfl rfl rfl ?_;refine XK.e (fun fr' hfr kk H=>by exact zaD (zo9 c.p.p yU) rfl fn_107 ⟨(zd ((hfr 10 ye).trans rfl)),trivial⟩ rfl rfl rfl (zr H)) ?_;refine XK.g2 (zcI rfl rfl zeC rfl) (zcI rfl rfl zeC rfl) rfl rfl rfl ?_;refine XK.e (x:=.idk) (fun fr' hfr kk H=>by exact zZ rfl rfl rfl ((hfr 12 ye).trans rfl) rfl rfl ((hfr 7 ye).trans rfl) rfl rfl rfl zen (zr H)) ?_;refine X0 (oFp zci) ?_;refine X0 (oFp zat) ?_;refine XK.e (x:=.idk) (fun fr' hfr kk H=>by exact zZ rfl rfl rfl ((hfr 14 ye).trans rfl) rfl rfl ((hfr 11 ye).trans rfl) rfl rfl rfl zcm (zr H)) ?_;refine xf ?_;refine CQQR ?_;refine A0 (oFp zci) ?_;refine qcy ?_;refine Lp (ι:=Nat) 4 (fun i=>((((Fr.none.set 1 (.ptr 0 0)).set 2 (.ptr 1 0)).set 17 (.own 3)).set 18 (.val i64T (c.p.p.length:Int))).set 19 (.val i64T (i:Int))) (fun i=>(((Hp.none.set 0 (.parts 29 [.val i64T c.m,.val i64T c.k,.own 2,.val zm c.have_,.val i64T c.p.m,.val i64T c.p.k,.own 3])).set 1 (.box 29 zaK zf6)).set 2 (.row 3 i64T c.opn)).set 3 (.row 72 zbl c.p.p)) (fun i=>i≤c.p.p.length) (fun i=>c.p.p.length-i) (0) (uf _) ?_;intro i hinv;refine qak ?_;refine Cf (p:=i<c.p.p.length) (fun ht20=>?_) (fun ht20=>?_)
 ·
  obtain⟨x,hx⟩:∃x,c.p.p[i]?=some x:=⟨_,ub ht20⟩;refine qaE ?_;refine A0 (zcs (i:=i) rfl rfl rfl rfl yn zfE yg) ?_;refine qbv ?_;refine xo ?_;refine X0 (oFp zci) ?_;refine qbz ?_;refine X0 mV ?_;refine X0 (oFp zbA) ?_;refine X0 (oLb za4 za5) ?_;refine X0 (oCl (zu (zg3 x.l (by have:=hc.1.2 x (ud hx);constructor<;>omega))) rfl zpS yf) ?_;refine X0 (zcs (i:=i) rfl rfl rfl rfl yn zfE yg) ?_;refine X0 (zoD rfl rfl zbA rfl) ?_;refine XK.e (x:=.idk) (fun fr' hfr kk H=>by exact zcM rfl rfl rfl ((hfr 32 ye).trans rfl) rfl rfl yh za4 za5 ((hfr 30 ye).trans rfl) (zr H)) ?_;refine qaJ ?_;refine zA (n:=3) (y:=c.p.p) rfl (zrl hx) ?_;exact Nx (i+1) yc yc
 refine CE ?_;refine CQ ?_;refine ze0 0 2 (pre:=[.val i64T c.m,.val i64T c.k]) rfl rfl rfl ?_;refine ze0 0 3 (pre:=[.val i64T c.m,.val i64T c.k,.val (sl i64T) c.opn,.val zm c.have_,.val i64T c.p.m,.val i64T c.p.k]) rfl rfl rfl ?_;refine aw_joina 0 (ztB c) rfl ?_;refine CR ?_;refine qba ?_;refine qar ?_;refine CN ?_;exact zag rfl rfl rfl rfl zdk (rfl)
theorem sure22_ok (c:Client) (h n i:Int) (tx:Ab.Id) (path:List Ab.Id) (hc:SmC c):Tells P 40 [.val zaK c,.val i64T h,.val i64T n,.val i64T i,.val idT tx,.val (bsl idT) path] (.val zm (zuK c h n i tx path)):=by
 have hc1:=hc.1.1;refine zc Tryz.func40 rfl rfl rfl (fun ext w hext=>?_);refine ze (d:=1) rfl zt (fun hin1=>?_);refine ze (d:=2) rfl zt (fun hin2=>?_);refine ze (d:=3) rfl zt (fun hin3=>?_);refine ze (d:=5) rfl zk (fun hsl5=>?_);refine qay ?_;refine qaz ?_;refine qba ?_;refine qax ?_;refine A0 (oCl (zss c h hc) rfl fn_26 yl) ?_;refine qbi ?_;refine qa1 ?_;refine qaj ?_;refine qaL ?_;refine zn (p:=¬atOk c h=true) rfl yy (fun ht23=>?_) (fun ht23=>?_)
 ·
  refine qas ?_;exact zb rfl rfl (za rfl (by symm;unfold zuK;simp[ht23]))
 have hyo:=ua ht23;have hya:=zxE hyo;obtain⟨y,hy⟩:∃y,c.p.p[c.p.p.length-1]?=some y:=⟨_,ub (by have:=hya.2.2.2;omega)⟩;have hlast:c.p.p.getD (c.p.p.length-1) zsH=y:=ybl;refine CSQR ?_;refine A0 (oFp zci) ?_;refine A0 (oFp zat) ?_;refine A0 (oLb (zel.comp zau) zcm) ?_;refine A0 (oFp zci) ?_;refine A0 (oFp zat) ?_;refine A0 (oLb (zel.comp zau) zcm) ?_;refine xL ?_;refine A0 zbb ?_;refine A0 (zK (i:=c.p.p.length-1) rfl rfl rfl yc zfE yh) ?_;refine A0 (zg rfl rfl zga) ?_;refine qa1 ?_;refine CNQR ?_;refine qax ?_;refine A0 (oFp zbk) ?_;refine A0 (oFp zcR) ?_;refine A0 (oLb (zaU.comp zar) ty_3) ?_;refine A0 (oFp zoO) ?_;refine A0 (oLb zjD ty_3) ?_;refine A0 (zj5 rfl rfl rfl (show _=(IntKind.i64.wrap (y.h.height-c.k):Int) from rfl)) ?_;refine A0 zih ?_;refine qax ?_;refine Sp (d:=42) (p:=h≤IntKind.i64.wrap (y.h.height-c.k)) (fun g42=>?_) (fun g42=>?_)
 ·
  refine A1 (oFp zbk) ?_;refine A1 (oFp ziT) ?_;refine A1 (oLb (zaU.comp zf3) zaj) ?_;refine qca ?_;refine A1 (oLs rfl rfl rfl zaj) ?_;refine A1 mV ?_;refine A1 (oCl (checkTr_ok (atP c h).h.txs n i tx path) rfl fn_41 ⟨yo,yo,yo,yo,yo,trivial⟩) ?_;refine qaI ?_;exact zb rfl rfl (za rfl (by unfold zuK;rw[hyo,hlast,ui g42];simp))
 refine qac ?_;refine qb7 ?_;refine A2 ?_;refine qaI ?_;exact zb rfl rfl (za rfl (by unfold zuK;rw[hyo,hlast,uh g42];simp))
structure DelOk (l R:List Int) (who:Int) (j:Nat):Prop where
  len:R.length=l.length
  lt:(without (l.take j) who).length<j
  front:R.take (without (l.take j) who).length=without (l.take j) who
  back:R.drop j=l.drop j
theorem zuF {l:List Int} {j:Nat} {x who:Int} (hx:l[j]?=some x):without (l.take (j+1)) who=without (l.take j) who++if x=who then [] else [x]:=by
  unfold without;rw[un,hx,List.filter_append];congr 1;show [x].filter _=_;rw[List.filter_cons];by_cases c:x=who
  · simp[c]
  simp[c]
theorem wo_none {who:Int}:∀{l:List Int},¬who∈l→without l who=l:=fun {l} h=>by
  unfold without;refine List.filter_eq_self.2 fun x hx=>?_
  simp only[Bool.not_eq_true',decide_eq_false_iff_not];intro e;rw[e] at hx;exact h hx
theorem zqw {who:Int}:∀{l:List Int} {k:Nat},idx (fun x=>decide (x=who)) l=(k:Int)→¬who∈l.take k
  | [],k,h=>by simp
  | x::l,k,h=>by
    have hg:=ziI (fun x=>decide (x=who)) l;unfold idx at h
    split at h
    · have:k=0:=by omega
      subst this;simp
    rename_i c
    split at h
    · omega
    obtain⟨j,rfl⟩:∃j,k=j+1:=⟨k-1,by omega⟩
    have:=zqw (who:=who) (l:=l) (k:=j) yc
    rw[List.take_succ_cons,List.mem_cons]
    rintro (e|h2)
    · exact c (by simp[e])
    exact this h2
theorem idx_mem {who:Int} {l:List Int} (h:who∈l):¬idx (fun x=>decide (x=who)) l = -1:=fun e=>by
  have:=zhL (fun x=>decide (x=who)) l
  rw[e] at this;have h2:(l.any fun x=>decide (x=who))=true:=List.any_eq_true.2 ⟨who,h,by simp⟩;rw[h2] at this;simp at this
theorem del_start {l:List Int} {who:Int} {k:Nat} {x:Int} (hx:l[k]?=some x) (hw:x=who) (hk:idx (fun x=>decide (x=who)) l=(k:Int)):DelOk l l who (k+1)∧(without (l.take (k+1)) who).length=k:=by
  obtain⟨hl,_⟩:=ul.1 hx;have e:without (l.take (k+1)) who=l.take k:=by rw[zuF hx,ut hw,List.append_nil,wo_none (zqw hk)]
  have e2:(without (l.take (k+1)) who).length=k:=by rw[e,um];omega
  exact⟨⟨rfl,by omega,by rw[e2,e],rfl⟩,e2⟩
theorem del_at {l R:List Int} {who:Int} {j:Nat} (h:DelOk l R who j):R[j]?=l[j]?:=by
  have:=congrArg (·[0]?) h.back
  simpa using this
theorem del_keep {l R:List Int} {who:Int} {j:Nat} {x:Int} (h:DelOk l R who j) (hx:l[j]?=some x) (hn:¬x=who):DelOk l (R.set (without (l.take j) who).length x) who (j+1)∧(without (l.take (j+1)) who).length=(without (l.take j) who).length+1:=by
  obtain⟨hl,_⟩:=ul.1 hx;have e:without (l.take (j+1)) who=without (l.take j) who++[x]:=by rw[zuF hx,ur hn]
  have e2:(without (l.take (j+1)) who).length=(without (l.take j) who).length+1:=by rw[e,ue];rfl
  have h1:=h.len;have h2:=h.lt;refine⟨⟨by rw[List.length_set];exact h1,by omega,?_,?_⟩,e2⟩
  · rw[e2,un,List.getElem?_set_self yc,e]
    rw[List.take_set_of_le (ug _),h.front];rfl
  rw[List.drop_set_of_lt yc,←List.drop_drop,h.back,List.drop_drop]
theorem del_skip {l R:List Int} {who:Int} {j:Nat} {x:Int} (h:DelOk l R who j) (hx:l[j]?=some x) (hn:x=who):DelOk l R who (j+1)∧(without (l.take (j+1)) who).length=(without (l.take j) who).length:=by
  have e:without (l.take (j+1)) who=without (l.take j) who:=by rw[zuF hx,ut hn,List.append_nil]
  have h2:=h.lt;exact⟨⟨h.len,by rw[e];omega,by rw[e];exact h.front,by rw[←List.drop_drop,h.back,List.drop_drop]⟩,by rw[e]⟩
theorem del_end {l R:List Int} {who:Int} {j:Nat} (h:DelOk l R who j) (hj:l.length≤j) (z:List Int):(R.take (without l who).length++z).take (without l who).length=without l who:=by
  have e:l.take j=l:=uc hj;have hf:=h.front;rw[e] at hf;have h2:=List.length_filter_le (fun x=>!decide (x=who)) l;have h1:=h.len;rw[List.take_append_of_le_length (by rw[um];unfold without;omega),List.take_take,Nat.min_self,hf]
def workZ:Array Value:=#[.int .i64 0,.int .i64 0,.slice none 0 0,.bool false,.int .i64 0,.int .i64 0,.slice none 0 0,.int .i64 0,.int .i64 0,.slice none 0 0]
theorem run_work {o:Oper} {y0 y1:Operand} (ho:o.op = .build 157 #[(0,y0),(1,y1)]) (e:Operand→Value) (w:World) (h:([y0,y1].map fun y=>(e y).cells.size)=[7,3]):(execOp e o).run P w = .ok (.value (.agg ([y0,y1].flatMap fun y=>(e y).cells.toList).toArray)) w :=
  run_build2 (z:=workZ) (fun w=>by kernel_rfl) yr yr yr ho e w h
theorem split_msg (kd who:Int) (raw:List UInt8):zdL msgT (⟨kd,who,raw⟩:Msg) [.val i64T kd,.val i64T who,.val (sl u8T) raw]:=zkt (zaB zaz (zaB zaz zaz))
theorem zvi (p:Proof):zpu zac p [.val i64T p.m,.val i64T p.k,.val (sl zbl) p.p]:=zkX (zb6 zbV (zb6 zbV zbV))
theorem ztC (m k:Int) (o:List Int) (h:Bool) (p:Proof):zpu zaK (⟨m,k,o,h,p⟩:Client) [.val i64T m,.val i64T k,.val (sl i64T) o,.val zm h,.val zac p]:=zkX (zb6 zbV (zb6 zbV (zb6 zbV (zb6 zbV zbV))))
theorem any_mem' {l:List Int} {w:Int}:decide (w∈l)=(l.any fun x=>decide (w=x)):=zvT.symm
theorem zsu {l:List Int} {w:Int}:decide (¬w∈l) = !(l.any fun x=>decide (w=x)):=by rw[zvT];simp
theorem zgH {c:Client} {kd who:Int} {raw:List UInt8} (h:who<0∨63<who∨kd<0∨3≤kd):zbY c ⟨kd,who,raw⟩=(c,1):=by unfold zbY;exact ut h
theorem zbd {c:Client} {kd who:Int} {raw:List UInt8} (h:¬(who<0∨63<who∨kd<0∨3≤kd)):zbY c ⟨kd,who,raw⟩=if kd=0 then zoi c who else if kd=1 then zli c who else if who∈c.opn then zeV c raw else (c,9):=by
  have e:zbY c ⟨kd,who,raw⟩=if who<0∨63<who∨kd<0∨3≤kd then (c,1) else if kd=0 then zoi c who else if kd=1 then zli c who else if who∈c.opn then zeV c raw else (c,9):=rfl
  rw[e,ur h]
theorem wo_short {l:List Int} {who:Int} (h:who∈l):(without l who).length<l.length:=by
  unfold without;exact List.length_filter_lt_length_iff_exists.2 ⟨who,h,by simp⟩
theorem step22_ok (c:Client) (x:Msg) (hc:SmC c) (hr:x.raw.length≤1000000000):Tells P 31 [.val zaK c,.val msgT x] (.tup2 (.val zaK (zbY c x).1) (.val i64T (zbY c x).2)):=by
 obtain⟨kd,who,raw⟩:=x;have hraw:raw.length≤1000000000:=hr;have hc1:=hc.1.1;have hc2:=hc.2;refine zc Tryz.func31 rfl rfl rfl (fun ext w hext=>?_);refine qay ?_;refine qbW ?_;refine qaz ?_;refine A0 (zrY (xs:=[_,_,_]) rfl zxJ ze_155 ⟨rfl,⟨_,rfl,rfl⟩,rfl,⟨_,rfl,rfl⟩,rfl,⟨_,rfl,rfl⟩,trivial⟩ rfl) ?_;refine zs ze_155 rfl rfl rfl rfl ?_;refine zf rfl rfl rfl rfl rfl (Lens.self _) ty_155 rfl ?_;refine CNQQR ?_;refine A0 (oFp zhS) ?_;refine A0 (oLb zja ty_3) ?_;refine A0 zb2 ?_;refine Sp (d:=12) (p:=who<0) (fun g12=>?_) (fun g12=>?_)
 ·
  refine qax ?_;refine qac ?_;refine qbd ?_;refine qbd ?_;refine qaw ?_;refine Ct ?_;refine CQR ?_;refine qba ?_;refine xQ ?_;refine qar ?_;refine qad ?_;exact zq rfl rfl (zl rfl rfl zdk yaD) (zT (za rfl yaD))
 refine qax ?_;refine A1 (oFp zhS) ?_;refine A1 (oLb zja ty_3) ?_;refine A1 zc1 ?_;refine A0 oK ?_;refine Sp (d:=17) (p:=63<who) (fun g17=>?_) (fun g17=>?_)
 ·
  refine qax ?_;refine qac ?_;refine qbd ?_;refine qaw ?_;refine Ct ?_;refine CQR ?_;refine qba ?_;refine xQ ?_;refine qar ?_;refine qad ?_;exact zq rfl rfl (zl rfl rfl zdk yaD) (zT (za rfl yaD))
 refine qax ?_;refine A1 (oFp zhT) ?_;refine A1 (oLb zds ty_3) ?_;refine A1 zb2 ?_;refine A0 oK ?_;refine Sp (d:=22) (p:=kd<0) (fun g22=>?_) (fun g22=>?_)
 ·
  refine qax ?_;refine qac ?_;refine qaw ?_;refine Ct ?_;refine CQR ?_;refine qba ?_;refine xQ ?_;refine qar ?_;refine qad ?_;exact zq rfl rfl (zl rfl rfl zdk yaD) (zT (za rfl yaD))
 refine qax ?_;refine A1 (oFp zhT) ?_;refine A1 (oLb zds ty_3) ?_;refine A1 zfd ?_;refine qaw ?_;refine Cf (p:=3≤kd) (fun ht27=>?_) (fun ht27=>?_)
 ·
  refine CQR ?_;refine qba ?_;refine xQ ?_;refine qar ?_;refine qad ?_;exact zq rfl rfl (zl rfl rfl zdk yaD) (zT (za rfl yaD))
 refine qcl ?_;refine zx [some 1,none,some 2,some 1,none,some 1] mixed ye ?_;refine X0 (oLs rfl rfl rfl zdk) ?_;refine XK.e (fun fr' hfr kk H=>by
  refine zqZ _ rfl rfl rfl rfl (consEq (hfr 30 ye) (rfl)) Tryz.func48 zj8 rfl rfl (fun ia1 iok1=>?_);refine qae ?_;refine qbW ?_;refine CN ?_;refine zdd 4 (x:=c) (zkv c) rfl ?_;refine CQ ?_;refine zx [some 1,some 1,none,some 2,some 2,some 2,none,some 2,none,some 1,some 1,none] mixed ye ?_;refine X0 (oFp zeC) ?_;refine X0 (zy rfl rfl rfl rfl rfl zen) ?_;refine XK.e (fun fr' hfr kk H=>by exact zaD (zxw c.opn yU) rfl fn_106 ⟨(zd ((hfr 6 ye).trans rfl)),trivial⟩ rfl rfl rfl (zr H)) ?_;refine XK.g2 (zcI rfl rfl zci rfl) (zcI rfl rfl zci rfl) rfl rfl rfl ?_;refine XK.g2 (zcI rfl rfl zat rfl) (zcI rfl rfl zat rfl) rfl rfl rfl ?_;refine XK.gb (t:=9) rfl rfl (fun _ he=>zy rfl rfl he rfl rfl zcm) rfl ybS rfl rfl rfl ?_;refine XK.e (fun fr' hfr kk H=>by exact zaD (zo9 c.p.p yU) rfl fn_107 ⟨(zd ((hfr 10 ye).trans rfl)),trivial⟩ rfl rfl rfl (zr H)) ?_;refine XK.g2 (zcI rfl rfl zeC rfl) (zcI rfl rfl zeC rfl) rfl rfl rfl ?_;refine XK.e (x:=.idk) (fun fr' hfr kk H=>by exact zZ rfl rfl rfl ((hfr 12 ye).trans rfl) rfl rfl ((hfr 7 ye).trans rfl) rfl rfl rfl zen (zr H)) ?_;refine X0 (oFp zci) ?_;refine X0 (oFp zat) ?_;refine XK.e (x:=.idk) (fun fr' hfr kk H=>by exact zZ rfl rfl rfl ((hfr 14 ye).trans rfl) rfl rfl ((hfr 11 ye).trans rfl) rfl rfl rfl zcm (zr H)) ?_;refine xf ?_;refine CQQR ?_;refine A0 (oFp zci) ?_;refine qcy ?_;refine Lp (ι:=Nat) 8 (fun i=>((((Fr.none.set 1 (.ptr 4 0)).set 2 (.ptr 5 0)).set 17 (.own 7)).set 18 (.val i64T (c.p.p.length:Int))).set 19 (.val i64T (i:Int))) (fun i=>(((((((Hp.none.set 0 (.box 29 zaK c)).set 1 (.box 36 msgT ⟨kd,who,raw⟩)).set 2 (.box 29 zaK zf6)).set 3 (.box 155 (arrT 3 yp fnoT) [some 83,some 84,some 85])).set 4 (.parts 29 [.val i64T c.m,.val i64T c.k,.own 6,.val zm c.have_,.val i64T c.p.m,.val i64T c.p.k,.own 7])).set 5 (.box 29 zaK zf6)).set 6 (.row 3 i64T c.opn)).set 7 (.row 72 zbl c.p.p)) (fun i=>i≤c.p.p.length) (fun i=>c.p.p.length-i) (0) (uf _) ?_;intro i hinv;refine qak ?_;refine Cf (p:=i<c.p.p.length) (fun ht20=>?_) (fun ht20=>?_)
  ·
   obtain⟨x,hx⟩:∃x,c.p.p[i]?=some x:=⟨_,ub ht20⟩;refine qaE ?_;refine A0 (zcs (i:=i) rfl rfl rfl rfl yn zfE yg) ?_;refine qbv ?_;refine xo ?_;refine X0 (oFp zci) ?_;refine qbz ?_;refine X0 mV ?_;refine X0 (oFp zbA) ?_;refine X0 (oLb za4 za5) ?_;refine X0 (oCl (zu (zg3 x.l (by have:=hc.1.2 x (ud hx);constructor<;>omega))) rfl zpS yf) ?_;refine X0 (zcs (i:=i) rfl rfl rfl rfl yn zfE yg) ?_;refine X0 (zoD rfl rfl zbA rfl) ?_;refine XK.e (x:=.idk) (fun fr' hfr kk H=>by exact zcM rfl rfl rfl ((hfr 32 ye).trans rfl) rfl rfl yh za4 za5 ((hfr 30 ye).trans rfl) (zr H)) ?_;refine qaJ ?_;refine zA (n:=7) (y:=c.p.p) rfl (zrl hx) ?_;exact Nx (i+1) yc yc
  refine CE ?_;refine CQ ?_;refine ze0 4 7 (pre:=[.val i64T c.m,.val i64T c.k,.own 6,.val zm c.have_,.val i64T c.p.m,.val i64T c.p.k]) rfl rfl rfl ?_;refine zpk 4 (pre:=[.val i64T c.m,.val i64T c.k,.own 6,.val zm c.have_]) (zvi c.p) rfl rfl ?_;refine CR ?_;refine A0 (g_loadcat rfl rfl rfl rfl zdk) ?_;refine zvN rfl rfl rfl rfl rfl rfl rfl rfl zdk ?_;refine CN ?_;refine zpi (nx':=8) (fr':=(Fr.none).set 2 (.ptr 5 0)) (hp':=((((((Hp.none).set 0 (.box 29 zaK c)).set 1 (.box 36 msgT ⟨kd,who,raw⟩)).set 2 (.box 29 zaK zf6)).set 3 (.box 155 (arrT 3 yp fnoT) [some 83,some 84,some 85])).set 5 (.parts 29 [.val i64T c.m,.val i64T c.k,.own 6,.val zm c.have_,.val zac c.p])).set 6 (.row 3 i64T c.opn)) ?_ rfl (by (repeat refine Fr.le_set ?_ yaw);exact Fr.le_none _) (by (repeat refine Hp.le_set ?_ rfl);exact Hp.le_none _) (by (repeat refine Fr.below_setB ?_ rfl);exact Fr.below_none _) (by (repeat refine Hp.below_set ?_ yp);exact Hp.below_none _);exact aw_backcat rfl rfl rfl rfl zdk (zr H)) ?_
 refine XK.gb (t:=3) rfl rfl (fun _ he=>zz rfl rfl he (Lens.self _) ty_36) rfl ybS rfl rfl rfl ?_;refine X0 (zvo rfl (fun e w h=>run_work rfl e w h) rfl rfl) ?_;refine XK.e (fun fr' hfr kk H=>by exact aw_boxcat rfl rfl rfl rfl ((hfr 33 ye).trans rfl) rfl (zr H)) ?_;refine X0 aP ?_;refine xf ?_;refine zup 8 (pre:=[.val i64T c.m,.val i64T c.k,.own 6,.val zm c.have_,.val zac c.p]) (split_msg _ who raw) rfl ?_;refine CQ ?_;refine CQ ?_;rcases (show kd=0∨kd=1∨kd=2 by omega) with rfl|rfl|rfl
 ·
  refine CR ?_;refine A0 (oFp zhT) ?_;refine A0 (oLb zds ty_3) ?_;refine A0 (zG (i:=0) rfl rfl rfl yn zxJ yc) ?_;refine A0 (zz rfl rfl rfl (Lens.elem (i:=0) yc fnoT) ty_153) ?_;refine zj (d:=38) (y:=some 83) rfl rfl ?_;refine zd0 (d:=38) (f:=83) rfl ?_;refine zh4 3 ?_;refine A0 mP ?_;refine zcN rfl rfl rfl rfl rfl Tryz.func83 fn_83 rfl rfl yD (fun ia5 iok5=>?_);refine CQR ?_;refine qa7 ?_;refine CB ?_;refine CQR ?_;refine A0 mP ?_;refine zU rfl rfl rfl rfl Tryz.func150 fn_150 rfl rfl (fun ia6 iok6=>?_);refine CQR ?_;refine qaR ?_;refine xR ?_;refine qaP ?_;refine zbn rfl ?_;refine qaA ?_;refine zn (p:=who∈c.opn) rfl (by first|exact any_mem'|exact zvT) (fun ht3=>?_) (fun ht3=>?_)
  ·
   refine qas ?_;refine qb9 ?_;refine Ct ?_;refine CQR ?_;refine qba ?_;refine xQ ?_;refine qcv ?_;exact zq rfl rfl (zl rfl rfl zdk (by rw[zbd yc,ut rfl];unfold zoi;rw[ut ht3])) (zT (za rfl (by rw[zbd yc,ut rfl];unfold zoi;rw[ut ht3])))
  refine CQR ?_;refine qaN ?_;refine A0 (oFp zcB) ?_;refine A0 (oFp zeC) ?_;refine qbu ?_;refine xG ?_;refine A0 zfd ?_;refine qad ?_;refine Cf (p:=8≤c.opn.length) (fun ht6=>?_) (fun ht6=>?_)
  ·
   refine qas ?_;refine qb9 ?_;refine Ct ?_;refine CQR ?_;refine qba ?_;refine xQ ?_;refine qcv ?_;exact zq rfl rfl (zl rfl rfl zdk (by rw[zbd yc,ut rfl];unfold zoi;rw[ur ht3,ut ht6])) (zT (za rfl (by rw[zbd yc,ut rfl];unfold zoi;rw[ur ht3,ut ht6])))
  refine CS ?_;refine CI ?_;refine CQ ?_;refine zx [some 1000001,some 1,some 1,some 1,some 1,some 1,some 1,some 1,some 1,some 1,some 1,some 1,none,some 1,some 1,some 1,none] mixed ye ?_;refine XK.ga (fun _=>g_mp (.inl rfl) rfl) rfl rfl rfl ?_;refine X0 mP ?_;refine xh ?_;refine X0 (oFp zcB) ?_;refine X0 (oFp zeC) ?_;refine X0 (zy rfl rfl rfl rfl rfl zen) ?_;refine X0 mP ?_;refine xh ?_;refine X0 (oFp zlc) ?_;refine X0 (oFp zhS) ?_;refine X0 (zy rfl rfl rfl rfl rfl ty_3) ?_;refine X0 (zX (T:=i64T) (xs:=[_]) rfl zbR zeo yB rfl rfl) ?_;refine XK.e (fun fr' hfr kk H=>by exact zF rfl rfl rfl rfl ((hfr 19 ye).trans rfl) rfl ((hfr 25 ye).trans rfl) zeo yx (zr H)) ?_;refine xh ?_;refine X0 (oFp zcB) ?_;refine X0 (oFp zeC) ?_;refine XK.e (x:=.idk) (fun fr' hfr kk H=>by exact zZ rfl rfl rfl ((hfr 29 ye).trans rfl) rfl rfl ((hfr 26 ye).trans rfl) rfl rfl rfl zen (zr H)) ?_;refine xf ?_;refine qas ?_;refine qb9 ?_;refine Cg ?_;refine qcl ?_;refine zaQ 9 6 12 rfl rfl rfl rfl rfl rfl ?_;refine xS ?_;refine qbc ?_;exact zq rfl rfl (zl rfl rfl zdk (by rw[zbd yc,ut rfl];unfold zoi;rw[ur ht3,ur ht6])) (zT (za rfl (by rw[zbd yc,ut rfl];unfold zoi;rw[ur ht3,ur ht6])))
 ·
  refine CR ?_;refine A0 (oFp zhT) ?_;refine A0 (oLb zds ty_3) ?_;refine A0 (zG (i:=1) rfl rfl rfl yn zxJ yc) ?_;refine A0 (zz rfl rfl rfl (Lens.elem (i:=1) yc fnoT) ty_153) ?_;refine zj (d:=38) (y:=some 84) rfl rfl ?_;refine zd0 (d:=38) (f:=84) rfl ?_;refine zh4 3 ?_;refine A0 mP ?_;refine zcN rfl rfl rfl rfl rfl Tryz.func84 fn_84 rfl rfl yD (fun ia7 iok7=>?_);refine CQR ?_;refine zso rfl rfl rfl rfl rfl rfl rfl ?_;refine qbS ?_;refine A0 (zy rfl rfl rfl rfl rfl zsU) ?_;refine zU rfl rfl rfl rfl Tryz.func150 fn_150 rfl rfl (fun ia9 iok9=>?_);refine CQR ?_;refine qaR ?_;refine xR ?_;refine qaP ?_;refine zbn rfl ?_;refine qaL ?_;refine zn (p:=¬who∈c.opn) rfl (by first|exact zsu|exact zsu.symm) (fun ht5=>?_) (fun ht5=>?_)
  ·
   refine qas ?_;refine qb9 ?_;refine Ct ?_;refine CQR ?_;refine qba ?_;refine xQ ?_;refine qcv ?_;exact zq rfl rfl (zl rfl rfl zdk (by rw[zbd yc,ur yp,ut rfl];unfold zli;rw[ur ht5])) (zT (za rfl (by rw[zbd yc,ur yp,ut rfl];unfold zli;rw[ur ht5])))
  have hwm:=ua ht5;refine qcl ?_;refine zx [some 1000001,some 1,some 1,some 1,some 1,some 1,some 1,none,some 1,some 1,some 1,none] mixed ye ?_;refine XK.gf (t:=1) rfl rfl (fun _ he=>zy rfl rfl he rfl rfl zsU) ⟨yK,trivial⟩ rfl rfl rfl ?_;refine X0 (zy rfl rfl rfl rfl rfl zsU) ?_;refine xh ?_;refine X0 (oFp zcB) ?_;refine X0 (oFp zeC) ?_;refine X0 (zy rfl rfl rfl rfl rfl zen) ?_;refine X0 (ziN (caps:=[_]) rfl rfl) ?_;refine XK.e (fun fr' hfr kk H=>by
   refine zqZ _ rfl rfl rfl rfl (consEq (hfr 11 ye) (consEq (hfr 12 ye) (rfl))) Tryz.func151 fn_151 rfl rfl (fun ia10 iok10=>?_);refine qbD ?_;refine A0 mO ?_;refine A0 mC ?_;refine zU rfl rfl rfl rfl Tryz.func198 fn_198 rfl rfl (fun ia11 iok11=>?_);refine CQR ?_;refine qbS ?_;refine A0 mO ?_;refine xG ?_;refine qa2 ?_;refine Lp (ι:=Nat) 10 (fun k=>((((Fr.none.set 0 (.own 6)).set 1 (.clo 152 [9])).set 6 (.own 6)).set 7 (.val i64T (c.opn.length:Int))).set 8 (.val i64T (k:Int))) (fun k=>(((Hp.none.set 2 (.box 29 zaK zf6)).set 8 (.parts 157 [.val i64T c.m,.val i64T c.k,.own 6,.val zm c.have_,.val zac c.p,.val i64T 1,.val i64T who,.val (sl u8T) raw])).set 6 (.row 3 i64T c.opn)).set 9 (.parts 154 [.ptr 8 0])) (fun k=>k≤c.opn.length∧idx (fun x=>decide (x=who)) c.opn=shift k (idx (fun x=>decide (x=who)) (c.opn.drop k))) (fun k=>c.opn.length-k) (0) (⟨uf _,zdl _ _⟩) ?_;intro k hinv;refine qak ?_;refine Cf (p:=k<c.opn.length) (fun ht9=>?_) (fun ht9=>?_)
   ·
    obtain⟨x,hx⟩:∃x,c.opn[k]?=some x:=ybc;refine qaE ?_;refine qaz ?_;refine A0 mC ?_;refine A0 mO ?_;refine qax ?_;refine A0 (zcs rfl rfl rfl rfl yn zbR yg) ?_;refine xH ?_;refine zcN rfl rfl rfl rfl rfl Tryz.func152 fn_152 rfl rfl yG (fun ia12 iok12=>?_);refine qbJ ?_;refine A0 (zy rfl rfl rfl rfl rfl zsU) ?_;refine xc ?_;refine A0 (oFp zlc) ?_;refine A0 (oFp zhS) ?_;refine A0 (zy rfl rfl rfl rfl rfl ty_3) ?_;refine A0 zbZ ?_;refine qad ?_;refine zbn rfl ?_;refine CN ?_;refine zn (p:=x=who) rfl yH (fun ht16=>?_) (fun ht16=>?_)
    ·
     have hk:=hinv.2.trans (zhJ hx (by simp[ht16]));have hds:=del_start hx ht16 hk;refine qbK ?_;refine zbn rfl ?_;refine A0 aX ?_;refine CNQQR ?_;refine A0 mX ?_;refine A0 zbZ ?_;refine CN ?_;refine ze1 rfl (uh yS) ?_;refine CSQQR ?_;refine A0 mX ?_;refine A0 zdp ?_;refine qc7 ?_;refine zj (d:=5) (y:=((without (c.opn.take (k+1)) who).length:Int)) rfl (by rw[hds.2]) ?_;refine Lp (ι:=Nat×List Int) 10 (fun(j,R)=>(((Fr.none.set 0 (.own 6)).set 1 (.clo 152 [9])).set 5 (.val i64T ((without (c.opn.take j) who).length:Int))).set 6 (.val i64T (j:Int))) (fun(j,R)=>(((Hp.none.set 2 (.box 29 zaK zf6)).set 8 (.parts 157 [.val i64T c.m,.val i64T c.k,.own 6,.val zm c.have_,.val zac c.p,.val i64T 1,.val i64T who,.val (sl u8T) raw])).set 6 (.row 3 i64T R)).set 9 (.parts 154 [.ptr 8 0])) (fun(j,R)=>DelOk c.opn R who j) (fun(j,R)=>c.opn.length-j) ((k+1,c.opn)) (hds.1) ?_;intro⟨j,R⟩ hj;dsimp only at hj;refine qb1 ?_;refine A0 mO ?_;refine xG ?_;refine qaY ?_;refine zn (p:=j<c.opn.length) rfl (by rw[uo];simp only[IntL.toI,id_eq,hj.len];omega) (fun ht19=>?_) (fun ht19=>?_)
     ·
      obtain⟨x,hx⟩:∃x,c.opn[j]?=some x:=⟨_,ub ht19⟩;have hxR:=(del_at hj).trans hx;have hlR:=hj.len;have hltR:=hj.lt;obtain⟨z,hz⟩:∃z,R[(without (c.opn.take j) who).length]?=some z:=yv;refine CSQBQR ?_;refine A0 mO ?_;refine qax ?_;refine A0 (zcs (i:=j) rfl rfl rfl rfl yn zbR yg) ?_;refine xH ?_;refine qaz ?_;refine A0 mC ?_;refine qax ?_;refine zcN rfl rfl rfl rfl rfl Tryz.func152 fn_152 rfl rfl yG (fun ia13 iok13=>?_);refine qbJ ?_;refine A0 (zy rfl rfl rfl rfl rfl zsU) ?_;refine xc ?_;refine A0 (oFp zlc) ?_;refine A0 (oFp zhS) ?_;refine A0 (zy rfl rfl rfl rfl rfl ty_3) ?_;refine A0 zbZ ?_;refine qad ?_;refine zbn rfl ?_;refine qaL ?_;refine zn (p:=¬x=who) rfl yH (fun ht29=>?_) (fun ht29=>?_)
      ·
       have hdk:=del_keep hj hx ht29;refine qb6 ?_;refine qao ?_;refine A0 (zcs (i:=(without (c.opn.take j) who).length) rfl rfl rfl rfl yn zbR yg) ?_;refine zcM rfl rfl rfl rfl rfl rfl yh (Lens.self _) ty_3 rfl ?_;refine CNR ?_;refine qbb ?_;refine A0 aV ?_;refine CNIR ?_;refine qbb ?_;refine qad ?_;refine zj (d:=5) (y:=((without (c.opn.take (j+1)) who).length:Int)) rfl (by have:=hdk.2;omega) ?_;exact Nx ((j+1,R.set (without (c.opn.take j) who).length x)) (hdk.1) (by show c.opn.length-(j+1)<c.opn.length-j;omega)
      have hdk:=del_skip hj hx (ua ht29);refine CSIR ?_;refine qbb ?_;refine qad ?_;refine zj (d:=5) (y:=((without (c.opn.take (j+1)) who).length:Int)) rfl (by have:=hdk.2;omega) ?_;exact Nx ((j+1,R)) (hdk.1) (by show c.opn.length-(j+1)<c.opn.length-j;omega)
     have hlR:=hj.len;have hltR:=hj.lt;have htl:c.opn.take j=c.opn:=uc yc;have hde:=fun z=>del_end hj yc z
     rw[htl] at hltR;refine zj (d:=5) (y:=((without c.opn who).length:Int)) rfl (by rw[htl]) ?_;have hwl:(without c.opn who).length<c.opn.length:=wo_short hwm;refine CE ?_;refine qb6 ?_;refine qax ?_;refine A0 (ztL (p:=(without c.opn who).length) rfl rfl rfl rfl zbR yn yg) ?_;refine zsn rfl rfl rfl rfl rfl zeo ze_3 yaa ?_;refine CNQR ?_;refine A0 mO ?_;refine qax ?_;refine A0 (zmG (q:=(without c.opn who).length) rfl rfl rfl rfl zbR yn yg) ?_;refine zuq (d:=41) (n:=6) (len:=(without c.opn who).length) rfl rfl rfl ⟨by simp;omega,by simp;omega⟩ ?_;refine zA (n:=10) (y:=without c.opn who) rfl (hde _) ?_;refine qbm ?_;refine zpi (nx':=11) (fr':=(Fr.none).set 4 (.own 10)) (hp':=((((Hp.none).set 2 (.box 29 zaK zf6)).set 8 (.parts 157 [.val i64T c.m,.val i64T c.k,.own 6,.val zm c.have_,.val zac c.p,.val i64T 1,.val i64T who,.val (sl u8T) raw])).set 9 (.parts 154 [.ptr 8 0])).set 10 (.row 3 i64T (without c.opn who))) ?_ rfl (by (repeat refine Fr.le_set ?_ yaw);exact Fr.le_none _) (by (repeat refine Hp.le_set ?_ rfl);exact Hp.le_none _) (by (repeat refine Fr.below_setB ?_ rfl);exact Fr.below_none _) (by (repeat refine Hp.below_set ?_ yp);exact Hp.below_none _);exact zbn rfl (zr H)
    refine qaZ ?_;exact Nx (k+1) (⟨by omega,hinv.2.trans (zk0 hx (by simpa using ht16))⟩) yc
   exact absurd (hinv.2.trans (zhK yc)) (idx_mem hwm)) ?_
  refine xh ?_;refine X0 (oFp zcB) ?_;refine X0 (oFp zeC) ?_;refine XK.e (x:=.idk) (fun fr' hfr kk H=>by exact zZ rfl rfl rfl ((hfr 16 ye).trans rfl) rfl rfl ((hfr 13 ye).trans rfl) rfl rfl rfl zen (zr H)) ?_;refine XK.nilp ⟨ybS,trivial⟩ ?_;refine qas ?_;refine qb9 ?_;refine Cg ?_;refine qcl ?_;refine zaQ 10 6 12 rfl rfl rfl rfl rfl rfl ?_;refine xS ?_;refine qbc ?_;exact zq rfl rfl (zl rfl rfl zdk (by rw[zbd yc,ur yp,ut rfl];unfold zli;rw[ut hwm])) (zT (za rfl (by rw[zbd yc,ur yp,ut rfl];unfold zli;rw[ut hwm])))
 refine CR ?_;refine A0 (oFp zhT) ?_;refine A0 (oLb zds ty_3) ?_;refine A0 (zG (i:=2) rfl rfl rfl yn zxJ yc) ?_;refine A0 (zz rfl rfl rfl (Lens.elem (i:=2) yc fnoT) ty_153) ?_;refine zj (d:=38) (y:=some 85) rfl rfl ?_;refine zd0 (d:=38) (f:=85) rfl ?_;refine zh4 3 ?_;refine A0 mP ?_;refine zcN rfl rfl rfl rfl rfl Tryz.func85 fn_85 rfl rfl yD (fun ia14 iok14=>?_);refine CQR ?_;refine qbS ?_;refine A0 mP ?_;refine zU rfl rfl rfl rfl Tryz.func150 fn_150 rfl rfl (fun ia15 iok15=>?_);refine CQR ?_;refine qaR ?_;refine xR ?_;refine qaP ?_;refine zbn rfl ?_;refine qaL ?_;refine zn (p:=¬who∈c.opn) rfl (by first|exact zsu|exact zsu.symm) (fun ht10=>?_) (fun ht10=>?_)
 ·
  refine qas ?_;refine qb9 ?_;refine Ct ?_;refine CQR ?_;refine qba ?_;refine xQ ?_;refine qcv ?_;exact zq rfl rfl (zl rfl rfl zdk (by rw[zbd yc,ur yp,ur yp,ur ht10])) (zT (za rfl (by rw[zbd yc,ur yp,ur yp,ur ht10])))
 refine CSQR ?_;refine qaN ?_;refine A0 (oFp zlc) ?_;refine A0 (oFp zoN) ?_;refine A0 (zy rfl rfl rfl rfl rfl zbi) ?_;refine A0 (oCl (zwq raw hraw) rfl fn_16 yf) ?_;refine qbi ?_;refine qby ?_;refine qam ?_;refine qa7 ?_;refine CB ?_;refine qa4 ?_;refine A0 oN ?_;refine qad ?_;refine zn (p:=¬zcG raw=true) rfl (by cases zcG raw<;>rfl) (fun ht20=>?_) (fun ht20=>?_)
 ·
  refine qas ?_;refine qb9 ?_;refine Ct ?_;refine CQR ?_;refine qba ?_;refine xQ ?_;refine qcv ?_;exact zq rfl rfl (zl rfl rfl zdk ybo) (zT (za rfl ybo))
 refine CQ ?_;refine qaV ?_;refine G0 (oFp zd6) ?_;refine G0 (oLb zdg ty_3) ?_;refine qbF ?_;refine G0 (oFp zcB) ?_;refine G0 (oFp zr2) ?_;refine G0 (zy rfl rfl rfl rfl rfl ty_3) ?_;refine G0 zdQ ?_;refine qaP ?_;refine zn (p:=¬(zdD raw).m=c.m) rfl yH (fun ht23=>?_) (fun ht23=>?_)
 ·
  refine CS ?_;refine zgz rfl (by simpa [IntL.toI] using ht23) ?_;refine qas ?_;refine qb9 ?_;refine Ct ?_;refine CQR ?_;refine qba ?_;refine xQ ?_;refine qcv ?_;exact zq rfl rfl (zl rfl rfl zdk ya9) (zT (za rfl ya9))
 refine CD mixed ?_;refine G0 (oFp zdG) ?_;refine G0 (oLb zcJ ty_3) ?_;refine qbF ?_;refine G0 (oFp zcB) ?_;refine G0 (oFp zoO) ?_;refine G0 (zy rfl rfl rfl rfl rfl ty_3) ?_;refine G0 zdQ ?_;refine qaP ?_;refine zn (p:=¬(zdD raw).k=c.k) rfl yH (fun ht23=>?_) (fun ht23=>?_)
 ·
  refine qas ?_;refine qb9 ?_;refine Ct ?_;refine CQR ?_;refine qba ?_;refine xQ ?_;refine qcv ?_;exact zq rfl rfl (zl rfl rfl zdk yaW) (zT (za rfl yaW))
 refine CS ?_;refine CI ?_;refine CQQR ?_;refine qaQ ?_;refine A0 (oCl (zgu (zdD raw)) rfl zvq yf) ?_;refine qag ?_;refine qbk ?_;refine zn (p:=¬zaa (zdD raw)=0) rfl yH (fun ht43=>?_) (fun ht43=>?_)
 ·
  refine qbK ?_;refine qb9 ?_;refine zgz rfl (by simpa [IntL.toI] using ht43) ?_;refine CQR ?_;refine qba ?_;refine xQ ?_;refine qcv ?_;exact zq rfl rfl (zl rfl rfl zdk yaC) (zT (za rfl yaC))
 refine CSQQR ?_;refine qaN ?_;refine A0 (oFp zcB) ?_;refine A0 (oFp ziU) ?_;refine A0 (zy rfl rfl rfl rfl rfl ty_4) ?_;refine CN ?_;refine zn (p:=c.have_=true) rfl yy (fun ht49=>?_) (fun ht49=>?_)
 ·
  refine CQ ?_;refine zx [some 1000001,some 1000001,some 1000001,some 1000001,some 1000001,some 1000001,some 1000001,some 1000001,some 1000001,some 1000001,none,none,some 1] mixed ye ?_;refine XK.ga (fun _=>g_mp (.inl rfl) rfl) rfl rfl rfl ?_;refine XK.ga (fun _=>g_nc rfl rfl) rfl rfl rfl ?_;refine XK.ga (fun _=>zcI rfl rfl zcB rfl) rfl rfl rfl ?_;refine XK.ga (fun _=>zcI rfl rfl zci rfl) rfl rfl rfl ?_;refine XK.gf (t:=54) rfl rfl (fun _ he=>zcd rfl rfl he rfl zaR) ⟨yK,trivial⟩ rfl rfl rfl ?_;refine XK.gf (t:=3) rfl rfl (fun _ he=>zz rfl rfl he (Lens.self _) zaR) ⟨yK,trivial⟩ rfl rfl rfl ?_;refine XK.ga (fun _=>zgl (pick_ok c.p (zdD raw) hc.1 (zqy (ua ht43))) rfl fn_87 yl rfl) rfl rfl rfl ?_;refine XK.ga yq rfl rfl rfl ?_;refine XK.ga ybe rfl rfl rfl ?_;refine XK.ga yac rfl rfl rfl ?_;refine XK.e (fun fr' hfr kk H=>by exact zs zf5 rfl rfl rfl rfl (zr H)) ?_;refine XK.e (x:=.idk) (fun fr' hfr kk H=>by exact zf rfl rfl rfl ((hfr 6 ye).trans rfl) rfl (Lens.self _) zaR ((hfr 58 ye).trans rfl) (zr H)) ?_;refine X0 aV ?_;refine XK.nilp ⟨ybS,ybS,trivial⟩ ?_;refine qb1 ?_;refine qbk ?_;refine zn (p:=¬(zbg c.p (zdD raw)).2=0) rfl yH (fun ht61=>?_) (fun ht61=>?_)
  ·
   refine qbK ?_;refine qb9 ?_;refine zgz rfl (by simpa [IntL.toI] using ht61) ?_;refine CQR ?_;refine qba ?_;refine xQ ?_;refine qcv ?_;exact zq rfl rfl (zl rfl rfl zdk yas) (zT (za rfl yas))
  refine CS ?_;refine CR ?_;refine qaQ ?_;refine qam ?_;refine CNQR ?_;refine A0 mP ?_;refine A0 mP ?_;refine qaQ ?_;refine xc ?_;refine A0 (oFp zcB) ?_;refine A0 (oFp zci) ?_;refine zpj rfl rfl rfl rfl rfl rfl rfl zaR ?_;refine xc ?_;refine A0 (oFp zcB) ?_;refine A0 (oFp ziU) ?_;refine zZ rfl rfl rfl rfl rfl rfl rfl rfl rfl rfl ty_4 ?_;refine CNQR ?_;refine qad ?_;refine qb9 ?_;refine Cg ?_;refine qcl ?_;refine xS ?_;refine qbc ?_;exact zq rfl rfl (zl rfl rfl zdk yar) (zT (za rfl yar))
 refine CSQR ?_;refine A0 mP ?_;refine A0 mP ?_;refine qaQ ?_;refine xc ?_;refine A0 (oFp zcB) ?_;refine A0 (oFp zci) ?_;refine zpj rfl rfl rfl rfl rfl rfl rfl zaR ?_;refine xc ?_;refine A0 (oFp zcB) ?_;refine A0 (oFp ziU) ?_;refine zZ rfl rfl rfl rfl rfl rfl rfl rfl rfl rfl ty_4 ?_;refine CNQR ?_;refine qad ?_;refine qb9 ?_;refine Cg ?_;refine qcl ?_;refine xS ?_;refine qbc ?_;exact zq rfl rfl (zl rfl rfl zdk yav) (zT (za rfl yav))
theorem zrp (c:Client) (l:List Msg) (hc:SmC c) (hl:zxP l):Tells P 15 [.val zaK c,.val (bsl msgT) l] (.tup2 (.val zaK (runC c l)) (.val (sl i64T) (runE c l))):=by
 have hll:=hl.1;refine zc Tryz.func15 rfl rfl rfl (fun ext w hext=>?_);refine ze (d:=1) rfl zk (fun hsl1=>?_);refine qae ?_;refine qbW ?_;refine A0 aL ?_;refine CNQR ?_;refine qba ?_;refine xQ ?_;refine qar ?_;refine CNQR ?_;refine A0 aL ?_;refine qbg ?_;refine A0 (zW rfl rfl isl_37) ?_;refine qa2 ?_;refine zcv (T:=i64T) (d:=6) 40 rfl ?_;refine Lp (ι:=Nat) 3 (fun i=>(((((Fr.none.set 2 (.ptr 0 0)).set 4 (.ptr 1 0)).set 6 (.own 2)).set 13 (.val (bsl msgT) l)).set 14 (.val i64T (l.length:Int))).set 15 (.val i64T (i:Int))) (fun i=>((Hp.none.set 0 (.box 29 zaK (runC c (l.take i)))).set 1 (.box 29 zaK zf6)).set 2 (.row 40 i64T (runE c (l.take i)))) (fun i=>i≤l.length) (fun i=>l.length-i) (0) (uf _) ?_;intro i hinv;refine qak ?_;refine Cf (p:=i<l.length) (fun ht16=>?_) (fun ht16=>?_)
 ·
  obtain⟨x,hx⟩:∃x,l[i]?=some x:=⟨_,ub ht16⟩;have hxr:x.raw.length≤1000000000:=by have:=hl.2 x (ud hx);omega
  have hrs:=run_step (c:=c) hx;have hrl:(runE c (l.take i)).length≤100:=by rw[zwg,um];omega
  refine CSQBQR ?_;refine A0 (zK (i:=i) rfl rfl rfl yc sl_37 yh) ?_;refine A0 (zg rfl rfl ty_36) ?_;refine zs zsF rfl rfl rfl rfl ?_;refine zf rfl rfl rfl rfl rfl (Lens.self _) ty_36 rfl ?_;refine CNQR ?_;refine qba ?_;refine A0 (oLs rfl rfl rfl ty_36) ?_;refine A0 (oCl (step22_ok (runC c (l.take i)) x (zkB _ hc) hxr) rfl fn_31 yl) ?_;refine qbi ?_;refine qbW ?_;refine qar ?_;refine qaz ?_;refine qba ?_;refine qar ?_;refine CNR ?_;refine A0 mO ?_;refine qax ?_;refine A0 (zX (T:=i64T) (xs:=[_]) rfl sl_32 row_32 yB rfl rfl) ?_;refine zF rfl rfl rfl rfl rfl rfl rfl row_32 yaa ?_;refine A0 aO ?_;refine qbh ?_;refine zh4 3 ?_;refine zh4 4 ?_;refine zaQ 5 2 6 rfl rfl rfl rfl rfl rfl ?_;refine zA (n:=2) (y:=runE c (l.take (i+1))) rfl hrs.2.symm ?_;refine zP (n:=0) (y:=runC c (l.take (i+1))) rfl hrs.1.symm ?_;exact Nx (i+1) yc yc
 refine zA (n:=2) (y:=runE c l) rfl yN ?_;refine zP (n:=0) (y:=runC c l) rfl yN ?_;refine aw_pub (d:=6) rfl rfl ?_;refine CE ?_;refine CQR ?_;refine qba ?_;refine qax ?_;refine qar ?_;refine qad ?_;exact zq rfl rfl (zl rfl rfl zdk (rfl)) (zT (za rfl (rfl)))
theorem awakeT_ok:Tells P 13 [] (.val zm true):=by
 refine zc Tryz.func13 rfl rfl rfl (fun ext w hext=>?_);have hx1:zd7.p[1]?=some (⟨zbF.h,[id0]⟩:Part):=rfl;have hw2:([zdb,zbF]:List Block)[1]?=some zbF:=rfl;refine CQR ?_;refine qaz ?_;refine A0 (oCl (two_ok) rfl fn_46 trivial) ?_;refine qag ?_;refine A0 (oCl (zql [zdb,zbF] 1 1 znS) rfl fn_47 yT) ?_;refine qaB ?_;refine zj (d:=12) (y:=zd7) rfl (easy_pr) ?_;refine qaU ?_;refine zj (d:=13) (y:=(0:Int)) rfl (zxq) ?_;refine qby ?_;refine qam ?_;refine qaz ?_;refine qaQ ?_;refine A0 (oCl (zu3 zd7) rfl fn_43 yf) ?_;refine qbi ?_;refine zj (d:=18) (y:=true) rfl (zjr) ?_;refine A0 aV ?_;refine qag ?_;refine A0 (oCl (zwq (zfu zd7) (by rw[zoW];decide)) rfl fn_16 yf) ?_;refine qaB ?_;refine zj (d:=22) (y:=zd7) rfl ((zkE zjs.1).trans zjs.2) ?_;refine qaU ?_;refine zj (d:=23) (y:=true) rfl (zjs.1) ?_;refine qby ?_;refine qam ?_;refine qbI ?_;refine G0 mV ?_;refine G0 zbZ ?_;refine G0 mV ?_;refine zmR (d:=26) rfl (rfl) ?_;refine G1 mV ?_;refine qaT ?_;refine zmR (d:=29) rfl (rfl) ?_;refine G1 mV ?_;refine qaT ?_;refine zmR (d:=32) rfl (rfl) ?_;refine G1 (oLs rfl rfl rfl zaR) ?_;refine G1 (oCl (zgu zd7) rfl zvq yf) ?_;refine G1 zbZ ?_;refine qaT ?_;refine zmR (d:=37) rfl (by rw[zqK];rfl) ?_;refine G1 (oFp zat) ?_;refine G1 (oLb zau zcm) ?_;refine G1 (zW rfl rfl zcx) ?_;refine G1 zbZ ?_;refine qaT ?_;refine zmR (d:=43) rfl (rfl) ?_;refine G1 mV ?_;refine G1 (zW rfl rfl zeP) ?_;refine G1 zbZ ?_;refine qaT ?_;refine zmR (d:=48) rfl (rfl) ?_;refine G1 (oFp zat) ?_;refine G1 (oLb zau zcm) ?_;refine G1 (zK (i:=1) rfl rfl rfl yc zfE yh) ?_;refine G1 (oFr zbk zaU) ?_;refine G1 (zg rfl rfl zaM) ?_;refine G1 mV ?_;refine G1 (zK (i:=1) rfl rfl rfl yc zdz yh) ?_;refine qct ?_;refine G1 (ziP rfl rfl rfl (zjQ)) ?_;refine qaT ?_;refine zmR (d:=60) rfl yy ?_;refine G1 mV ?_;refine G1 (zK (i:=1) rfl rfl rfl yc zdz yh) ?_;refine qct ?_;refine G1 (oCl (zeu zbF.h) rfl zr0 ybN) ?_;refine G1 (zhN rfl zjH zq8 rfl) ?_;refine G1 (zee rfl rfl rfl (zfl)) ?_;refine G0 oK ?_;refine qaP ?_;exact zb rfl rfl (za rfl (by rw[easy_nz];rfl))
set_option maxHeartbeats 2000000
def zm9:Client:=⟨1,1,[3],true,zd7⟩
def zt1 (R:List UInt8):List Msg:=[⟨2,3,R⟩,⟨0,3,[]⟩,⟨2,3,R⟩]
theorem easy_run0 {R:List UInt8} (h1:zcG R=true) (h2:zdD R=zd7):runC (newC 1 1) (zt1 R)=zm9∧runE (newC 1 1) (zt1 R)=[9,0,0]:=by
  have s1:zbY (newC 1 1) ⟨2,3,R⟩=(newC 1 1,9):=by
    rw[zbd yc,ur yp,ur yp,ur (by show ¬(3:Int)∈[];decide)]
  have s2:zbY (newC 1 1) ⟨0,3,[]⟩=(⟨1,1,[3],false,zbL⟩,0):=rfl;have g:zeV ⟨1,1,[3],false,zbL⟩ R=(zm9,0):=by
    unfold zeV;rw[h2,ur (fun h=>h h1),ur (by show ¬(¬(1:Int)=1∨¬(1:Int)=1);decide),ur (fun h=>h zqK),ur yp];rfl
  have s3:zbY ⟨1,1,[3],false,zbL⟩ ⟨2,3,R⟩=(zm9,0):=by
    rw[zbd yc,ur yp,ur yp,ut (by show(3:Int)∈[3];decide)];exact g
  constructor
  · show runC (zbY (zbY (zbY (newC 1 1) ⟨2,3,R⟩).1 ⟨0,3,[]⟩).1 ⟨2,3,R⟩).1 []=_
    rw[s1,s2,s3];rfl
  show [(zbY (newC 1 1) ⟨2,3,R⟩).2,(zbY (zbY (newC 1 1) ⟨2,3,R⟩).1 ⟨0,3,[]⟩).2,(zbY (zbY (zbY (newC 1 1) ⟨2,3,R⟩).1 ⟨0,3,[]⟩).1 ⟨2,3,R⟩).2]=_;rw[s1,s2,s3]
theorem easy_read:zdD (zfu zd7)=zd7:=(zkE zjs.1).trans zjs.2
theorem zxp:runC (newC 1 1) (zt1 (zfu zd7))=zm9∧runE (newC 1 1) (zt1 (zfu zd7))=[9,0,0]:=easy_run0 zjs.1 easy_read
theorem easy_msgs:zxP (zt1 (zfu zd7)):=⟨by show 3≤100;decide,fun x hx=>by
  simp only[zt1,List.mem_cons,List.not_mem_nil,or_false] at hx;rcases hx with rfl|rfl|rfl
  · rw[zoW];decide
  · decide
  rw[zoW];decide⟩
theorem zvz:SmC zm9:=⟨⟨by decide,fun x hx=>by
  have hx:x∈[(⟨ziW,[]⟩:Part),⟨zbF.h,[id0]⟩]:=hx;simp only[List.mem_cons,List.not_mem_nil,or_false] at hx;rcases hx with rfl|rfl<;>decide⟩,by decide⟩
theorem easy_at:atI zm9 1=1:=by rfl
theorem zt0:atOk zm9 1=true:=by unfold atOk;rw[easy_at];rfl
theorem easy_atP:atP zm9 1=⟨zbF.h,[id0]⟩:=by unfold atP;rw[ut zt0,easy_at];rfl
theorem zwC {m k:Int} (h:zjG m k=true):newR m k=newC m k∧1≤m∧m≤20∧1≤k∧k≤20:=by
  unfold zjG at h;rw[uj] at h;exact⟨ut h,h⟩
def GiveP (m k:Int) (a:List UInt8):Prop:=zcG a=true∧(zdD a).m=m∧(zdD a).k=k∧zaa (zdD a)=0
theorem give_first {c:Client} {a:List UInt8} (h:GiveP c.m c.k a) (hh:c.have_=false):zeV c a=({ c with p:=zdD a,have_:=true },0):=by
  unfold zeV;rw[ur (fun x=>x h.1),ur (fun x=>x.elim (fun y=>y h.2.1) (fun y=>y h.2.2.1)),ur (fun x=>x h.2.2.2),ur (by rw[hh];decide)]
theorem step_give {c:Client} {a:List UInt8} (h:(0:Int)∈c.opn):zbY c ⟨2,0,a⟩=zeV c a:=by
  unfold zbY;rw[ur (by show ¬((0:Int)<0∨63<(0:Int)∨(2:Int)<0∨3≤(2:Int));decide),ur (by show ¬(2:Int)=0;decide),ur (by show ¬(2:Int)=1;decide),ut h]
theorem awake22_ok:Tells P 28 [] (.val zm true):=by
 refine zc Tryz.func28 rfl rfl rfl (fun ext w hext=>?_);have hl0:([9,0,0]:List Int)[0]?=some 9:=rfl;have hl1:([9,0,0]:List Int)[1]?=some 0:=rfl;have hl2:([9,0,0]:List Int)[2]?=some 0:=rfl;refine CQR ?_;refine qaz ?_;refine A0 (oCl (zok 1 1) rfl fn_14 yl) ?_;refine qaB ?_;refine zj (d:=13) (y:=newC 1 1) rfl (rfl) ?_;refine qaU ?_;refine zj (d:=14) (y:=true) rfl (rfl) ?_;refine qbW ?_;refine qar ?_;refine qaz ?_;refine A0 (oCl (two_ok) rfl fn_46 trivial) ?_;refine A0 (oCl (zql [zdb,zbF] 1 1 znS) rfl fn_47 yT) ?_;refine qaB ?_;refine zj (d:=18) (y:=zd7) rfl (easy_pr) ?_;refine qaU ?_;refine qby ?_;refine qam ?_;refine qaz ?_;refine qaQ ?_;refine A0 (oCl (zu3 zd7) rfl fn_43 yf) ?_;refine qbi ?_;refine zj (d:=24) (y:=true) rfl (zjr) ?_;refine A0 aV ?_;refine qaz ?_;refine qba ?_;refine qax ?_;refine A0 (zC rfl zsF zvM (.cons zhT zds ty_3 rfl (.cons zhS zja ty_3 rfl (.cons zoN zlA zbi rfl .nil))) rfl) ?_;refine A0 (zC rfl zsF zvM (.cons zhS zja ty_3 rfl .nil) rfl) ?_;refine qax ?_;refine A0 (zC rfl zsF zvM (.cons zhT zds ty_3 rfl (.cons zhS zja ty_3 rfl (.cons zoN zlA zbi rfl .nil))) rfl) ?_;refine A0 (zX (T:=msgT) (xs:=[_,_,_]) rfl sl_37 row_37 ⟨rfl,rfl,rfl,rfl,rfl,rfl,trivial⟩ rfl rfl) ?_;refine zj (d:=32) (y:=zt1 (zfu zd7)) rfl (rfl) ?_;refine A0 (oCl (zrp (newC 1 1) (zt1 (zfu zd7)) (ziB 1 1) easy_msgs) rfl fn_15 yl) ?_;refine qaB ?_;refine zj (d:=34) (y:=zm9) rfl (zxp.1) ?_;refine qaU ?_;refine zj (d:=35) (y:=([9,0,0]:List Int)) rfl (zxp.2) ?_;refine qbW ?_;refine qar ?_;refine qaz ?_;refine qba ?_;refine A0 (oCl (zss zm9 1 zvz) rfl fn_26 yl) ?_;refine qaB ?_;refine zj (d:=39) (y:=(⟨zbF.h,[id0]⟩:Part)) rfl (easy_atP) ?_;refine qaU ?_;refine zj (d:=40) (y:=true) rfl (zt0) ?_;refine qa1 ?_;refine qag ?_;refine qax ?_;refine zi3 (d:=42) rfl (rfl) ?_;refine A1 mV ?_;refine qal ?_;refine zi3 (d:=45) rfl (rfl) ?_;refine A1 mV ?_;refine A1 (zW rfl rfl isl_32) ?_;refine A1 zbZ ?_;refine qal ?_;refine zi3 (d:=50) rfl (rfl) ?_;refine A1 mV ?_;refine A1 (zK (i:=0) rfl rfl rfl yc sl_32 yh) ?_;refine A1 (zg rfl rfl ty_40) ?_;refine A1 zbZ ?_;refine qal ?_;refine zi3 (d:=56) rfl (rfl) ?_;refine A1 mV ?_;refine A1 (zK (i:=1) rfl rfl rfl yc sl_32 yh) ?_;refine A1 (zg rfl rfl ty_40) ?_;refine A1 zbZ ?_;refine qal ?_;refine zi3 (d:=62) rfl (rfl) ?_;refine A1 mV ?_;refine A1 (zK (i:=2) rfl rfl rfl yc sl_32 yh) ?_;refine A1 (zg rfl rfl ty_40) ?_;refine A1 zbZ ?_;refine qal ?_;refine zi3 (d:=68) rfl (rfl) ?_;refine A1 (oFp ziU) ?_;refine A1 (oLb zdU ty_4) ?_;refine qal ?_;refine zi3 (d:=72) rfl (rfl) ?_;refine A1 mV ?_;refine qal ?_;refine zi3 (d:=75) rfl (rfl) ?_;refine A1 (oFp zbk) ?_;refine A1 (oFp zcR) ?_;refine A1 (oLb (zaU.comp zar) ty_3) ?_;refine A1 zbZ ?_;refine qal ?_;refine zi3 (d:=81) rfl (rfl) ?_;refine A1 (oLs rfl rfl rfl zdk) ?_;refine A1 (oLs rfl rfl rfl zdk) ?_;refine A1 (oCl (sameC22_ok zm9 zm9) rfl fn_30 yl) ?_;refine qaI ?_;exact zb rfl rfl (za rfl yy)
def ancM (raw:List UInt8):List Msg:=[zMsg,⟨2,0,raw⟩]
theorem anc_msgs {raw:List UInt8} (h:raw.length≤6000):zxP (ancM raw):=⟨by show 2≤100;decide,fun x hx=>by
  simp only[ancM,List.mem_cons,List.not_mem_nil,or_false] at hx;rcases hx with rfl|rfl
  · decide
  show raw.length≤_;omega⟩
theorem new_held {m k:Int} {l:List Msg} (h:(runC (newC m k) l).have_=true):zaa (runC (newC m k) l).p=0:=by
  have hh:=ztb l (newC m k) [] (new_holds m k);refine hh.ok fun e=>?_
  have:=hh.have_
  rw[e,h] at this;cases this
theorem zpU (m k:Int) (raw:List UInt8) (l:List Block) (h:Int):Tells P 4 [.val i64T m,.val i64T k,.val (sl u8T) raw,.val (sl zL) l,.val i64T h] (.val zm true):=by
 refine zc Tryz.func4 rfl rfl rfl (fun ext w hext=>?_);refine ze (d:=0) rfl zt (fun hin0=>?_);refine ze (d:=1) rfl zt (fun hin1=>?_);refine ze (d:=2) rfl zk (fun hsl2=>?_);refine ze (d:=3) rfl zk (fun hsl3=>?_);refine ze (d:=4) rfl zt (fun hin4=>?_);refine ze (d:=3) rfl fact_hwb (fun hwl=>?_);refine CQR ?_;refine qaz ?_;refine A0 (oCl (awakeT_ok) rfl fn_13 trivial) ?_;refine qag ?_;refine A0 (oCl (fewC_ok l) rfl fn_20 yf) ?_;refine qag ?_;refine qax ?_;refine A0 (oCl (zok _ _) rfl fn_14 yl) ?_;refine qbi ?_;refine qbW ?_;refine qar ?_;refine qaj ?_;refine A0 oN ?_;refine qax ?_;refine zi4 (d:=37) rfl (rfl) ?_;refine A1 mV ?_;refine A1 oN ?_;refine qal ?_;refine zaP (d:=41) (p:=¬fewC l=true) rfl (by cases fewC l<;>rfl) (fun g41=>?_) (fun g41=>?_)
 ·
  refine A2 ?_;refine A2 ?_;refine qbd ?_;refine qaw ?_;refine Ct ?_;refine qbK ?_;exact zb rfl rfl (za rfl (rfl))
 have hl:=fewC_small (ua g41);refine A1 mV ?_;refine A1 oN ?_;refine qal ?_;refine zaP (d:=45) (p:=zjG m k=false) rfl (by cases zjG m k<;>rfl) (fun g45=>?_) (fun g45=>?_)
 ·
  refine qac ?_;refine qaw ?_;refine Ct ?_;refine qbK ?_;exact zb rfl rfl (za rfl (rfl))
 refine A1 mV ?_;refine A1 (zW rfl rfl zc8) ?_;refine A1 zc1 ?_;refine qaw ?_;refine Cf (p:=6000<raw.length) (fun ht49=>?_) (fun ht49=>?_)
 ·
  refine qbK ?_;exact zb rfl rfl (za rfl (rfl))
 have hnr:=zwC (show zjG m k=true by cases hh:zjG m k<;>simp_all);refine zP (n:=0) (y:=newC m k) rfl hnr.1 ?_;obtain⟨d,hd⟩:∃d,d=runC (newC m k) (ancM raw):=⟨_,rfl⟩;have hsd:SmC d:=hd▸zkB _ (ziB m k);have hpl:=hsd.1.1;obtain⟨A,hA⟩:∃A,A=idsP d.p:=⟨_,rfl⟩;have hal:A.length=d.p.p.length:=by rw[hA];unfold idsP;simp
 have hids:=zu (zow d.p yc);rw[←hA] at hids;refine CSQR ?_;refine qba ?_;refine A0 (zC rfl zsF zvM .nil rfl) ?_;refine qax ?_;refine A0 (zC rfl zsF zvM (.cons zhT zds ty_3 rfl (.cons zoN zlA zbi rfl .nil)) rfl) ?_;refine A0 (zX (T:=msgT) (xs:=[_,_]) rfl sl_37 row_37 y4 rfl rfl) ?_;refine zj (d:=56) (y:=ancM raw) rfl (rfl) ?_;refine A0 (oCl (zrp (newC m k) (ancM raw) (ziB m k) (anc_msgs yc)) rfl fn_15 yl) ?_;refine qaB ?_;refine zj (d:=58) (y:=d) rfl (hd.symm) ?_;refine qaU ?_;refine qbW ?_;refine qar ?_;refine qag ?_;refine A0 (oCl (zlk l hl) rfl fn_21 yf) ?_;refine qa5 ?_;refine qaz ?_;refine A0 (oFp zci) ?_;refine A0 (oLb zel zaR) ?_;refine ze (d:=66) rfl fact_hwp (fun hwp=>?_);have hel:=ext_len hwp hwl;refine A0 (oCl (hids) rfl zvp yf) ?_;refine qa7 ?_;refine qaV ?_;refine G0 (oFp ziU) ?_;refine G0 (oLb zdU ty_4) ?_;refine G0 oN ?_;refine G0 mV ?_;refine zaG (d:=71) (p:=¬d.have_=true) rfl yy (fun g71=>?_) (fun g71=>?_)
 ·
  refine G2 ?_;refine G2 ?_;refine qaT ?_;refine qaK ?_;refine qaT ?_;refine qaK ?_;refine qaT ?_;refine qab ?_;refine qab ?_;refine qaK ?_;refine qaW ?_;refine Ct ?_;refine qas ?_;exact zb rfl rfl (za rfl (rfl))
 refine G1 mV ?_;refine G1 zdQ ?_;refine qaT ?_;refine zaG (d:=75) (p:=¬(zH l).2=0) rfl yH (fun g75=>?_) (fun g75=>?_)
 ·
  refine qaK ?_;refine qaT ?_;refine qaK ?_;refine qaT ?_;refine qab ?_;refine qab ?_;refine qaK ?_;refine qaW ?_;refine Ct ?_;refine qas ?_;exact zb rfl rfl (za rfl (rfl))
 have hp0:zaa d.p=0:=by have h2:=ua g71;rw[hd] at h2 ⊢;exact new_held h2
 have hc0:(zH l).2=0:=ua g75;have hlp:=ztH hp0;have hcp:=zud hc0;have hle:=zue hc0;have hiy:A[A.length-1]?=some (zw (yAt d.p (d.p.p.length-1)).h):=by rw[hal,hA];exact zmF d.p yc
 refine G1 mV ?_;refine G1 (zW rfl rfl zcq) ?_;refine G1 zbZ ?_;refine qaT ?_;refine zjU (d:=80) rfl (uh yS) ?_;refine G1 mV ?_;refine G1 (zW rfl rfl zeP) ?_;refine G1 zbZ ?_;refine qaT ?_;refine zjU (d:=85) rfl (uh yS) ?_;refine G1 mV ?_;refine G1 mV ?_;refine G1 (zW rfl rfl zcq) ?_;refine G1 zbb ?_;refine G1 (zK (i:=A.length-1) rfl rfl rfl yc zb8 yh) ?_;refine G1 (zg rfl rfl zaj) ?_;refine G1 mV ?_;refine G1 mV ?_;refine G1 (zW rfl rfl zeP) ?_;refine G1 zbb ?_;refine G1 (zK (i:=l.length-1) rfl rfl rfl yc zdz yh) ?_;refine qct ?_;refine G1 (oCl (zeu (zH l).1.b.h) rfl zr0 ybN) ?_;refine G1 (zee rfl rfl rfl (zfl)) ?_;refine qaW ?_;refine zn (p:=¬zw (yAt d.p (d.p.p.length-1)).h=zw (zH l).1.b.h) rfl yy (fun ht101=>?_) (fun ht101=>?_)
 ·
  refine qas ?_;exact zb rfl rfl (za rfl (rfl))
 refine CSQR ?_;refine A0 (oFp zci) ?_;refine A0 (oLb zel zaR) ?_;refine qax ?_;refine A0 (oCl (extract_ok d.p l hl) rfl fn_24 yl) ?_;refine qbi ?_;refine A0 e32 ?_;refine A0 aV ?_;refine A0 aV ?_;refine qaj ?_;refine CN ?_;refine zn (p:=(zgp d.p l).2.2=true) rfl yy (fun ht110=>?_) (fun ht110=>?_)
 ·
  have hy:=(zxn hp0 hc0 (ua ht101) (fun x hx=>(hwp x hx).1) (fun x hx=>(hwl x hx).1)).1 ht110;refine qa4 ?_;refine A0 (g_cvs rfl rfl uu_22 ui_5 st_9) ?_;refine qax ?_;refine A0 (g_cvs rfl rfl uu_22 ui_5 st_9) ?_;refine A0 (g_neqstr rfl rfl rfl) ?_;refine qax ?_;refine zi3 (d:=116) rfl (by simp[hy.1]) ?_;refine A1 mV ?_;refine A1 (oCl (zp1 (zgp d.p l).1 yc) rfl fn_25 yf) ?_;refine A1 mV ?_;refine A1 (oCl (zp1 (zgp d.p l).2.1 yc) rfl fn_25 yf) ?_;refine A1 (ziP rfl rfl rfl (zfl)) ?_;refine qaI ?_;exact zb rfl rfl (za rfl (by simp[hy.2]))
 have hfull:=zxn hp0 hc0 (ua ht101) (fun x hx=>(hwp x hx).1) (fun x hx=>(hwl x hx).1);refine CSQR ?_;refine qba ?_;refine qax ?_;refine A0 (oCl (zss d h hsd) rfl fn_26 yl) ?_;refine qbi ?_;refine qa1 ?_;refine qaj ?_;refine qaL ?_;refine zn (p:=¬atOk d h=true) rfl yy (fun ht130=>?_) (fun ht130=>?_)
 ·
  refine qas ?_;exact zb rfl rfl (za rfl (rfl))
 have hyo:=ua ht130;have hya:=zxE hyo;have hja:=(ul.1 hya.2.2.1).1;obtain⟨b,hb,hbh,hbl⟩:=hfull.2 (Bool.eq_false_iff.2 ht110) (atI d h).toNat hja;have hye:yAt d.p (atI d h).toNat=atP d h:=by unfold yAt;simp[hya.2.2.1]
 rw[hye] at hb hbh hbl;rw[hya.2.1] at hb;have hhh:=(ziJ (zcy.1 hp0) (atI d h).toNat hja).1;rw[hye,hya.2.1] at hhh;have hbk:=(ul.1 hb).1;refine qcl ?_;refine qaV ?_;refine G0 mV ?_;refine G0 zb2 ?_;refine G0 mV ?_;refine zjU (d:=133) rfl (uh yS) ?_;refine G1 mV ?_;refine G1 mV ?_;refine G1 (zW rfl rfl zeP) ?_;refine G1 zfd ?_;refine qaT ?_;refine zjU (d:=139) rfl (uh yS) ?_;refine G1 (oFp zbk) ?_;refine G1 (oLb zaU zaM) ?_;refine G1 mV ?_;refine G1 mV ?_;refine G1 (zK (i:=h.toNat) rfl rfl rfl yc zdz yh) ?_;refine qct ?_;refine G1 (zee rfl rfl rfl (zjQ)) ?_;refine qaW ?_;refine ze1 rfl (by simp[hbh]) ?_;refine CS ?_;refine qaV ?_;refine G0 (oFp zbA) ?_;refine G0 (oLb za4 za5) ?_;refine qbY ?_;refine G0 (zK (i:=h.toNat) rfl rfl rfl yc zdz yh) ?_;refine G0 (oFr zcQ zbN) ?_;refine G0 (zg rfl rfl za5) ?_;refine G0 (oCl (refIds_ok (atP d h).l b.l) rfl fn_27 ⟨yo,yd,trivial⟩) ?_;refine qaP ?_;refine qbK ?_;exact zb rfl rfl (za rfl (by simp[hbl]))
end Go.Proofs.YtikaeepohlkjdaaGreat
