/- Parts of the proof: the layer that reads Go values as data, and what the functions of the program tell. -/
import Derived.Test.YtikaeepohlkjdaaGreatK8
open Int (toNat_natCast)
open List (append_nil drop_drop map_append mem_cons)
set_option linter.unusedVariables false
set_option linter.unusedSimpArgs false
set_option maxRecDepth 20000
namespace Go.Proofs.YtikaeepohlkjdaaGreat
open Go.Ab Go.RowKit
def zlS (n i:Nat):List Int:=if _h:2<=n then (if i<halfN n then 0::zlS (halfN n) i else 1::zlS (n-halfN n) (i-halfN n)) else []
termination_by n
decreasing_by
  . exact ziq _h
  have:=zgl n;omega
def zcr (n i:Nat):List Int:=(zlS n i).reverse
def upTr (s:Int) (x p:Ab.Id):Ab.Id:=if s=0 then zsM x p else zsM p x
def zcN (ss:List Int) (ps:List Ab.Id) (x:Ab.Id):Ab.Id:=(ss.zip ps).foldl (fun x sp=>upTr sp.1 x sp.2) x
def zdL (root:Ab.Id) (n i:Int) (leaf:Ab.Id) (path:List Ab.Id):Bool:=decide (1<=n/\n<=64/\0<=i/\i<n)&&(decide ((zcr n.toNat i.toNat).length=path.length)&&decide (zcN (zcr n.toNat i.toNat) path leaf=root))
theorem zk2 {m j:Nat} (h:2<=m):zlS m j=if j<halfN m then 0::zlS (halfN m) j else 1::zlS (m-halfN m) (j-halfN m):=by
  conv=>lhs;rw[zlS,dif_pos h]
theorem zk3 {m j:Nat} (h:¬2<=m):zlS m j=[]:=by rw[zlS,dif_neg h]
theorem zto:∀{m j:Nat},(zlS m j).length<=m:=by
  intro m
  induction m using Nat.strongRecOn with
  | ind m ih =>
    intro j;by_cases c:2<=m
    . have hp:=zgl m
      have hlt:=ziq c;rw[zk2 c]
      split
      . have:=ih (halfN m) hlt (j:=j);rw[List.length_cons];omega
      have:=ih (m-halfN m) ya (j:=j-halfN m);rw[List.length_cons];omega
    rw[zk3 c];simp
theorem downT_bit:∀{m j:Nat},∀s∈zlS m j,s=0\/s=1:=by
  intro m
  induction m using Nat.strongRecOn with
  | ind m ih =>
    intro j s hs;by_cases c:2<=m
    . have hp:=zgl m
      have hlt:=ziq c;rw[zk2 c] at hs
      split at hs
      . rcases mem_cons.1 hs with e|h
        . exact .inl e
        exact ih (halfN m) hlt s h
      rcases mem_cons.1 hs with e|h
      . exact .inr e
      exact ih (m-halfN m) ya s h
    rw[zk3 c] at hs;cases hs
theorem zgO {n i:Nat}:(zcr n i).length<=n:=by unfold zcr;rw[List.length_reverse];exact zto
theorem zsl {n i:Nat}:∀s∈zcr n i,s=0\/s=1:=fun s hs=>downT_bit s (List.mem_reverse.1 hs)
theorem climb_snoc {ss:List Int} {ps:List Ab.Id} {s:Int} {p x:Ab.Id} (e:ss.length=ps.length):zcN (ss++[s]) (ps++[p]) x=upTr s (zcN ss ps x) p:=by
  unfold zcN;rw[List.zip_append e,List.foldl_append];rfl
theorem zqf {ss:List Int} {ps:List Ab.Id} {k:Nat} {s:Int} {p x:Ab.Id} (hs:ss[k]?=some s) (hp:ps[k]?=some p):zcN (ss.take (k+1)) (ps.take (k+1)) x=upTr s (zcN (ss.take k) (ps.take k) x) p:=by
  obtain⟨h1,_⟩:=ul.1 hs;obtain⟨h2,_⟩:=ul.1 hp;rw[un,hs,un,hp];exact climb_snoc (by rw[um,um];omega)
theorem ztt {ss:List Int} {ps:List Ab.Id} {k:Nat} {x:Ab.Id} (h:ss.length<=k) (e:ss.length=ps.length):zcN (ss.take k) (ps.take k) x=zcN ss ps x:=by
  rw[uc h,uc ya]
def zl4 (ss:List Int) (ps:List Ab.Id) (x:Ab.Id) (k:Nat):List Ab.Id:=if ss.getD k 0=0 then [zcN (ss.take k) (ps.take k) x,ps.getD k zId] else [ps.getD k zId,zcN (ss.take k) (ps.take k) x]
def zky (ss:List Int) (ps:List Ab.Id) (x:Ab.Id) (k:Nat):List (List Ab.Id):=(List.range k).map (zl4 ss ps x)
theorem zvN {ss:List Int} {ps:List Ab.Id} {x:Ab.Id} {k:Nat} {a:List Ab.Id} (h:a=zl4 ss ps x k):zky ss ps x k++[a]=zky ss ps x (k+1):=by
  unfold zky;rw[List.range_succ,map_append,h];rfl
theorem zsK {ss:List Int} {ps:List Ab.Id} {x:Ab.Id} {k:Nat}:(zky ss ps x k).length=k:=by unfold zky;simp
theorem pair_left {ss:List Int} {ps:List Ab.Id} {x p:Ab.Id} {k:Nat} (hs:ss[k]?=some 0) (hp:ps[k]?=some p):[zcN (ss.take k) (ps.take k) x,p]=zl4 ss ps x k:=by
  unfold zl4;rw[uq,uq,hs,hp];rfl
theorem pair_right {ss:List Int} {ps:List Ab.Id} {x p:Ab.Id} {k:Nat} (hs:ss[k]?=some 1) (hp:ps[k]?=some p):[p,zcN (ss.take k) (ps.take k) x]=zl4 ss ps x k:=by
  unfold zl4;rw[uq,uq,hs,hp];rfl
theorem sides_ok (n i:Nat) (hn:n<=64) (hi:i<n):Tells P 91 [.val i64T (n:Int),.val i64T (i:Int)] (.fresh 3 i64T (zcr n i)):=by
 refine zc Tryz.func91 rfl rfl rfl (fun ext w hext=>?_);refine ze (d:=0) rfl zz (fun hin0=>?_);refine ze (d:=1) rfl zz (fun hin1=>?_);refine qeR ?_;refine CNQ ?_;refine CB ?_;obtain⟨i_,hi_⟩:∃k,k=i:=⟨_,rfl⟩;refine za7 (T:=i64T) (d:=5) 3 rfl ?_;refine Lp (ι:=List Int×Nat×Nat) 1 (fun(out,m,j)=>((Fr.none.set 0 (.val i64T (m:Int))).set 1 (.val i64T (j:Int))).set 5 (.own 0)) (fun(out,m,j)=>Hp.none.set 0 (.row 3 i64T out)) (fun(out,m,j)=>m<=n/\j<=m/\zlS n i_=out++zlS m j) (fun(out,m,j)=>m) (([],n,i)) (⟨ug _,by omega,by rw[hi_];rfl⟩) ?_;intro⟨out,m,j⟩ hinv;dsimp only at hinv;have hol:out.length<=n:=by have h1:=congrArg List.length hinv.2.2;have h2:=zto (m:=n) (j:=i_);simp at h1;omega
 refine qbd ?_;refine qc2 ?_;refine Cf (p:=2<=m) (fun ht8=>?_) (fun ht8=>?_)
 .
  have hp:=zgl m;have hlt:=ziq ht8;have hgo:=zk2 (j:=j) ht8;refine CS ?_;refine CB ?_;refine qb1 ?_;refine A0 (oCl (half_ok m ya ya) rfl fn_102 yd) ?_;refine qbL ?_;refine qa7 ?_;refine Cf (p:=j<halfN m) (fun ht13=>?_) (fun ht13=>?_)
  .
   rw[ut ht13] at hgo;refine qcU ?_;refine qde ?_;refine qaz ?_;refine qcl ?_;refine CI ?_;refine qbI ?_;exact Nx ((out++[0],halfN m,j)) ybE (by first|(show halfN m<m;omega)|(show m-halfN m<m;omega))
  rw[ur ht13] at hgo;refine qcU ?_;refine qde ?_;refine qal ?_;refine A0 (zgC rfl rfl rfl (show _=(((m-halfN m:Nat):Int):Int) from(show IntKind.i64.wrap ((m:Int)-(halfN m:Int))=_ from(z8 ya).trans ya))) ?_;refine qal ?_;refine A0 (zgC rfl rfl rfl (show _=(((j-halfN m:Nat):Int):Int) from(show IntKind.i64.wrap ((j:Int)-(halfN m:Int))=_ from(z8 ya).trans ya))) ?_;refine A0 aO ?_;refine qb2 ?_;refine CI ?_;refine qbI ?_;exact Nx ((out++[1],m-halfN m,j-halfN m)) ybE (by first|(show halfN m<m;omega)|(show m-halfN m<m;omega))
 have hdn:=zk3 (j:=j) ht8;refine qeY ?_;refine zja (revInt out ya) rfl fn_158 rfl trivial trivial rfl ⟨yo,trivial⟩ rfl rfl rfl ?_;refine qgn ?_;refine qbG ?_;exact zb rfl rfl (zf rfl rfl (by unfold zcr;rw[<-hi_,hinv.2.2,hdn,append_nil]))
theorem pairs_ok (ss:List Int) (x:Ab.Id) (ps:List Ab.Id) (hs:∀s∈ss,s=0\/s=1) (he:ss.length=ps.length) (hl:ss.length<=64):Tells P 92 [.val (bsl i64T) ss,.val idT x,.val (bsl idT) ps] (.tup2 (.fresh 246 (arrT 2 yl idT) (zky ss ps x ss.length)) (.val idT (zcN ss ps x))):=by
 refine zc Tryz.func92 rfl rfl rfl (fun ext w hext=>?_);refine ze (d:=0) rfl zk (fun hsl0=>?_);refine ze (d:=2) rfl zk (fun hsl2=>?_);refine qbN ?_;refine qaC ?_;refine qfI ?_;refine qbD ?_;refine qbw ?_;refine qaF ?_;refine za7 (T:=(arrT 2 yl idT)) (d:=8) 246 rfl ?_;refine Lp (ι:=Nat) 3 (fun i=>((((((Fr.none.set 2 (.val (bsl idT) ps)).set 4 (.ptr 0 0)).set 7 (.ptr 1 0)).set 8 (.own 2)).set 12 (.val (bsl i64T) ss)).set 13 (.val i64T (ss.length:Int))).set 14 (.val i64T (i:Int))) (fun i=>((Hp.none.set 0 (.box 49 idT (zcN (ss.take i) (ps.take i) x))).set 1 (.box 49 idT zId)).set 2 (.row 246 (arrT 2 yl idT) (zky ss ps x i))) (fun i=>i<=ss.length) (fun i=>ss.length-i) (0) (uf _) ?_;intro i hinv;refine qap ?_;refine Cf (p:=i<ss.length) (fun ht15=>?_) (fun ht15=>?_)
 .
  obtain⟨s,hsi⟩:∃s,ss[i]?=some s:=⟨_,ub ht15⟩;obtain⟨p,hpi⟩:∃p,ps[i]?=some p:=yr;have hcl:=zqf (x:=x) hsi hpi;rcases hs s (ud hsi) with rfl|rfl
  .
   refine qbp ?_;refine xz ?_;refine qbs ?_;refine A0 aV ?_;refine qcR ?_;refine zN ze_246 rfl rfl rfl rfl ?_;refine CNQ ?_;refine zA [some 1,some 1000001,some 1000001,some 1,some 1000001,some 1000001,some 1000001,some 1000001,some 1,none,some 1,none] mixed yc ?_;refine X0 mX ?_;refine xo ?_;refine XK.ga yP rfl rfl rfl ?_;refine qfN ?_;refine XK.ga (fun _=>g_mv (.inl rfl) rfl) rfl rfl rfl ?_;refine XK.ga (fun _=>g_mv (.inl rfl) rfl) rfl rfl rfl ?_;refine XK.ga (fun _=>zx (i:=i) rfl rfl rfl ya zce yj) rfl rfl rfl ?_;refine XK.ga (fun _=>zh rfl rfl zY) rfl rfl rfl ?_;refine X0 (zy (i:=0) rfl rfl rfl yi ziH ya) ?_;refine XK.e (x:=.idk) (fun fr' hfr kk H=>by exact zg rfl rfl rfl ((hfr 27 yc).trans rfl) rfl (Lens.elem (i:=0) ya idT) zY ((hfr 22 yc).trans rfl) (zD H)) ?_;refine X0 (zy (i:=1) rfl rfl rfl yi ziH ya) ?_;refine XK.e (x:=.idk) (fun fr' hfr kk H=>by exact zg rfl rfl rfl ((hfr 28 yc).trans rfl) rfl (Lens.elem (i:=1) ya idT) zY ((hfr 26 yc).trans rfl) (zD H)) ?_;refine qe6 ?_;refine qdP ?_;refine A0 (oLs rfl rfl rfl ty_246) ?_;refine A0 (zW (T:=(arrT 2 yl idT)) (xs:=[_]) rfl sl_161 zqS yA rfl rfl) ?_;refine zp rfl rfl rfl rfl rfl rfl rfl zqS (by rw[zsK];simp;omega) ?_;refine qbG ?_;obtain⟨w,hw⟩:∃w,w=zl4 ss ps x i:=⟨_,rfl⟩;refine CR ?_;refine A0 (zy (i:=0) rfl rfl rfl yi ziH ya) ?_;refine A0 (zr rfl rfl rfl (Lens.elem (i:=0) ya idT) zY) ?_;refine A0 (zy (i:=1) rfl rfl rfl yi ziH ya) ?_;refine A0 (zr rfl rfl rfl (Lens.elem (i:=1) ya idT) zY) ?_;refine A0 (oCl (zup (zcN (ss.take i) (ps.take i) x) p) rfl fn_159 ye) ?_;refine qaq ?_;refine qb8 ?_;refine zeE 3 ?_;refine qeu ?_;refine zq (n:=2) (y:=zky ss ps x (i+1)) rfl (zvN (pair_left hsi hpi)) ?_;refine zt (n:=0) (y:=zcN (ss.take (i+1)) (ps.take (i+1)) x) rfl (by rw[hcl];rfl) ?_;exact Nx (i+1) ya ya
  refine qbp ?_;refine xz ?_;refine qbs ?_;refine A0 aV ?_;refine qcR ?_;refine zN ze_246 rfl rfl rfl rfl ?_;refine CNQ ?_;refine zA [some 1,some 1000001,some 1000001,some 1,some 1000001,some 1000001,some 1000001,some 1000001,some 1,none,some 1,none] mixed yc ?_;refine X0 mX ?_;refine xo ?_;refine XK.ga yP rfl rfl rfl ?_;refine qfN ?_;refine XK.ga (fun _=>g_mv (.inl rfl) rfl) rfl rfl rfl ?_;refine XK.ga (fun _=>g_mv (.inl rfl) rfl) rfl rfl rfl ?_;refine XK.ga (fun _=>zx (i:=i) rfl rfl rfl ya zce yj) rfl rfl rfl ?_;refine XK.ga (fun _=>zh rfl rfl zY) rfl rfl rfl ?_;refine X0 (zy (i:=1) rfl rfl rfl yi ziH ya) ?_;refine XK.e (x:=.idk) (fun fr' hfr kk H=>by exact zg rfl rfl rfl ((hfr 27 yc).trans rfl) rfl (Lens.elem (i:=1) ya idT) zY ((hfr 22 yc).trans rfl) (zD H)) ?_;refine X0 (zy (i:=0) rfl rfl rfl yi ziH ya) ?_;refine XK.e (x:=.idk) (fun fr' hfr kk H=>by exact zg rfl rfl rfl ((hfr 28 yc).trans rfl) rfl (Lens.elem (i:=0) ya idT) zY ((hfr 26 yc).trans rfl) (zD H)) ?_;refine qe6 ?_;refine qdP ?_;refine A0 (oLs rfl rfl rfl ty_246) ?_;refine A0 (zW (T:=(arrT 2 yl idT)) (xs:=[_]) rfl sl_161 zqS yA rfl rfl) ?_;refine zp rfl rfl rfl rfl rfl rfl rfl zqS (by rw[zsK];simp;omega) ?_;refine qbG ?_;obtain⟨w,hw⟩:∃w,w=zl4 ss ps x i:=⟨_,rfl⟩;refine CR ?_;refine A0 (zy (i:=0) rfl rfl rfl yi ziH ya) ?_;refine A0 (zr rfl rfl rfl (Lens.elem (i:=0) ya idT) zY) ?_;refine A0 (zy (i:=1) rfl rfl rfl yi ziH ya) ?_;refine A0 (zr rfl rfl rfl (Lens.elem (i:=1) ya idT) zY) ?_;refine A0 (oCl (zup p (zcN (ss.take i) (ps.take i) x)) rfl fn_159 ye) ?_;refine qaq ?_;refine qb8 ?_;refine zeE 3 ?_;refine qeu ?_;refine zq (n:=2) (y:=zky ss ps x (i+1)) rfl (zvN (pair_right hsi hpi)) ?_;refine zt (n:=0) (y:=zcN (ss.take (i+1)) (ps.take (i+1)) x) rfl (by rw[hcl];rfl) ?_;exact Nx (i+1) ya ya
 refine qe7 ?_;refine zA [some 1,some 1,some 1,none] mixed yc ?_;refine X0 mO ?_;refine qfN ?_;refine X0 aO ?_;refine XK.e (x:=.idk) (fun fr' hfr kk H=>by exact zg rfl rfl rfl ((hfr 7 yc).trans rfl) rfl (Lens.self _) zY ((hfr 40 yc).trans rfl) (zD H)) ?_;refine qe6 ?_;exact zi rfl rfl (zC (zf rfl rfl (by rw[show i=ss.length by omega]))) (zm rfl rfl zY (ztt ya he))
theorem checkTr_ok (root:Ab.Id) (n i:Int) (x:Ab.Id) (ps:List Ab.Id):Tells P 41 [.val idT root,.val i64T n,.val i64T i,.val idT x,.val (bsl idT) ps] (.val zo (zdL root n i x ps)):=by
 refine zc Tryz.func41 rfl rfl rfl (fun ext w hext=>?_);refine ze (d:=1) rfl zz (fun hin1=>?_);refine ze (d:=2) rfl zz (fun hin2=>?_);refine ze (d:=4) rfl zk (fun hsl4=>?_);refine qav ?_;refine qag ?_;refine qcZ ?_;refine Sp (d:=16) (p:=n<1) (fun g16=>?_) (fun g16=>?_)
 .
  refine qc1 ?_;refine qeA ?_;refine Ct ?_;refine qar ?_;exact zb rfl rfl (za rfl yaa)
 refine qca ?_;refine qai ?_;refine Sp (d:=20) (p:=64<n) (fun g20=>?_) (fun g20=>?_)
 .
  refine qaZ ?_;refine qeA ?_;refine Ct ?_;refine qar ?_;exact zb rfl rfl (za rfl yaa)
 refine qfY ?_;refine qdU ?_;refine Sp (d:=24) (p:=i<0) (fun g24=>?_) (fun g24=>?_)
 .
  refine qcA ?_;refine Ct ?_;refine qar ?_;exact zb rfl rfl (za rfl yaa)
 refine qdi ?_;refine A1 zgb ?_;refine qat ?_;refine Cf (p:=n<=i) (fun ht28=>?_) (fun ht28=>?_)
 .
  refine qar ?_;exact zb rfl rfl (za rfl yaa)
 obtain⟨N,rfl⟩:∃N:Nat,n=N:=⟨n.toNat,by omega⟩;obtain⟨J,rfl⟩:∃J:Nat,i=J:=⟨i.toNat,by omega⟩;have hin:1<=(N:Int)/\(N:Int)<=64/\0<=(J:Int)/\(J:Int)<N:=ya;refine qej ?_;refine A0 (oCl (zu (sides_ok N J ya ya)) rfl fn_91 ye) ?_;refine qag ?_;refine qbw ?_;refine qaz ?_;refine qbj ?_;refine qaG ?_;refine Cf (p:=¬(zcr N J).length=ps.length) (fun ht36=>?_) (fun ht36=>?_)
 .
  refine qar ?_;exact zb rfl rfl (za rfl (by unfold zdL;rw[ui hin,toNat_natCast,toNat_natCast,uh ht36];rfl))
 refine qbY ?_;refine qbf ?_;refine qaz ?_;refine A0 (oCl (zbi (pairs_ok (zcr N J) x ps zsl (ua ht36) (by have:=zgO (n:=N) (i:=J);omega))) rfl fn_92 yL) ?_;refine qaA ?_;refine qaC ?_;refine A0 aV ?_;refine qaq ?_;refine CNQR ?_;refine qfP ?_;refine qad ?_;exact zb rfl rfl (za rfl (by unfold zdL;rw[ui hin,toNat_natCast,toNat_natCast,ui (ua ht36),Bool.true_and,Bool.true_and]))
set_option maxRecDepth 20000
def zcH (c:Client) (raw:List UInt8):Client×Int :=
  if ¬zbK raw=true then (c,2)
  else if ¬(zen raw).m=c.m\/¬(zen raw).k=c.k then (c,1)
  else if ¬zac (zen raw)=0 then (c,zac (zen raw))
  else if c.have_=true then (if (zbD c.p (zen raw)).2=0 then ({ c with p:=(zbD c.p (zen raw)).1,have_:=true },0) else (c,(zbD c.p (zen raw)).2))
  else ({ c with p:=zen raw,have_:=true },0)
def zjj (c:Client) (who:Int):Client×Int:=if who∈c.opn then (c,10) else if 8<=c.opn.length then (c,11) else ({ c with opn:=c.opn++[who] },0)
def without (l:List Int) (who:Int):List Int:=l.filter fun x=>!decide (x=who)
def zhU (c:Client) (who:Int):Client×Int:=if who∈c.opn then ({ c with opn:=without c.opn who },0) else (c,9)
def zdZ (c:Client) (x:Msg):Client×Int :=
  if x.who<0\/63<x.who\/x.kind<0\/3<=x.kind then (c,1)
  else if x.kind=0 then zjj c x.who
  else if x.kind=1 then zhU c x.who
  else if x.who∈c.opn then zcH c x.raw else (c,9)
def runC:Client->List Msg->Client
  | c,[]=>c
  | c,x::l=>runC (zdZ c x).1 l
def runE:Client->List Msg->List Int
  | _,[]=>[]
  | c,x::l=>(zdZ c x).2::runE (zdZ c x).1 l
theorem znJ:∀(l m:List Msg) (c:Client),runC c (l++m)=runC (runC c l) m
  | [],_,_=>rfl
  | _::l,m,_=>znJ l m _
theorem znI:∀(l m:List Msg) (c:Client),runE c (l++m)=runE c l++runE (runC c l) m
  | [],_,_=>rfl
  | x::l,m,c=>by
    show(zdZ c x).2::runE (zdZ c x).1 (l++m)=_;rw[znI l m];rfl
theorem zqN:∀(l:List Msg) (c:Client),(runE c l).length=l.length
  | [],_=>rfl
  | x::l,c=>by
    show(runE (zdZ c x).1 l).length+1=l.length+1;rw[zqN l]
theorem zvy {c:Client} {l:List Msg} {i:Nat} {x:Msg} (hx:l[i]?=some x):runC c (l.take (i+1))=(zdZ (runC c (l.take i)) x).1/\runE c (l.take (i+1))=runE c (l.take i)++[(zdZ (runC c (l.take i)) x).2]:=by
  have e:l.take (i+1)=l.take i++[x]:=by rw[un,hx];rfl
  rw[e,znJ,znI];exact⟨rfl,rfl⟩
theorem zlJ {p:Proof} (h:zac p=0):zh7 p:=by
  have hp:=zmj.1 h;refine⟨by have:=hp.l2;omega,fun x hx=>?_⟩;obtain⟨k,hk⟩:=List.mem_iff_getElem?.1 hx;obtain⟨hl,_⟩:=ul.1 hk;have e:yAt p k=x:=by unfold yAt;simp[hk]
  rw[<-e];by_cases k0:k=0
  . subst k0;rw[hp.fst.2.1];exact uf _
  have:=(linkF_zero.1 (hp.steps k ya hl).2.1).2.1;omega
def SmC (c:Client):Prop:=zh7 c.p/\c.opn.length<=1000
theorem give_small {c:Client} {raw:List UInt8} (h:SmC c):SmC (zcH c raw).1:=by
  unfold zcH
  split
  . exact h
  split
  . exact h
  split
  . exact h
  rename_i d;have hq:=zlJ (ua d)
  split
  . split
    . exact⟨pick_small h.1 hq,h.2⟩
    exact h
  exact⟨hq,h.2⟩
theorem step_small {c:Client} {x:Msg} (h:SmC c):SmC (zdZ c x).1:=by
  unfold zdZ
  split
  . exact h
  split
  . unfold zjj
    split
    . exact h
    split
    . exact h
    refine⟨h.1,?_⟩;show(c.opn++[x.who]).length<=1000;rw[ue,List.length_singleton];omega
  split
  . unfold zhU
    split
    . exact⟨h.1,Nat.le_trans (List.length_filter_le _ _) h.2⟩
    exact h
  split
  . exact give_small h
  exact h
theorem zkm:∀(l:List Msg) {c:Client},SmC c->SmC (runC c l)
  | [],_,h=>h
  | _::l,_,h=>zkm l (step_small h)
def zw4 (l:List Msg):Prop:=l.length<=100/\∀x∈l,x.raw.length<=1000000
theorem zv9 {α:Type} {p:α->Bool}:∀{l:List α} {k:Nat},idx p l=(k:Int)->∃x,l[k]?=some x/\p x=true
  | [],k,h=>by unfold idx at h;omega
  | x::l,k,h=>by
    have hg:=zkO p l;unfold idx at h
    split at h
    . rename_i c
      have:k=0:=ya
      subst this;exact⟨x,rfl,c⟩
    split at h
    . omega
    obtain⟨j,rfl⟩:∃j,k=j+1:=⟨k-1,by omega⟩;obtain⟨y,hy,hp⟩:=zv9 (p:=p) (l:=l) (k:=j) ya;exact⟨y,hy,hp⟩
def atI (c:Client) (h:Int):Int:=idx (fun x:Part=>decide (x.h.height=h)) c.p.p
def atOk (c:Client) (h:Int):Bool:=c.have_&&decide (0<=atI c h)
def atP (c:Client) (h:Int):Part:=if atOk c h=true then c.p.p.getD (atI c h).toNat zll else zll
theorem at_no {c:Client} {h:Int} (hn:¬atOk c h=true):atP c h=zll:=ur hn
theorem at_yes {c:Client} {h:Int} (hy:atOk c h=true):c.have_=true/\(atP c h).h.height=h/\c.p.p[(atI c h).toNat]?=some (atP c h)/\0<c.p.p.length:=by
  have hy':=hy;unfold atOk at hy';rw[uk,uj] at hy';obtain⟨h1,h2⟩:=hy';obtain⟨x,hx,hp⟩:=zv9 (p:=fun x:Part=>decide (x.h.height=h)) (l:=c.p.p) (k:=(atI c h).toNat) (by rw[Int.toNat_of_nonneg h2];rfl);have e:atP c h=x:=by unfold atP;rw[ut hy];simp[hx]
  rw[e];obtain⟨hl,_⟩:=ul.1 hx;exact⟨h1,by simpa using hp,hx,by omega⟩
def zr9 (c:Client) (h n i:Int) (tx:Ab.Id) (path:List Ab.Id):Bool:=atOk c h&&(decide (h<=IntKind.i64.wrap ((c.p.p.getD (c.p.p.length-1) zll).h.height-c.k))&&zdL (atP c h).h.txs n i tx path)
theorem any_mem {l:List Int} {w:Int}:(l.any fun x=>decide (w=x))=decide (w∈l):=by
  rw[Bool.eq_iff_iff,List.any_eq_true,uj]
  constructor
  . rintro ⟨x,hx,e⟩;rw[uj] at e;rw[e];exact hx
  intro h;exact⟨w,h,by simp⟩
def newC (m k:Int):Client:=⟨m,k,[],false,zdb⟩
theorem new_small (m k:Int):SmC (newC m k):=⟨⟨show(0:Nat)<=110 by decide,fun x hx=>by cases hx⟩,show(0:Nat)<=1000 by decide⟩
theorem zkh (c:Client):zdQ zZ c [.val i64T c.m,.val i64T c.k,.val (sl i64T) c.opn,.val zo c.have_,.val i64T c.p.m,.val i64T c.p.k,.val (sl zaK) c.p.p]:=zkf (zaY zaZ (zaY zaZ (zaY zaZ (zaY zaZ (zkf (zaY zaZ (zaY zaZ zaZ)))))))
theorem zsV (c:Client):zo0 zZ c [.val i64T c.m,.val i64T c.k,.val (sl i64T) c.opn,.val zo c.have_,.val i64T c.p.m,.val i64T c.p.k,.val (sl zaK) c.p.p]:=zkM (zb6 zbR (zb6 zbR (zb6 zbR (zb6 zbR (zkM (zb6 zbR (zb6 zbR zbR)))))))
def newOk (m k:Int):Bool:=decide (1<=m/\m<=20/\1<=k/\k<=20)
def newR (m k:Int):Client:=if 1<=m/\m<=20/\1<=k/\k<=20 then newC m k else ze7
theorem zwI (l:List Int) (hl:l.length*8<=140737488355328/\l.length<=9223372036854775807):Tells P 106 [.val (bsl i64T) l] (.fresh 3 i64T l):=by
 refine zc Tryz.func106 rfl rfl rfl (fun ext w hext=>?_);refine ze (d:=0) rfl zk (fun hsl0=>?_);refine qdK ?_;refine zfB rfl rfl rfl rfl rfl zpU (fun c4 hc4=>?_);refine CN ?_;refine zl (p:=c4=true) rfl yw (fun ht4=>?_) (fun ht4=>?_)
 .
  obtain rfl:=hc4 ht4;refine qfu ?_;exact zb rfl rfl (zs rfl)
 refine CSQR ?_;refine zbg (T:=i64T) (xs:=[]) rfl rfl rfl rfl zdG zhO trivial rfl rfl ?_;refine qaz ?_;refine zp rfl rfl rfl rfl rfl rfl rfl zhO yaD ?_;refine qbG ?_;exact zb rfl rfl (zf rfl rfl yw)
theorem equalInt (l m:List Int):Tells P 82 [.val (bsl i64T) l,.val (bsl i64T) m] (.val zo (decide (l=m))):=by
 refine zc Tryz.func82 rfl rfl rfl (fun ext w hext=>?_);refine ze (d:=0) rfl zk (fun hsl0=>?_);refine ze (d:=1) rfl zk (fun hsl1=>?_);refine qcK ?_;refine qbw ?_;refine qaz ?_;refine qbw ?_;refine qaG ?_;refine Cf (p:=¬l.length=m.length) (fun ht10=>?_) (fun ht10=>?_)
 .
  refine qar ?_;exact zb rfl rfl (za rfl (uh (fun e=>ht10 ybI)).symm)
 refine qcb ?_;refine qbw ?_;refine qaF ?_;refine Lp (ι:=Nat) 0 (fun (k:Nat)=>((((Fr.none).set 0 (.val (bsl i64T) l)).set 1 (.val (bsl i64T) m)).set 12 (.val i64T (l.length:Int))).set 13 (.val i64T (k:Int))) (fun (k:Nat)=>Hp.none) (fun (k:Nat)=>k<=l.length/\l.take k=m.take k) (fun (k:Nat)=>l.length-k) (0) (⟨uf _,by simp⟩) ?_;intro k hinv;refine qap ?_;refine Cf (p:=k<l.length) (fun ht14=>?_) (fun ht14=>?_)
 .
  obtain⟨x,hx⟩:∃x,l[k]?=some x:=⟨_,ub ht14⟩;obtain⟨y,hy⟩:∃y,m[k]?=some y:=yr;refine qbp ?_;refine qc3 ?_;refine qbl ?_;refine G0 (zct rfl rfl rfl zdG yj) ?_;refine qfp ?_;refine qbl ?_;refine G0 (zct rfl rfl rfl zdG yj) ?_;refine qfp ?_;refine G0 zd1 ?_;refine GK.nil ?_;refine zl (p:=¬x=y) rfl yx (fun ht24=>?_) (fun ht24=>?_)
  .
   refine qar ?_;exact zb rfl rfl (za rfl (uh (zd8 hx hy ht24)).symm)
  refine qbt ?_;exact Nx (k+1) (⟨by omega,zbN hx hy hinv.2 (by simpa using ht24)⟩) ya
 refine qcs ?_;exact zb rfl rfl (za rfl (ui yI).symm)
theorem zrj (l:List Part) (p:Part->Bool):Tells P 78 [.val (bsl zaK) l,.fn1 P zaK zo p] (.val i64T (idx p l)):=by
 refine zc Tryz.func78 rfl rfl rfl (fun ext w hext=>?_);refine ze (d:=0) rfl zk (fun hsl0=>?_);refine qcK ?_;refine qbM ?_;refine qaF ?_;refine Lp (ι:=Nat) 0 (fun (k:Nat)=>(((((Fr.none).set 0 (.val (bsl zaK) l)).set 1 (.fn1 P zaK zo p)).set 6 (.val (bsl zaK) l)).set 7 (.val i64T (l.length:Int))).set 8 (.val i64T (k:Int))) (fun (k:Nat)=>Hp.none) (fun (k:Nat)=>k<=l.length/\idx p l=shift k (idx p (l.drop k))) (fun (k:Nat)=>l.length-k) (0) (⟨uf _,zcC p l⟩) ?_;intro k hinv;refine qap ?_;refine Cf (p:=k<l.length) (fun ht9=>?_) (fun ht9=>?_)
 .
  obtain⟨x,hx⟩:∃x,l[k]?=some x:=yaN;refine qft ?_;refine qd7 ?_;refine A0 (zh rfl rfl zeR) ?_;refine qbr ?_;refine zl (p:=p x=true) rfl yw (fun ht16=>?_) (fun ht16=>?_)
  .
   refine qd3 ?_;exact zb rfl rfl (za rfl (hinv.2.trans (zgA hx ht16)).symm)
  refine qbt ?_;exact Nx (k+1) (⟨by omega,hinv.2.trans (zjs hx ht16)⟩) ya
 refine qcs ?_;exact zb rfl rfl (za rfl (hinv.2.trans (zfU ya)).symm)
theorem indexInt (l:List Int) (v:Int):Tells P 252 [.val (bsl i64T) l,.val i64T v] (.val i64T (idx (fun x=>decide (v=x)) l)):=by
 refine zc Tryz.func252 rfl rfl rfl (fun ext w hext=>?_);refine ze (d:=0) rfl zk (fun hsl0=>?_);refine ze (d:=1) rfl zz (fun hin1=>?_);refine qcK ?_;refine qbw ?_;refine qaF ?_;refine Lp (ι:=Nat) 0 (fun (k:Nat)=>(((((Fr.none).set 0 (.val (bsl i64T) l)).set 1 (.val i64T v)).set 6 (.val (bsl i64T) l)).set 7 (.val i64T (l.length:Int))).set 8 (.val i64T (k:Int))) (fun (k:Nat)=>Hp.none) (fun (k:Nat)=>k<=l.length/\idx (fun x=>decide (v=x)) l=shift k (idx (fun x=>decide (v=x)) (l.drop k))) (fun (k:Nat)=>l.length-k) (0) (⟨uf _,zcC _ l⟩) ?_;intro k hinv;refine qap ?_;refine Cf (p:=k<l.length) (fun ht9=>?_) (fun ht9=>?_)
 .
  obtain⟨x,hx⟩:∃x,l[k]?=some x:=yaN;refine qbp ?_;refine qbL ?_;refine qaz ?_;refine qdw ?_;refine qdh ?_;refine zl (p:=(decide (v=x))=true) rfl yx (fun ht16=>?_) (fun ht16=>?_)
  .
   refine qd3 ?_;exact zb rfl rfl (za rfl (hinv.2.trans (zgA hx ht16)).symm)
  refine qbt ?_;exact Nx (k+1) (⟨by omega,hinv.2.trans (zjs hx ht16)⟩) ya
 refine qcs ?_;exact zb rfl rfl (za rfl (hinv.2.trans (zfU ya)).symm)
theorem zjZ (l:List Int) (v:Int):Tells P 197 [.val (bsl i64T) l,.val i64T v] (.val zo (l.any fun x=>decide (v=x))):=by
 refine zc Tryz.func197 rfl rfl rfl (fun ext w hext=>?_);refine ze (d:=0) rfl zk (fun hsl0=>?_);refine ze (d:=1) rfl zz (fun hin1=>?_);refine CQR ?_;refine qbL ?_;refine A0 (oCl (indexInt _ _) rfl fn_252 ye) ?_;refine qfs ?_;exact zb rfl rfl (za rfl (zio _ l))
theorem newC22_ok (m k:Int):Tells P 14 [.val i64T m,.val i64T k] (.tup2 (.val zZ (newR m k)) (.val zo (newOk m k))):=by
 refine zc Tryz.func14 rfl rfl rfl (fun ext w hext=>?_);refine ze (d:=0) rfl zz (fun hin0=>?_);refine ze (d:=1) rfl zz (fun hin1=>?_);refine CQR ?_;refine qcf ?_;refine qag ?_;refine qcZ ?_;refine Sp (d:=8) (p:=m<1) (fun g8=>?_) (fun g8=>?_)
 .
  refine qc1 ?_;refine qai ?_;refine qdg ?_;refine Ct ?_;refine CQR ?_;refine A0 (zJ rfl ztZ bd_29 .nil rfl) ?_;refine qbV ?_;exact zi rfl rfl (zm rfl rfl za3 ybq) (zC (za rfl (ybm)))
 refine qca ?_;refine qai ?_;refine Sp (d:=12) (p:=20<m) (fun g12=>?_) (fun g12=>?_)
 .
  refine qc1 ?_;refine qat ?_;refine Ct ?_;refine CQR ?_;refine A0 (zJ rfl ztZ bd_29 .nil rfl) ?_;refine qbV ?_;exact zi rfl rfl (zm rfl rfl za3 ybq) (zC (za rfl (ybm)))
 refine qfY ?_;refine qdU ?_;refine Sp (d:=16) (p:=k<1) (fun g16=>?_) (fun g16=>?_)
 .
  refine qdg ?_;refine Ct ?_;refine CQR ?_;refine A0 (zJ rfl ztZ bd_29 .nil rfl) ?_;refine qbV ?_;exact zi rfl rfl (zm rfl rfl za3 ybq) (zC (za rfl (ybm)))
 refine qca ?_;refine qat ?_;refine Cf (p:=20<k) (fun ht19=>?_) (fun ht19=>?_)
 .
  refine CQR ?_;refine A0 (zJ rfl ztZ bd_29 .nil rfl) ?_;refine qbV ?_;exact zi rfl rfl (zm rfl rfl za3 ybq) (zC (za rfl (ybm)))
 refine qej ?_;refine A0 (zJ rfl ztZ bd_29 (.cons ziw zfI ty_3 rfl (.cons zlQ zjg ty_3 rfl .nil)) rfl) ?_;refine qbV ?_;exact zi rfl rfl (zm rfl rfl za3 (by unfold newR;rw[ut ya];rfl)) (zC (za rfl ((by unfold newOk;rw[ui ya]))))
theorem zpx (a b:Client):Tells P 30 [.val zZ a,.val zZ b] (.val zo (decide (a=b))):=by
 refine zc Tryz.func30 rfl rfl rfl (fun ext w hext=>?_);refine qeJ ?_;refine A0 (oFp ziw) ?_;refine A0 (oLb zfI ty_3) ?_;refine A0 (oFp ziw) ?_;refine A0 (oLb zfI ty_3) ?_;refine A0 zd7 ?_;refine qaz ?_;refine zX (d:=10) (p:=a.m=b.m) rfl yx (fun g10=>?_) (fun g10=>?_)
 .
  refine qdS ?_;refine qdS ?_;refine qep ?_;refine zX (d:=17) (p:=a.k=b.k) rfl yx (fun g17=>?_) (fun g17=>?_)
  .
   refine qdc ?_;refine qdc ?_;refine qgm ?_;refine qai ?_;refine zX (d:=24) (p:=a.have_=b.have_) rfl (by first|rfl|(cases a.have_<;>cases b.have_<;>rfl)) (fun g24=>?_) (fun g24=>?_)
   .
    refine qgl ?_;refine qgl ?_;refine A1 (oCl (equalInt a.opn b.opn) rfl fn_82 ye) ?_;refine qai ?_;refine Sp (d:=31) (p:=a.opn=b.opn) (fun g31=>?_) (fun g31=>?_)
    .
     refine A1 (oFp zcJ) ?_;refine A1 (oLb zby zaO) ?_;refine A1 (oFp zcJ) ?_;refine A1 (oLb zby zaO) ?_;refine A1 (oCl (sameP_ok a.p b.p) rfl fn_18 ye) ?_;refine qaE ?_;exact zb rfl rfl (za rfl (yaj))
    refine qer ?_;exact zb rfl rfl (za rfl ((by symm;apply uh;intro h;exact g31 yaY)))
   refine qda ?_;refine qd2 ?_;exact zb rfl rfl (za rfl ((by symm;apply uh;intro h;exact g24 yaY)))
  refine qda ?_;refine qay ?_;refine qd2 ?_;exact zb rfl rfl (za rfl ((by symm;apply uh;intro h;exact g17 yaY)))
 refine qda ?_;refine qay ?_;refine qay ?_;refine qd2 ?_;exact zb rfl rfl (za rfl ((by symm;apply uh;intro h;exact g10 yaY)))
theorem atFn_ok (h:Int) (x:Part):Tells P 79 [.val zaK x,.rptr i64T h] (.val zo (decide (x.h.height=h))):=by
 refine zc Tryz.func79 rfl rfl rfl (fun ext w hext=>?_);refine qe9 ?_;refine A0 (oFp zbA) ?_;refine A0 (oFp zcI) ?_;refine A0 (oLb (zbe.comp zal) ty_3) ?_;refine qbs ?_;refine A0 zd7 ?_;refine qad ?_;exact zb rfl rfl (za rfl yx)
theorem zu1 (c:Client) (h:Int) (hc:SmC c):Tells P 26 [.val zZ c,.val i64T h] (.tup2 (.val zaK (atP c h)) (.val zo (atOk c h))):=by
 have hge:=zkO (fun x:Part=>decide (x.h.height=h)) c.p.p;have hit:atI c h=idx (fun x:Part=>decide (x.h.height=h)) c.p.p:=rfl;refine zc Tryz.func26 rfl rfl rfl (fun ext w hext=>?_);refine ze (d:=1) rfl zz (fun hin1=>?_);refine qav ?_;refine qcw ?_;refine qaj ?_;refine qbR ?_;refine xE ?_;refine qex ?_;refine A0 (oCl (zrj c.p.p (fun x=>decide (x.h.height=h))) rfl fn_78 ⟨yk,(by first|exact zdO (Cs:=[_]) rfl fn_79 yn yb2 rfl (fun x=>atFn_ok h x)|exact zdN (Cs:=[_]) rfl fn_79 yn yb2 rfl (fun x y=>atFn_ok h x)|exact zdP rfl),trivial⟩) ?_;refine qbT ?_;refine A0 (oFp zhx) ?_;refine A0 (oLb zdv ty_4) ?_;refine A0 oN ?_;refine qaz ?_;refine zX (d:=16) (p:=¬c.have_=true) rfl yw (fun g16=>?_) (fun g16=>?_)
 .
  refine qdg ?_;refine Ct ?_;refine CQR ?_;refine xD ?_;refine qf8 ?_;exact zi rfl rfl (zm rfl rfl zeR ((at_no (fun h=>by unfold atOk at h;rw[uk] at h;exact g16 h.1)).symm)) (zC (za rfl (by symm;unfold atOk;simp[g16])))
 refine qfY ?_;refine A1 zc4 ?_;refine qat ?_;refine zl (p:=atI c h<0) rfl (by rw[hit,uo];simp only[IntL.toI,id_eq]) (fun ht19=>?_) (fun ht19=>?_)
 .
  refine CQR ?_;refine xD ?_;refine qf8 ?_;exact zi rfl rfl (zm rfl rfl zeR ((at_no (fun hh=>by unfold atOk at hh;rw[uk,uj] at hh;omega)).symm)) (zC (za rfl (by symm;unfold atOk;rw[uh ya,Bool.and_false])))
 have hyo:atOk c h=true:=by unfold atOk;rw[ua g16,Bool.true_and,uj];omega
 have hya:=at_yes hyo;have hyi:=hya.2.2.1;refine zj (d:=6) (y:=(((atI c h).toNat:Nat):Int)) rfl (by rw[Int.toNat_of_nonneg ya];rfl) ?_;refine CSQR ?_;refine qbR ?_;refine xE ?_;refine qaz ?_;refine A0 (zx (i:=(atI c h).toNat) rfl rfl rfl ya zcu yj) ?_;refine qbn ?_;refine CNQR ?_;refine qec ?_;refine A0 (oCl (zu (ziB (atP c h).l (by have:=hc.1.2 _ (ud hya.2.2.1);constructor<;>omega))) rfl zs9 yd) ?_;refine A0 (oFp zb3) ?_;refine zg rfl rfl rfl rfl rfl zcc zcl rfl ?_;refine CNQR ?_;refine A0 (oLs rfl rfl rfl zeR) ?_;refine qf8 ?_;exact zi rfl rfl (zm rfl rfl zeR (rfl)) (zC (za rfl (hyo.symm)))
theorem zcM (c:Client) (hc:SmC c):Tells P 48 [.val zZ c] (.val zZ c):=by
 have hc1:=hc.1.1;have hc2:=hc.2;refine zc Tryz.func48 rfl rfl rfl (fun ext w hext=>?_);refine qae ?_;refine qcf ?_;refine CN ?_;refine zek 0 (x:=c) (zkh c) rfl ?_;refine CQ ?_;refine zA [some 1,some 1,none,some 2,some 2,some 2,none,some 2,none,some 1,some 1,none] mixed yc ?_;refine X0 (oFp zec) ?_;refine qgc ?_;refine XK.e (fun fr' hfr kk H=>by exact zao (zwI c.opn yV) rfl fn_106 ⟨(zd ((hfr 6 yc).trans rfl)),trivial⟩ rfl rfl rfl (zD H)) ?_;refine XK.g2 (zdp rfl rfl zcJ rfl) (zdp rfl rfl zcJ rfl) rfl rfl rfl ?_;refine XK.g2 (zdp rfl rfl za1 rfl) (zdp rfl rfl za1 rfl) rfl rfl rfl ?_;refine XK.gb (t:=9) rfl rfl (fun _ he=>zaf rfl rfl he rfl rfl zcy) rfl yb6 rfl rfl rfl ?_;refine XK.e (fun fr' hfr kk H=>by exact zao (zoI c.p.p yV) rfl fn_107 ⟨(zd ((hfr 10 yc).trans rfl)),trivial⟩ rfl rfl rfl (zD H)) ?_;refine XK.g2 (zdp rfl rfl zec rfl) (zdp rfl rfl zec rfl) rfl rfl rfl ?_;refine XK.e (x:=.idk) (fun fr' hfr kk H=>by exact zay rfl rfl rfl ((hfr 12 yc).trans rfl) rfl rfl ((hfr 7 yc).trans rfl) rfl rfl rfl zkb (zD H)) ?_;refine X0 (oFp zcJ) ?_;refine X0 (oFp za1) ?_;refine XK.e (x:=.idk) (fun fr' hfr kk H=>by exact zay rfl rfl rfl ((hfr 14 yc).trans rfl) rfl rfl ((hfr 11 yc).trans rfl) rfl rfl rfl zcy (zD H)) ?_;refine qe6 ?_;refine CQQR ?_;refine qbR ?_;refine A0 (zaf rfl rfl rfl rfl rfl zcy) ?_;refine A0 (zbS rfl rfl rfl zdc) ?_;refine qaF ?_;refine Lp (ι:=Nat) 4 (fun i=>((((Fr.none.set 1 (.ptr 0 0)).set 2 (.ptr 1 0)).set 17 (.own 3)).set 18 (.val i64T (c.p.p.length:Int))).set 19 (.val i64T (i:Int))) (fun i=>(((Hp.none.set 0 (.parts 29 [.val i64T c.m,.val i64T c.k,.own 2,.val zo c.have_,.val i64T c.p.m,.val i64T c.p.k,.own 3])).set 1 (.box 29 zZ ze7)).set 2 (.row 3 i64T c.opn)).set 3 (.row 72 zaK c.p.p)) (fun i=>i<=c.p.p.length) (fun i=>c.p.p.length-i) (0) (uf _) ?_;intro i hinv;refine qap ?_;refine Cf (p:=i<c.p.p.length) (fun ht20=>?_) (fun ht20=>?_)
 .
  obtain⟨x,hx⟩:∃x,c.p.p[i]?=some x:=⟨_,ub ht20⟩;refine qbp ?_;refine A0 (zau (i:=i) rfl rfl rfl rfl yi zcu yh) ?_;refine qds ?_;refine xd ?_;refine X0 (oFp zcJ) ?_;refine qcN ?_;refine X0 (oCl (zu (ziB x.l (by have:=hc.1.2 x (ud hx);constructor<;>omega))) rfl zs9 yd) ?_;refine X0 (zau (i:=i) rfl rfl rfl rfl yi zcu yh) ?_;refine X0 (zoo rfl rfl zb3 rfl) ?_;refine XK.e (x:=.idk) (fun fr' hfr kk H=>by exact zda rfl rfl rfl ((hfr 32 yc).trans rfl) rfl rfl yj zcc zcl ((hfr 30 yc).trans rfl) (zD H)) ?_;refine qdL ?_;refine zq (n:=3) (y:=c.p.p) rfl (zqK hx) ?_;exact Nx (i+1) ya ya
 refine qe7 ?_;refine zeC 0 2 (pre:=[.val i64T c.m,.val i64T c.k]) rfl rfl rfl ?_;refine zeC 0 3 (pre:=[.val i64T c.m,.val i64T c.k,.val (sl i64T) c.opn,.val zo c.have_,.val i64T c.p.m,.val i64T c.p.k]) rfl rfl rfl ?_;refine aw_joina 0 (zsV c) rfl ?_;refine CR ?_;refine qaB ?_;refine qao ?_;refine CN ?_;exact zE rfl rfl rfl rfl za3 (rfl)
theorem sure22_ok (c:Client) (h n i:Int) (tx:Ab.Id) (path:List Ab.Id) (hc:SmC c):Tells P 40 [.val zZ c,.val i64T h,.val i64T n,.val i64T i,.val idT tx,.val (bsl idT) path] (.val zo (zr9 c h n i tx path)):=by
 have hc1:=hc.1.1;refine zc Tryz.func40 rfl rfl rfl (fun ext w hext=>?_);refine ze (d:=1) rfl zz (fun hin1=>?_);refine ze (d:=2) rfl zz (fun hin2=>?_);refine ze (d:=3) rfl zz (fun hin3=>?_);refine ze (d:=5) rfl zk (fun hsl5=>?_);refine qav ?_;refine qdM ?_;refine A0 (oCl (zu1 c h hc) rfl fn_26 ye) ?_;refine qfV ?_;refine qfg ?_;refine zl (p:=¬atOk c h=true) rfl yw (fun ht23=>?_) (fun ht23=>?_)
 .
  refine qar ?_;exact zb rfl rfl (za rfl (by symm;unfold zr9;simp[ht23]))
 have hyo:=ua ht23;have hya:=at_yes hyo;obtain⟨y,hy⟩:∃y,c.p.p[c.p.p.length-1]?=some y:=⟨_,ub (by have:=hya.2.2.2;omega)⟩;have hlast:c.p.p.getD (c.p.p.length-1) zll=y:=ybt;refine CSQR ?_;refine qbR ?_;refine xE ?_;refine qbR ?_;refine xE ?_;refine qbM ?_;refine qfv ?_;refine A0 (zx (i:=c.p.p.length-1) rfl rfl rfl ya zcu yj) ?_;refine qbn ?_;refine qd5 ?_;refine A0 (oFp zbA) ?_;refine A0 (oFp zcI) ?_;refine A0 (oLb (zbe.comp zal) ty_3) ?_;refine A0 (oFp zlQ) ?_;refine A0 (oLb zjg ty_3) ?_;refine A0 (zgC rfl rfl rfl (show _=(IntKind.i64.wrap (y.h.height-c.k):Int) from rfl)) ?_;refine A0 zfR ?_;refine qaz ?_;refine Sp (d:=42) (p:=h<=IntKind.i64.wrap (y.h.height-c.k)) (fun g42=>?_) (fun g42=>?_)
 .
  refine A1 (oFp zbA) ?_;refine A1 (oFp zfW) ?_;refine A1 (oLb (zbe.comp zcF) zY) ?_;refine qdi ?_;refine A1 (oLs rfl rfl rfl zY) ?_;refine qfY ?_;refine A1 (oCl (checkTr_ok (atP c h).h.txs n i tx path) rfl fn_41 ⟨yk,yk,yk,yk,yk,trivial⟩) ?_;refine qaE ?_;exact zb rfl rfl (za rfl (by unfold zr9;rw[hyo,hlast,ui g42];simp))
 refine qab ?_;refine qer ?_;exact zb rfl rfl (za rfl (by unfold zr9;rw[hyo,hlast,uh g42];simp))
structure DelOk (l R:List Int) (who:Int) (j:Nat):Prop where
  len:R.length=l.length
  lt:(without (l.take j) who).length<j
  front:R.take (without (l.take j) who).length=without (l.take j) who
  back:R.drop j=l.drop j
theorem zqz {l:List Int} {j:Nat} {x who:Int} (hx:l[j]?=some x):without (l.take (j+1)) who=without (l.take j) who++if x=who then [] else [x]:=by
  unfold without;rw[un,hx,List.filter_append];congr 1;show [x].filter _=_;rw[List.filter_cons];by_cases c:x=who
  . simp[c]
  simp[c]
theorem wo_none {who:Int}:∀{l:List Int},¬who∈l->without l who=l:=fun {l} h=>by
  unfold without;refine List.filter_eq_self.2 fun x hx=>?_
  simp only[Bool.not_eq_true',decide_eq_false_iff_not];intro e;rw[e] at hx;exact h hx
theorem zpW {who:Int}:∀{l:List Int} {k:Nat},idx (fun x=>decide (x=who)) l=(k:Int)->¬who∈l.take k
  | [],k,h=>by simp
  | x::l,k,h=>by
    have hg:=zkO (fun x=>decide (x=who)) l;unfold idx at h
    split at h
    . have:k=0:=by omega
      subst this;simp
    rename_i c
    split at h
    . omega
    obtain⟨j,rfl⟩:∃j,k=j+1:=⟨k-1,by omega⟩
    have:=zpW (who:=who) (l:=l) (k:=j) ya
    rw[List.take_succ_cons,mem_cons]
    rintro (e|h2)
    . exact c (by simp[e])
    exact this h2
theorem idx_mem {who:Int} {l:List Int} (h:who∈l):¬idx (fun x=>decide (x=who)) l = -1:=fun e=>by
  have:=zio (fun x=>decide (x=who)) l
  rw[e] at this;have h2:(l.any fun x=>decide (x=who))=true:=List.any_eq_true.2 ⟨who,h,by simp⟩;rw[h2] at this;simp at this
theorem del_start {l:List Int} {who:Int} {k:Nat} {x:Int} (hx:l[k]?=some x) (hw:x=who) (hk:idx (fun x=>decide (x=who)) l=(k:Int)):DelOk l l who (k+1)/\(without (l.take (k+1)) who).length=k:=by
  obtain⟨hl,_⟩:=ul.1 hx;have e:without (l.take (k+1)) who=l.take k:=by rw[zqz hx,ut hw,append_nil,wo_none (zpW hk)]
  have e2:(without (l.take (k+1)) who).length=k:=by rw[e,um];omega
  exact⟨⟨rfl,by omega,by rw[e2,e],rfl⟩,e2⟩
theorem del_at {l R:List Int} {who:Int} {j:Nat} (h:DelOk l R who j):R[j]?=l[j]?:=by
  have:=congrArg (·[0]?) h.back
  simpa using this
theorem del_keep {l R:List Int} {who:Int} {j:Nat} {x:Int} (h:DelOk l R who j) (hx:l[j]?=some x) (hn:¬x=who):DelOk l (R.set (without (l.take j) who).length x) who (j+1)/\(without (l.take (j+1)) who).length=(without (l.take j) who).length+1:=by
  obtain⟨hl,_⟩:=ul.1 hx;have e:without (l.take (j+1)) who=without (l.take j) who++[x]:=by rw[zqz hx,ur hn]
  have e2:(without (l.take (j+1)) who).length=(without (l.take j) who).length+1:=by rw[e,ue];rfl
  have h1:=h.len;have h2:=h.lt;refine⟨⟨by rw[List.length_set];exact h1,by omega,?_,?_⟩,e2⟩
  . rw[e2,un,List.getElem?_set_self ya,e]
    rw[List.take_set_of_le (ug _),h.front];rfl
  rw[List.drop_set_of_lt ya,<-drop_drop,h.back,drop_drop]
theorem del_skip {l R:List Int} {who:Int} {j:Nat} {x:Int} (h:DelOk l R who j) (hx:l[j]?=some x) (hn:x=who):DelOk l R who (j+1)/\(without (l.take (j+1)) who).length=(without (l.take j) who).length:=by
  have e:without (l.take (j+1)) who=without (l.take j) who:=by rw[zqz hx,ut hn,append_nil]
  have h2:=h.lt;exact⟨⟨h.len,by rw[e];omega,by rw[e];exact h.front,by rw[<-drop_drop,h.back,drop_drop]⟩,by rw[e]⟩
theorem del_end {l R:List Int} {who:Int} {j:Nat} (h:DelOk l R who j) (hj:l.length<=j) (z:List Int):(R.take (without l who).length++z).take (without l who).length=without l who:=by
  have e:l.take j=l:=uc hj;have hf:=h.front;rw[e] at hf;have h2:=List.length_filter_le (fun x=>!decide (x=who)) l;have h1:=h.len;rw[List.take_append_of_le_length (by rw[um];unfold without;omega),List.take_take,Nat.min_self,hf]
def workZ:Array Value:=#[.int .i64 0,.int .i64 0,.slice none 0 0,.bool false,.int .i64 0,.int .i64 0,.slice none 0 0,.int .i64 0,.int .i64 0,.slice none 0 0]
theorem run_work {o:Oper} {y0 y1:Operand} (ho:o.op = .build 157 #[(0,y0),(1,y1)]) (e:Operand->Value) (w:World) (h:([y0,y1].map fun y=>(e y).cells.size)=[7,3]):(execOp e o).run P w = .ok (.value (.agg ([y0,y1].flatMap fun y=>(e y).cells.toList).toArray)) w :=
  run_build2 (z:=workZ) (fun w=>by kernel_rfl) yt yt yt ho e w h
theorem split_msg (kd who:Int) (raw:List UInt8):zdQ msgT (⟨kd,who,raw⟩:Msg) [.val i64T kd,.val i64T who,.val (sl u8T) raw]:=zkf (zaY zaZ (zaY zaZ zaZ))
theorem zuu (p:Proof):zo0 zP p [.val i64T p.m,.val i64T p.k,.val (sl zaK) p.p]:=zkM (zb6 zbR (zb6 zbR zbR))
theorem zsW (m k:Int) (o:List Int) (h:Bool) (p:Proof):zo0 zZ (⟨m,k,o,h,p⟩:Client) [.val i64T m,.val i64T k,.val (sl i64T) o,.val zo h,.val zP p]:=zkM (zb6 zbR (zb6 zbR (zb6 zbR (zb6 zbR zbR))))
theorem zrQ {l:List Int} {w:Int}:decide (¬w∈l) = !(l.any fun x=>decide (w=x)):=by rw[any_mem];simp
theorem zcg {c:Client} {kd who:Int} {raw:List UInt8} (h:who<0\/63<who\/kd<0\/3<=kd):zdZ c ⟨kd,who,raw⟩=(c,1):=by unfold zdZ;exact ut h
theorem zap {c:Client} {kd who:Int} {raw:List UInt8} (h:¬(who<0\/63<who\/kd<0\/3<=kd)):zdZ c ⟨kd,who,raw⟩=if kd=0 then zjj c who else if kd=1 then zhU c who else if who∈c.opn then zcH c raw else (c,9):=by
  have e:zdZ c ⟨kd,who,raw⟩=if who<0\/63<who\/kd<0\/3<=kd then (c,1) else if kd=0 then zjj c who else if kd=1 then zhU c who else if who∈c.opn then zcH c raw else (c,9):=rfl
  rw[e,ur h]
theorem wo_short {l:List Int} {who:Int} (h:who∈l):(without l who).length<l.length:=by
  unfold without;exact List.length_filter_lt_length_iff_exists.2 ⟨who,h,by simp⟩
theorem step22_ok (c:Client) (x:Msg) (hc:SmC c) (hr:x.raw.length<=1000000000):Tells P 31 [.val zZ c,.val msgT x] (.tup2 (.val zZ (zdZ c x).1) (.val i64T (zdZ c x).2)):=by
 obtain⟨kd,who,raw⟩:=x;have hraw:raw.length<=1000000000:=hr;have hc1:=hc.1.1;have hc2:=hc.2;refine zc Tryz.func31 rfl rfl rfl (fun ext w hext=>?_);refine qav ?_;refine qcf ?_;refine qaj ?_;refine A0 (zrq (xs:=[_,_,_]) rfl zwZ ze_155 ⟨rfl,⟨_,rfl,rfl⟩,rfl,⟨_,rfl,rfl⟩,rfl,⟨_,rfl,rfl⟩,trivial⟩ rfl) ?_;refine zN ze_155 rfl rfl rfl rfl ?_;refine zg rfl rfl rfl rfl rfl (Lens.self _) ty_155 rfl ?_;refine CNQQR ?_;refine qed ?_;refine A0 zc4 ?_;refine Sp (d:=12) (p:=who<0) (fun g12=>?_) (fun g12=>?_)
 .
  refine qaz ?_;refine qcX ?_;refine qeA ?_;refine Ct ?_;refine qch ?_;refine xF ?_;refine qbV ?_;exact zi rfl rfl (zm rfl rfl za3 yZ) (zC (za rfl yZ))
 refine qaz ?_;refine A1 (oFp zfX) ?_;refine A1 (oLb zhg ty_3) ?_;refine A1 zcq ?_;refine A0 oK ?_;refine Sp (d:=17) (p:=63<who) (fun g17=>?_) (fun g17=>?_)
 .
  refine qaz ?_;refine qcX ?_;refine qat ?_;refine Ct ?_;refine qch ?_;refine xF ?_;refine qbV ?_;exact zi rfl rfl (zm rfl rfl za3 yZ) (zC (za rfl yZ))
 refine qaz ?_;refine qfb ?_;refine A1 zc4 ?_;refine A0 oK ?_;refine Sp (d:=22) (p:=kd<0) (fun g22=>?_) (fun g22=>?_)
 .
  refine qaz ?_;refine qcA ?_;refine Ct ?_;refine qch ?_;refine xF ?_;refine qbV ?_;exact zi rfl rfl (zm rfl rfl za3 yZ) (zC (za rfl yZ))
 refine qaz ?_;refine qfb ?_;refine A1 zgb ?_;refine qat ?_;refine Cf (p:=3<=kd) (fun ht27=>?_) (fun ht27=>?_)
 .
  refine qch ?_;refine xF ?_;refine qbV ?_;exact zi rfl rfl (zm rfl rfl za3 yZ) (zC (za rfl yZ))
 refine qfE ?_;refine zA [some 1,none,some 2,some 1,none,some 1] mixed yc ?_;refine X0 (oLs rfl rfl rfl za3) ?_;refine XK.e (fun fr' hfr kk H=>by
  refine zqp _ rfl rfl rfl rfl (consEq (hfr 30 yc) (rfl)) Tryz.func48 zjS rfl rfl (fun ia1 iok1=>?_);refine qae ?_;refine qcf ?_;refine CN ?_;refine zek 4 (x:=c) (zkh c) rfl ?_;refine CQ ?_;refine zA [some 1,some 1,none,some 2,some 2,some 2,none,some 2,none,some 1,some 1,none] mixed yc ?_;refine X0 (oFp zec) ?_;refine qgc ?_;refine XK.e (fun fr' hfr kk H=>by exact zao (zwI c.opn yV) rfl fn_106 ⟨(zd ((hfr 6 yc).trans rfl)),trivial⟩ rfl rfl rfl (zD H)) ?_;refine XK.g2 (zdp rfl rfl zcJ rfl) (zdp rfl rfl zcJ rfl) rfl rfl rfl ?_;refine XK.g2 (zdp rfl rfl za1 rfl) (zdp rfl rfl za1 rfl) rfl rfl rfl ?_;refine XK.gb (t:=9) rfl rfl (fun _ he=>zaf rfl rfl he rfl rfl zcy) rfl yb6 rfl rfl rfl ?_;refine XK.e (fun fr' hfr kk H=>by exact zao (zoI c.p.p yV) rfl fn_107 ⟨(zd ((hfr 10 yc).trans rfl)),trivial⟩ rfl rfl rfl (zD H)) ?_;refine XK.g2 (zdp rfl rfl zec rfl) (zdp rfl rfl zec rfl) rfl rfl rfl ?_;refine XK.e (x:=.idk) (fun fr' hfr kk H=>by exact zay rfl rfl rfl ((hfr 12 yc).trans rfl) rfl rfl ((hfr 7 yc).trans rfl) rfl rfl rfl zkb (zD H)) ?_;refine X0 (oFp zcJ) ?_;refine X0 (oFp za1) ?_;refine XK.e (x:=.idk) (fun fr' hfr kk H=>by exact zay rfl rfl rfl ((hfr 14 yc).trans rfl) rfl rfl ((hfr 11 yc).trans rfl) rfl rfl rfl zcy (zD H)) ?_;refine qe6 ?_;refine CQQR ?_;refine qbR ?_;refine A0 (zaf rfl rfl rfl rfl rfl zcy) ?_;refine A0 (zbS rfl rfl rfl zdc) ?_;refine qaF ?_;refine Lp (ι:=Nat) 8 (fun i=>((((Fr.none.set 1 (.ptr 4 0)).set 2 (.ptr 5 0)).set 17 (.own 7)).set 18 (.val i64T (c.p.p.length:Int))).set 19 (.val i64T (i:Int))) (fun i=>(((((((Hp.none.set 0 (.box 29 zZ c)).set 1 (.box 36 msgT ⟨kd,who,raw⟩)).set 2 (.box 29 zZ ze7)).set 3 (.box 155 (arrT 3 yl fnoT) [some 83,some 84,some 85])).set 4 (.parts 29 [.val i64T c.m,.val i64T c.k,.own 6,.val zo c.have_,.val i64T c.p.m,.val i64T c.p.k,.own 7])).set 5 (.box 29 zZ ze7)).set 6 (.row 3 i64T c.opn)).set 7 (.row 72 zaK c.p.p)) (fun i=>i<=c.p.p.length) (fun i=>c.p.p.length-i) (0) (uf _) ?_;intro i hinv;refine qap ?_;refine Cf (p:=i<c.p.p.length) (fun ht20=>?_) (fun ht20=>?_)
  .
   obtain⟨x,hx⟩:∃x,c.p.p[i]?=some x:=⟨_,ub ht20⟩;refine qbp ?_;refine A0 (zau (i:=i) rfl rfl rfl rfl yi zcu yh) ?_;refine qds ?_;refine xd ?_;refine X0 (oFp zcJ) ?_;refine qcN ?_;refine X0 (oCl (zu (ziB x.l (by have:=hc.1.2 x (ud hx);constructor<;>omega))) rfl zs9 yd) ?_;refine X0 (zau (i:=i) rfl rfl rfl rfl yi zcu yh) ?_;refine X0 (zoo rfl rfl zb3 rfl) ?_;refine XK.e (x:=.idk) (fun fr' hfr kk H=>by exact zda rfl rfl rfl ((hfr 32 yc).trans rfl) rfl rfl yj zcc zcl ((hfr 30 yc).trans rfl) (zD H)) ?_;refine qdL ?_;refine zq (n:=7) (y:=c.p.p) rfl (zqK hx) ?_;exact Nx (i+1) ya ya
  refine qe7 ?_;refine zeC 4 7 (pre:=[.val i64T c.m,.val i64T c.k,.own 6,.val zo c.have_,.val i64T c.p.m,.val i64T c.p.k]) rfl rfl rfl ?_;refine zoS 4 (pre:=[.val i64T c.m,.val i64T c.k,.own 6,.val zo c.have_]) (zuu c.p) rfl rfl ?_;refine CR ?_;refine A0 (g_loadcat rfl rfl rfl rfl za3) ?_;refine zuY rfl rfl rfl rfl rfl rfl rfl rfl za3 ?_;refine CN ?_;refine zoQ (nx':=8) (fr':=(Fr.none).set 2 (.ptr 5 0)) (hp':=((((((Hp.none).set 0 (.box 29 zZ c)).set 1 (.box 36 msgT ⟨kd,who,raw⟩)).set 2 (.box 29 zZ ze7)).set 3 (.box 155 (arrT 3 yl fnoT) [some 83,some 84,some 85])).set 5 (.parts 29 [.val i64T c.m,.val i64T c.k,.own 6,.val zo c.have_,.val zP c.p])).set 6 (.row 3 i64T c.opn)) ?_ rfl (by (repeat refine Fr.le_set ?_ yaM);exact Fr.le_none _) (by (repeat refine Hp.le_set ?_ rfl);exact Hp.le_none _) (by (repeat refine Fr.below_setB ?_ rfl);exact Fr.below_none _) (by (repeat refine Hp.below_set ?_ yl);exact Hp.below_none _);exact aw_backcat rfl rfl rfl rfl za3 (zD H)) ?_
 refine XK.gb (t:=3) rfl rfl (fun _ he=>zr rfl rfl he (Lens.self _) ty_36) rfl yb6 rfl rfl rfl ?_;refine X0 (zuy rfl (fun e w h=>run_work rfl e w h) rfl rfl) ?_;refine XK.e (fun fr' hfr kk H=>by exact aw_boxcat rfl rfl rfl rfl ((hfr 33 yc).trans rfl) rfl (zD H)) ?_;refine X0 aP ?_;refine qe6 ?_;refine ztH 8 (pre:=[.val i64T c.m,.val i64T c.k,.own 6,.val zo c.have_,.val zP c.p]) (split_msg _ who raw) rfl ?_;refine CQ ?_;refine CQ ?_;rcases (show kd=0\/kd=1\/kd=2 by omega) with rfl|rfl|rfl
 .
  refine CR ?_;refine qdT ?_;refine A0 (zy (i:=0) rfl rfl rfl yi zwZ ya) ?_;refine A0 (zr rfl rfl rfl (Lens.elem (i:=0) ya fnoT) ty_153) ?_;refine zj (d:=38) (y:=some 83) rfl rfl ?_;refine zdC (d:=38) (f:=83) rfl ?_;refine zeE 3 ?_;refine A0 mP ?_;refine zdW rfl rfl rfl rfl rfl Tryz.func83 fn_83 rfl rfl yC (fun ia5 iok5=>?_);refine CQR ?_;refine qaL ?_;refine qgf ?_;refine A0 mP ?_;refine z6 rfl rfl rfl rfl Tryz.func150 fn_150 rfl rfl (fun ia6 iok6=>?_);refine CQR ?_;refine qbh ?_;refine xG ?_;refine qaM ?_;refine zcx rfl ?_;refine qbe ?_;refine zl (p:=who∈c.opn) rfl (by first|exact any_mem'|exact any_mem) (fun ht3=>?_) (fun ht3=>?_)
  .
   refine qfW ?_;refine Ct ?_;refine qch ?_;refine xF ?_;refine qdr ?_;exact zi rfl rfl (zm rfl rfl za3 (by rw[zap ya,ut rfl];unfold zjj;rw[ut ht3])) (zC (za rfl (by rw[zap ya,ut rfl];unfold zjj;rw[ut ht3])))
  refine CQR ?_;refine A0 mP ?_;refine qfm ?_;refine A0 (oFp zec) ?_;refine qek ?_;refine qfS ?_;refine qfs ?_;refine Cf (p:=8<=c.opn.length) (fun ht6=>?_) (fun ht6=>?_)
  .
   refine qfW ?_;refine Ct ?_;refine qch ?_;refine xF ?_;refine qdr ?_;exact zi rfl rfl (zm rfl rfl za3 (by rw[zap ya,ut rfl];unfold zjj;rw[ur ht3,ut ht6])) (zC (za rfl (by rw[zap ya,ut rfl];unfold zjj;rw[ur ht3,ut ht6])))
  refine qeS ?_;refine CQ ?_;refine zA [some 1000001,some 1,some 1,some 1,some 1,some 1,some 1,some 1,some 1,some 1,some 1,some 1,none,some 1,some 1,some 1,none] mixed yc ?_;refine XK.ga (fun _=>g_mp (.inl rfl) rfl) rfl rfl rfl ?_;refine X0 mP ?_;refine qdC ?_;refine qgc ?_;refine X0 mP ?_;refine qf2 ?_;refine X0 (oFp zkZ) ?_;refine X0 (oFp zfX) ?_;refine X0 (zaf rfl rfl rfl rfl rfl ty_3) ?_;refine X0 (zW (T:=i64T) (xs:=[_]) rfl zdG zhO yA rfl rfl) ?_;refine XK.e (fun fr' hfr kk H=>by exact zp rfl rfl rfl rfl ((hfr 19 yc).trans rfl) rfl ((hfr 25 yc).trans rfl) zhO yB (zD H)) ?_;refine qdC ?_;refine XK.e (x:=.idk) (fun fr' hfr kk H=>by exact zay rfl rfl rfl ((hfr 29 yc).trans rfl) rfl rfl ((hfr 26 yc).trans rfl) rfl rfl rfl zkb (zD H)) ?_;refine qe6 ?_;refine qfW ?_;refine Cg ?_;refine qfE ?_;refine zco 9 6 12 rfl rfl rfl rfl rfl rfl ?_;refine xH ?_;refine qbg ?_;exact zi rfl rfl (zm rfl rfl za3 (by rw[zap ya,ut rfl];unfold zjj;rw[ur ht3,ur ht6])) (zC (za rfl (by rw[zap ya,ut rfl];unfold zjj;rw[ur ht3,ur ht6])))
 .
  refine CR ?_;refine qdT ?_;refine A0 (zy (i:=1) rfl rfl rfl yi zwZ ya) ?_;refine A0 (zr rfl rfl rfl (Lens.elem (i:=1) ya fnoT) ty_153) ?_;refine zj (d:=38) (y:=some 84) rfl rfl ?_;refine zdC (d:=38) (f:=84) rfl ?_;refine zeE 3 ?_;refine A0 mP ?_;refine zdW rfl rfl rfl rfl rfl Tryz.func84 fn_84 rfl rfl yC (fun ia7 iok7=>?_);refine CQR ?_;refine zrM rfl rfl rfl rfl rfl rfl rfl ?_;refine qbT ?_;refine A0 (zaf rfl rfl rfl rfl rfl zr1) ?_;refine z6 rfl rfl rfl rfl Tryz.func150 fn_150 rfl rfl (fun ia9 iok9=>?_);refine CQR ?_;refine qbh ?_;refine xG ?_;refine qaM ?_;refine zcx rfl ?_;refine qaT ?_;refine zl (p:=¬who∈c.opn) rfl (by first|exact zrQ|exact zrQ.symm) (fun ht5=>?_) (fun ht5=>?_)
  .
   refine qfW ?_;refine Ct ?_;refine qch ?_;refine xF ?_;refine qdr ?_;exact zi rfl rfl (zm rfl rfl za3 (by rw[zap ya,ur yl,ut rfl];unfold zhU;rw[ur ht5])) (zC (za rfl (by rw[zap ya,ur yl,ut rfl];unfold zhU;rw[ur ht5])))
  have hwm:=ua ht5;refine qfE ?_;refine zA [some 1000001,some 1,some 1,some 1,some 1,some 1,some 1,none,some 1,some 1,some 1,none] mixed yc ?_;refine XK.gf (t:=1) rfl rfl (fun _ he=>zaf rfl rfl he rfl rfl zr1) ⟨yG,trivial⟩ rfl rfl rfl ?_;refine X0 (zaf rfl rfl rfl rfl rfl zr1) ?_;refine qdC ?_;refine qgc ?_;refine X0 (g_mkf (caps:=[_]) rfl rfl) ?_;refine XK.e (fun fr' hfr kk H=>by
   refine zqp _ rfl rfl rfl rfl (consEq (hfr 11 yc) (consEq (hfr 12 yc) (rfl))) Tryz.func151 fn_151 rfl rfl (fun ia10 iok10=>?_);refine qbQ ?_;refine A0 mO ?_;refine A0 mC ?_;refine z6 rfl rfl rfl rfl Tryz.func198 fn_198 rfl rfl (fun ia11 iok11=>?_);refine CQR ?_;refine qbT ?_;refine A0 mO ?_;refine qfS ?_;refine qaF ?_;refine Lp (ι:=Nat) 10 (fun k=>((((Fr.none.set 0 (.own 6)).set 1 (.clo 152 [9])).set 6 (.own 6)).set 7 (.val i64T (c.opn.length:Int))).set 8 (.val i64T (k:Int))) (fun k=>(((Hp.none.set 2 (.box 29 zZ ze7)).set 8 (.parts 157 [.val i64T c.m,.val i64T c.k,.own 6,.val zo c.have_,.val zP c.p,.val i64T 1,.val i64T who,.val (sl u8T) raw])).set 6 (.row 3 i64T c.opn)).set 9 (.parts 154 [.ptr 8 0])) (fun k=>k<=c.opn.length/\idx (fun x=>decide (x=who)) c.opn=shift k (idx (fun x=>decide (x=who)) (c.opn.drop k))) (fun k=>c.opn.length-k) (0) (⟨uf _,zcC _ _⟩) ?_;intro k hinv;refine qap ?_;refine Cf (p:=k<c.opn.length) (fun ht9=>?_) (fun ht9=>?_)
   .
    obtain⟨x,hx⟩:∃x,c.opn[k]?=some x:=yaN;refine qbp ?_;refine qaj ?_;refine A0 mC ?_;refine A0 mO ?_;refine qaz ?_;refine A0 (zau rfl rfl rfl rfl yi zdG yh) ?_;refine qfB ?_;refine zdW rfl rfl rfl rfl rfl Tryz.func152 fn_152 rfl rfl yH (fun ia12 iok12=>?_);refine qe8 ?_;refine A0 (zaf rfl rfl rfl rfl rfl zr1) ?_;refine qcL ?_;refine A0 (oFp zkZ) ?_;refine A0 (oFp zfX) ?_;refine A0 (zaf rfl rfl rfl rfl rfl ty_3) ?_;refine A0 zd7 ?_;refine qad ?_;refine zcx rfl ?_;refine CN ?_;refine zl (p:=x=who) rfl yx (fun ht16=>?_) (fun ht16=>?_)
    .
     have hk:=hinv.2.trans (zgA hx (by simp[ht16]));have hds:=del_start hx ht16 hk;refine qd3 ?_;refine zcx rfl ?_;refine A0 aX ?_;refine CNQQR ?_;refine A0 mX ?_;refine qdh ?_;refine zgH rfl (uh ybi) ?_;refine CSQQR ?_;refine A0 mX ?_;refine qfX ?_;refine qco ?_;refine zj (d:=5) (y:=((without (c.opn.take (k+1)) who).length:Int)) rfl (by rw[hds.2]) ?_;refine Lp (ι:=Nat×List Int) 10 (fun(j,R)=>(((Fr.none.set 0 (.own 6)).set 1 (.clo 152 [9])).set 5 (.val i64T ((without (c.opn.take j) who).length:Int))).set 6 (.val i64T (j:Int))) (fun(j,R)=>(((Hp.none.set 2 (.box 29 zZ ze7)).set 8 (.parts 157 [.val i64T c.m,.val i64T c.k,.own 6,.val zo c.have_,.val zP c.p,.val i64T 1,.val i64T who,.val (sl u8T) raw])).set 6 (.row 3 i64T R)).set 9 (.parts 154 [.ptr 8 0])) (fun(j,R)=>DelOk c.opn R who j) (fun(j,R)=>c.opn.length-j) ((k+1,c.opn)) (hds.1) ?_;intro⟨j,R⟩ hj;dsimp only at hj;refine qbd ?_;refine A0 mO ?_;refine qfS ?_;refine qa7 ?_;refine zl (p:=j<c.opn.length) rfl (by rw[uo];simp only[IntL.toI,id_eq,hj.len];omega) (fun ht19=>?_) (fun ht19=>?_)
     .
      obtain⟨x,hx⟩:∃x,c.opn[j]?=some x:=⟨_,ub ht19⟩;have hxR:=(del_at hj).trans hx;have hlR:=hj.len;have hltR:=hj.lt;obtain⟨z,hz⟩:∃z,R[(without (c.opn.take j) who).length]?=some z:=yr;refine qeh ?_;refine A0 mO ?_;refine qaz ?_;refine A0 (zau (i:=j) rfl rfl rfl rfl yi zdG yh) ?_;refine qfB ?_;refine qaj ?_;refine A0 mC ?_;refine qaz ?_;refine zdW rfl rfl rfl rfl rfl Tryz.func152 fn_152 rfl rfl yH (fun ia13 iok13=>?_);refine qe8 ?_;refine A0 (zaf rfl rfl rfl rfl rfl zr1) ?_;refine qcL ?_;refine A0 (oFp zkZ) ?_;refine A0 (oFp zfX) ?_;refine A0 (zaf rfl rfl rfl rfl rfl ty_3) ?_;refine A0 zd7 ?_;refine qad ?_;refine zcx rfl ?_;refine qaT ?_;refine zl (p:=¬x=who) rfl yx (fun ht29=>?_) (fun ht29=>?_)
      .
       have hdk:=del_keep hj hx ht29;refine qdP ?_;refine qal ?_;refine A0 (zau (i:=(without (c.opn.take j) who).length) rfl rfl rfl rfl yi zdG yh) ?_;refine zda rfl rfl rfl rfl rfl rfl yj (Lens.self _) ty_3 rfl ?_;refine CNR ?_;refine qd9 ?_;refine qdB ?_;refine zj (d:=5) (y:=((without (c.opn.take (j+1)) who).length:Int)) rfl (by have:=hdk.2;omega) ?_;exact Nx ((j+1,R.set (without (c.opn.take j) who).length x)) (hdk.1) (by show c.opn.length-(j+1)<c.opn.length-j;omega)
      have hdk:=del_skip hj hx (ua ht29);refine qcG ?_;refine zj (d:=5) (y:=((without (c.opn.take (j+1)) who).length:Int)) rfl (by have:=hdk.2;omega) ?_;exact Nx ((j+1,R)) (hdk.1) (by show c.opn.length-(j+1)<c.opn.length-j;omega)
     have hlR:=hj.len;have hltR:=hj.lt;have htl:c.opn.take j=c.opn:=uc ya;have hde:=fun z=>del_end hj ya z
     rw[htl] at hltR;refine zj (d:=5) (y:=((without c.opn who).length:Int)) rfl (by rw[htl]) ?_;have hwl:(without c.opn who).length<c.opn.length:=wo_short hwm;refine qeY ?_;refine qaz ?_;refine A0 (g_os_l (p:=(without c.opn who).length) rfl rfl rfl rfl zdG yi yh) ?_;refine zwU rfl rfl rfl rfl rfl zhO ze_3 yM ?_;refine qgn ?_;refine qaz ?_;refine A0 (zpZ (q:=(without c.opn who).length) rfl rfl rfl rfl zdG yi yh) ?_;refine ztI (d:=41) (n:=6) (len:=(without c.opn who).length) rfl rfl rfl ⟨by simp;omega,by simp;omega⟩ ?_;refine zq (n:=10) (y:=without c.opn who) rfl (hde _) ?_;refine qbG ?_;refine zoQ (nx':=11) (fr':=(Fr.none).set 4 (.own 10)) (hp':=((((Hp.none).set 2 (.box 29 zZ ze7)).set 8 (.parts 157 [.val i64T c.m,.val i64T c.k,.own 6,.val zo c.have_,.val zP c.p,.val i64T 1,.val i64T who,.val (sl u8T) raw])).set 9 (.parts 154 [.ptr 8 0])).set 10 (.row 3 i64T (without c.opn who))) ?_ rfl (by (repeat refine Fr.le_set ?_ yaM);exact Fr.le_none _) (by (repeat refine Hp.le_set ?_ rfl);exact Hp.le_none _) (by (repeat refine Fr.below_setB ?_ rfl);exact Fr.below_none _) (by (repeat refine Hp.below_set ?_ yl);exact Hp.below_none _);exact zcx rfl (zD H)
    refine qbt ?_;exact Nx (k+1) (⟨by omega,hinv.2.trans (zjs hx (by simpa using ht16))⟩) ya
   exact absurd (hinv.2.trans (zfU ya)) (idx_mem hwm)) ?_
  refine qdC ?_;refine XK.e (x:=.idk) (fun fr' hfr kk H=>by exact zay rfl rfl rfl ((hfr 16 yc).trans rfl) rfl rfl ((hfr 13 yc).trans rfl) rfl rfl rfl zkb (zD H)) ?_;refine XK.nilp ⟨yb6,trivial⟩ ?_;refine qfW ?_;refine Cg ?_;refine qfE ?_;refine zco 10 6 12 rfl rfl rfl rfl rfl rfl ?_;refine xH ?_;refine qbg ?_;exact zi rfl rfl (zm rfl rfl za3 (by rw[zap ya,ur yl,ut rfl];unfold zhU;rw[ut hwm])) (zC (za rfl (by rw[zap ya,ur yl,ut rfl];unfold zhU;rw[ut hwm])))
 refine CR ?_;refine qdT ?_;refine A0 (zy (i:=2) rfl rfl rfl yi zwZ ya) ?_;refine A0 (zr rfl rfl rfl (Lens.elem (i:=2) ya fnoT) ty_153) ?_;refine zj (d:=38) (y:=some 85) rfl rfl ?_;refine zdC (d:=38) (f:=85) rfl ?_;refine zeE 3 ?_;refine A0 mP ?_;refine zdW rfl rfl rfl rfl rfl Tryz.func85 fn_85 rfl rfl yC (fun ia14 iok14=>?_);refine CQR ?_;refine qbT ?_;refine A0 mP ?_;refine z6 rfl rfl rfl rfl Tryz.func150 fn_150 rfl rfl (fun ia15 iok15=>?_);refine CQR ?_;refine qbh ?_;refine xG ?_;refine qaM ?_;refine zcx rfl ?_;refine qaT ?_;refine zl (p:=¬who∈c.opn) rfl (by first|exact zrQ|exact zrQ.symm) (fun ht10=>?_) (fun ht10=>?_)
 .
  refine qfW ?_;refine Ct ?_;refine qch ?_;refine xF ?_;refine qdr ?_;exact zi rfl rfl (zm rfl rfl za3 (by rw[zap ya,ur yl,ur yl,ur ht10])) (zC (za rfl (by rw[zap ya,ur yl,ur yl,ur ht10])))
 refine CSQR ?_;refine A0 mP ?_;refine qcL ?_;refine A0 (oFp zkZ) ?_;refine A0 (oFp zlP) ?_;refine A0 (zaf rfl rfl rfl rfl rfl zji) ?_;refine A0 (oCl (pread_ok raw hraw) rfl fn_16 yd) ?_;refine qaA ?_;refine qcv ?_;refine qas ?_;refine qaL ?_;refine CB ?_;refine qb1 ?_;refine A0 oN ?_;refine qad ?_;refine zl (p:=¬zbK raw=true) rfl (by cases zbK raw<;>rfl) (fun ht20=>?_) (fun ht20=>?_)
 .
  refine qfW ?_;refine Ct ?_;refine qch ?_;refine xF ?_;refine qdr ?_;exact zi rfl rfl (zm rfl rfl za3 ybw) (zC (za rfl ybw))
 refine CQ ?_;refine qaI ?_;refine G0 (oFp zed) ?_;refine G0 (oLb zem ty_3) ?_;refine qfF ?_;refine G0 (oFp zhC) ?_;refine G0 (oFp ziw) ?_;refine G0 (zaf rfl rfl rfl rfl rfl ty_3) ?_;refine G0 zd1 ?_;refine qaM ?_;refine zl (p:=¬(zen raw).m=c.m) rfl yx (fun ht23=>?_) (fun ht23=>?_)
 .
  refine CS ?_;refine zf6 rfl (by simpa [IntL.toI] using ht23) ?_;refine qfW ?_;refine Ct ?_;refine qch ?_;refine xF ?_;refine qdr ?_;exact zi rfl rfl (zm rfl rfl za3 ybe) (zC (za rfl ybe))
 refine CD mixed ?_;refine G0 (oFp zdJ) ?_;refine G0 (oLb zdu ty_3) ?_;refine qfF ?_;refine G0 (oFp zhC) ?_;refine G0 (oFp zlQ) ?_;refine G0 (zaf rfl rfl rfl rfl rfl ty_3) ?_;refine G0 zd1 ?_;refine qaM ?_;refine zl (p:=¬(zen raw).k=c.k) rfl yx (fun ht23=>?_) (fun ht23=>?_)
 .
  refine qfW ?_;refine Ct ?_;refine qch ?_;refine xF ?_;refine qdr ?_;exact zi rfl rfl (zm rfl rfl za3 ya5) (zC (za rfl ya5))
 refine qeS ?_;refine CQQR ?_;refine qa9 ?_;refine A0 (oCl (ziD (zen raw)) rfl fn_17 yd) ?_;refine qaR ?_;refine qaG ?_;refine zl (p:=¬zac (zen raw)=0) rfl yx (fun ht43=>?_) (fun ht43=>?_)
 .
  refine qd3 ?_;refine qck ?_;refine zf6 rfl (by simpa [IntL.toI] using ht43) ?_;refine qch ?_;refine xF ?_;refine qdr ?_;exact zi rfl rfl (zm rfl rfl za3 yaF) (zC (za rfl yaF))
 refine CSQQR ?_;refine A0 mP ?_;refine qfm ?_;refine A0 (oFp zhx) ?_;refine A0 (zaf rfl rfl rfl rfl rfl ty_4) ?_;refine CN ?_;refine zl (p:=c.have_=true) rfl yw (fun ht49=>?_) (fun ht49=>?_)
 .
  refine CQ ?_;refine zA [some 1000001,some 1000001,some 1000001,some 1000001,some 1000001,some 1000001,some 1000001,some 1000001,some 1000001,some 1000001,none,none,some 1] mixed yc ?_;refine XK.ga (fun _=>g_mp (.inl rfl) rfl) rfl rfl rfl ?_;refine XK.ga (fun _=>g_nc rfl rfl) rfl rfl rfl ?_;refine XK.ga (fun _=>zdp rfl rfl zhC rfl) rfl rfl rfl ?_;refine XK.ga (fun _=>zdp rfl rfl zcJ rfl) rfl rfl rfl ?_;refine XK.gf (t:=54) rfl rfl (fun _ he=>zon rfl rfl he rfl zaO) ⟨yG,trivial⟩ rfl rfl rfl ?_;refine XK.gf (t:=3) rfl rfl (fun _ he=>zr rfl rfl he (Lens.self _) zaO) ⟨yG,trivial⟩ rfl rfl rfl ?_;refine XK.ga (fun _=>zcT (pick_ok c.p (zen raw) hc.1 (zlJ (ua ht43))) rfl fn_87 ye rfl) rfl rfl rfl ?_;refine xo ?_;refine XK.ga y4 rfl rfl rfl ?_;refine xj ?_;refine XK.e (fun fr' hfr kk H=>by exact zN zhh rfl rfl rfl rfl (zD H)) ?_;refine XK.e (x:=.idk) (fun fr' hfr kk H=>by exact zg rfl rfl rfl ((hfr 6 yc).trans rfl) rfl (Lens.self _) zaO ((hfr 58 yc).trans rfl) (zD H)) ?_;refine X0 aV ?_;refine XK.nilp ⟨yb6,yb6,trivial⟩ ?_;refine qbd ?_;refine qaG ?_;refine zl (p:=¬(zbD c.p (zen raw)).2=0) rfl yx (fun ht61=>?_) (fun ht61=>?_)
  .
   refine qd3 ?_;refine qck ?_;refine zf6 rfl (by simpa [IntL.toI] using ht61) ?_;refine qch ?_;refine xF ?_;refine qdr ?_;exact zi rfl rfl (zm rfl rfl za3 yay) (zC (za rfl yay))
  refine CS ?_;refine CR ?_;refine qa9 ?_;refine qas ?_;refine qgk ?_;refine A0 mP ?_;refine qa9 ?_;refine qfm ?_;refine A0 (oFp zcJ) ?_;refine zoR rfl rfl rfl rfl rfl rfl rfl zaO ?_;refine qfm ?_;refine A0 (oFp zhx) ?_;refine zay rfl rfl rfl rfl rfl rfl rfl rfl rfl rfl ty_4 ?_;refine CNQR ?_;refine qad ?_;refine qck ?_;refine Cg ?_;refine qfE ?_;refine xH ?_;refine qbg ?_;exact zi rfl rfl (zm rfl rfl za3 yaw) (zC (za rfl yaw))
 refine CSQR ?_;refine A0 mP ?_;refine A0 mP ?_;refine qa9 ?_;refine qfm ?_;refine A0 (oFp zcJ) ?_;refine zoR rfl rfl rfl rfl rfl rfl rfl zaO ?_;refine qfm ?_;refine A0 (oFp zhx) ?_;refine zay rfl rfl rfl rfl rfl rfl rfl rfl rfl rfl ty_4 ?_;refine CNQR ?_;refine qad ?_;refine qck ?_;refine Cg ?_;refine qfE ?_;refine xH ?_;refine qbg ?_;exact zi rfl rfl (zm rfl rfl za3 yaA) (zC (za rfl yaA))
theorem zvz (c:Client) (l:List Msg) (hc:SmC c) (hl:zw4 l):Tells P 15 [.val zZ c,.val (bsl msgT) l] (.tup2 (.val zZ (runC c l)) (.val (sl i64T) (runE c l))):=by
 have hll:=hl.1;refine zc Tryz.func15 rfl rfl rfl (fun ext w hext=>?_);refine ze (d:=1) rfl zk (fun hsl1=>?_);refine qae ?_;refine qcf ?_;refine A0 aL ?_;refine CNQR ?_;refine qaB ?_;refine xF ?_;refine qao ?_;refine qfI ?_;refine qbD ?_;refine A0 (zaC rfl rfl zv6) ?_;refine qaF ?_;refine za7 (T:=i64T) (d:=6) 40 rfl ?_;refine Lp (ι:=Nat) 3 (fun i=>(((((Fr.none.set 2 (.ptr 0 0)).set 4 (.ptr 1 0)).set 6 (.own 2)).set 13 (.val (bsl msgT) l)).set 14 (.val i64T (l.length:Int))).set 15 (.val i64T (i:Int))) (fun i=>((Hp.none.set 0 (.box 29 zZ (runC c (l.take i)))).set 1 (.box 29 zZ ze7)).set 2 (.row 40 i64T (runE c (l.take i)))) (fun i=>i<=l.length) (fun i=>l.length-i) (0) (uf _) ?_;intro i hinv;refine qap ?_;refine Cf (p:=i<l.length) (fun ht16=>?_) (fun ht16=>?_)
 .
  obtain⟨x,hx⟩:∃x,l[i]?=some x:=⟨_,ub ht16⟩;have hxr:x.raw.length<=1000000000:=by have:=hl.2 x (ud hx);omega
  have hrs:=zvy (c:=c) hx;have hrl:(runE c (l.take i)).length<=100:=by rw[zqN,um];omega
  refine qeh ?_;refine A0 (zx (i:=i) rfl rfl rfl ya sl_37 yj) ?_;refine A0 (zh rfl rfl ty_36) ?_;refine zN ze_36 rfl rfl rfl rfl ?_;refine zg rfl rfl rfl rfl rfl (Lens.self _) ty_36 rfl ?_;refine CNQR ?_;refine qaB ?_;refine A0 (oLs rfl rfl rfl ty_36) ?_;refine A0 (oCl (step22_ok (runC c (l.take i)) x (zkm _ hc) hxr) rfl fn_31 ye) ?_;refine qaA ?_;refine qcf ?_;refine qao ?_;refine qaj ?_;refine qaB ?_;refine qao ?_;refine qdA ?_;refine qaz ?_;refine A0 (zW (T:=i64T) (xs:=[_]) rfl zub zvC yA rfl rfl) ?_;refine zp rfl rfl rfl rfl rfl rfl rfl zvC yM ?_;refine qem ?_;refine zeE 3 ?_;refine zeE 4 ?_;refine zco 5 2 6 rfl rfl rfl rfl rfl rfl ?_;refine zq (n:=2) (y:=runE c (l.take (i+1))) rfl hrs.2.symm ?_;refine zt (n:=0) (y:=runC c (l.take (i+1))) rfl hrs.1.symm ?_;exact Nx (i+1) ya ya
 refine zq (n:=2) (y:=runE c l) rfl yO ?_;refine zt (n:=0) (y:=runC c l) rfl yO ?_;refine zhV (d:=6) rfl rfl ?_;refine qaU ?_;refine qaB ?_;refine qaz ?_;refine qbV ?_;exact zi rfl rfl (zm rfl rfl za3 (rfl)) (zC (za rfl (rfl)))
set_option maxHeartbeats 2000000
def zkX (c:Client) (l:List Msg):Bool:=l.all (fun x=>decide (x.raw.length<=6000))&&(zpi c.p&&(decide (c.opn.length<=12)&&decide (l.length<=12)))
theorem few22_at {c:Client} {l:List Msg} (h:zkX c l=true):SmC c/\zw4 l/\l.length<=12/\c.opn.length<=12:=by
  unfold zkX at h;rw[uk,uk,uk,uj,uj,List.all_eq_true] at h;obtain⟨h1,h2,h3,h4⟩:=h;exact⟨⟨zuD h2,by omega⟩,⟨by omega,fun x hx=>by have:=h1 x hx;rw[uj] at this;omega⟩,h4,h3⟩
theorem few22_yes {c:Client} {l:List Msg} (h:¬zkX c l=false):zkX c l=true:=by
  cases hh:zkX c l<;>simp_all
def zmF:Client:=⟨1,1,[3],true,zfg⟩
def ztk (R:List UInt8):List Msg:=[⟨2,3,R⟩,⟨0,3,[]⟩,⟨2,3,R⟩]
theorem easy_run0 {R:List UInt8} (h1:zbK R=true) (h2:zen R=zfg):runC (newC 1 1) (ztk R)=zmF/\runE (newC 1 1) (ztk R)=[9,0,0]:=by
  have s1:zdZ (newC 1 1) ⟨2,3,R⟩=(newC 1 1,9):=by
    rw[zap ya,ur yl,ur yl,ur (by show ¬(3:Int)∈[];decide)]
  have s2:zdZ (newC 1 1) ⟨0,3,[]⟩=(⟨1,1,[3],false,zdb⟩,0):=rfl;have g:zcH ⟨1,1,[3],false,zdb⟩ R=(zmF,0):=by
    unfold zcH;rw[h2,ur (fun h=>h h1),ur (by show ¬(¬(1:Int)=1\/¬(1:Int)=1);decide),ur (fun h=>h easy_check),ur yl];rfl
  have s3:zdZ ⟨1,1,[3],false,zdb⟩ ⟨2,3,R⟩=(zmF,0):=by
    rw[zap ya,ur yl,ur yl,ut (by show(3:Int)∈[3];decide)];exact g
  constructor
  . show runC (zdZ (zdZ (zdZ (newC 1 1) ⟨2,3,R⟩).1 ⟨0,3,[]⟩).1 ⟨2,3,R⟩).1 []=_
    rw[s1,s2,s3];rfl
  show [(zdZ (newC 1 1) ⟨2,3,R⟩).2,(zdZ (zdZ (newC 1 1) ⟨2,3,R⟩).1 ⟨0,3,[]⟩).2,(zdZ (zdZ (zdZ (newC 1 1) ⟨2,3,R⟩).1 ⟨0,3,[]⟩).1 ⟨2,3,R⟩).2]=_;rw[s1,s2,s3]
theorem easy_read:zen (zgy zfg)=zfg:=(znS zrx.1).trans zrx.2
theorem zwE:runC (newC 1 1) (ztk (zgy zfg))=zmF/\runE (newC 1 1) (ztk (zgy zfg))=[9,0,0]:=easy_run0 zrx.1 easy_read
theorem easy_msgs:zw4 (ztk (zgy zfg)):=⟨by show 3<=100;decide,fun x hx=>by
  simp only[ztk,mem_cons,List.not_mem_nil,or_false] at hx;rcases hx with rfl|rfl|rfl
  . rw[zth];decide
  . decide
  rw[zth];decide⟩
theorem zuN:SmC zmF:=⟨⟨by decide,fun x hx=>by
  have hx:x∈[(⟨ziy,[]⟩:Part),⟨zb1.h,[id0]⟩]:=hx;simp only[mem_cons,List.not_mem_nil,or_false] at hx;rcases hx with rfl|rfl<;>decide⟩,by decide⟩
theorem easy_at:atI zmF 1=1:=by rfl
theorem ztj:atOk zmF 1=true:=by unfold atOk;rw[easy_at];rfl
theorem easy_atP:atP zmF 1=⟨zb1.h,[id0]⟩:=by unfold atP;rw[ut ztj,easy_at];rfl
theorem zwy (c:Client) (l:List Msg):Tells P 29 [.val zZ c,.val (bsl msgT) l] (.val zo (zkX c l)):=by
 refine zc Tryz.func29 rfl rfl rfl (fun ext w hext=>?_);refine ze (d:=1) rfl zk (fun hsl1=>?_);refine qae ?_;refine qcz ?_;refine Lp (ι:=Nat) 1 (fun (i:Nat)=>(((Fr.none).set 1 (.val (bsl msgT) l)).set 2 (.ptr 0 0)).set 5 (.val i64T (i:Int))) (fun (i:Nat)=>(Hp.none).set 0 (.box 29 zZ c)) (fun (i:Nat)=>i<=l.length/\(l.take i).all (fun x=>decide (x.raw.length<=6000))=true) (fun (i:Nat)=>l.length-i) (0) (⟨uf _,rfl⟩) ?_;intro i hinv;refine qb6 ?_;refine A0 (zaC rfl rfl zv6) ?_;refine qa7 ?_;refine Cf (p:=i<l.length) (fun ht10=>?_) (fun ht10=>?_)
 .
  obtain⟨x,hx⟩:∃x,l[i]?=some x:=⟨_,ub ht10⟩;refine qf7 ?_;refine A0 (zx (i:=i) rfl rfl rfl ya sl_37 yj) ?_;refine A0 (oFr zlP zlg) ?_;refine qcC ?_;refine qbx ?_;refine qc2 ?_;refine Cf (p:=6000<x.raw.length) (fun ht19=>?_) (fun ht19=>?_)
  .
   refine qar ?_;exact zb rfl rfl (za rfl ((by symm;unfold zkX;rw[Bool.and_eq_false_iff];left;rw[List.all_eq_false];exact⟨x,ud hx,by simp;omega⟩)))
  refine qcG ?_;exact Nx (i+1) (⟨by omega,by rw[un,hx,List.all_append,hinv.2];simp;omega⟩) ya
 have hal:=hinv.2;rw[uc ya] at hal;refine qaU ?_;refine qeN ?_;refine A0 (oCl (fewPr_ok c.p) rfl fn_81 yd) ?_;refine qbL ?_;refine zX (d:=24) (p:=zpi c.p=true) rfl yw (fun g24=>?_) (fun g24=>?_)
 .
  refine qgl ?_;refine A1 (zaC rfl rfl zpU) ?_;refine A1 zfR ?_;refine qai ?_;refine Sp (d:=30) (p:=c.opn.length<=12) (fun g30=>?_) (fun g30=>?_)
  .
   refine qfY ?_;refine A1 (zaC rfl rfl zv6) ?_;refine A1 zfR ?_;refine qaE ?_;exact zb rfl rfl (za rfl ((by unfold zkX;rw[hal,g24,ui g30,Bool.true_and,Bool.true_and,Bool.true_and,uo];simp only[IntL.toI,id_eq];omega)))
  refine qab ?_;refine qaE ?_;exact zb rfl rfl (za rfl ((by unfold zkX;rw[uh g30];simp)))
 refine qda ?_;refine qaH ?_;refine qaE ?_;exact zb rfl rfl (za rfl ((by unfold zkX;simp[g24])))
theorem awake22_ok:Tells P 28 [] (.val zo true):=by
 refine zc Tryz.func28 rfl rfl rfl (fun ext w hext=>?_);have hl0:([9,0,0]:List Int)[0]?=some 9:=rfl;have hl1:([9,0,0]:List Int)[1]?=some 0:=rfl;have hl2:([9,0,0]:List Int)[2]?=some 0:=rfl;refine qf5 ?_;refine A0 (oCl (newC22_ok 1 1) rfl fn_14 ye) ?_;refine A0 mX ?_;refine qbO ?_;refine zj (d:=13) (y:=newC 1 1) rfl (rfl) ?_;refine qcg ?_;refine zj (d:=14) (y:=true) rfl (rfl) ?_;refine qcf ?_;refine qao ?_;refine qaj ?_;refine A0 (oCl (two_ok) rfl fn_46 trivial) ?_;refine A0 (oCl (prBuild_ok [zdr,zb1] 1 1 zt8) rfl fn_47 yL) ?_;refine A0 mX ?_;refine qbO ?_;refine zj (d:=18) (y:=zfg) rfl (easy_pr) ?_;refine qcg ?_;refine qcv ?_;refine qas ?_;refine qeV ?_;refine A0 (oCl (pput_ok zfg) rfl fn_43 yd) ?_;refine qaA ?_;refine zj (d:=24) (y:=true) rfl (zk1) ?_;refine A0 aV ?_;refine qdM ?_;refine A0 (zJ rfl ze_36 bd_36 (.cons zow zjf ty_3 rfl (.cons zfX zhg ty_3 rfl (.cons zlP zlg zji rfl .nil))) rfl) ?_;refine A0 (zJ rfl ze_36 bd_36 (.cons zfX zhg ty_3 rfl .nil) rfl) ?_;refine qaz ?_;refine A0 (zJ rfl ze_36 bd_36 (.cons zow zjf ty_3 rfl (.cons zfX zhg ty_3 rfl (.cons zlP zlg zji rfl .nil))) rfl) ?_;refine A0 (zW (T:=msgT) (xs:=[_,_,_]) rfl sl_37 row_37 ⟨rfl,rfl,rfl,rfl,rfl,rfl,trivial⟩ rfl rfl) ?_;refine zj (d:=32) (y:=ztk (zgy zfg)) rfl (rfl) ?_;refine A0 (oCl (zvz (newC 1 1) (ztk (zgy zfg)) (new_small 1 1) easy_msgs) rfl fn_15 ye) ?_;refine A0 mX ?_;refine qbO ?_;refine zj (d:=34) (y:=zmF) rfl (zwE.1) ?_;refine qcg ?_;refine zj (d:=35) (y:=([9,0,0]:List Int)) rfl (zwE.2) ?_;refine qcf ?_;refine qao ?_;refine qaj ?_;refine qaB ?_;refine A0 (oCl (zu1 zmF 1 zuN) rfl fn_26 ye) ?_;refine A0 mX ?_;refine qbO ?_;refine zj (d:=39) (y:=(⟨zb1.h,[id0]⟩:Part)) rfl (easy_atP) ?_;refine qcg ?_;refine zj (d:=40) (y:=true) rfl (ztj) ?_;refine qcw ?_;refine qa0 ?_;refine qbL ?_;refine zf5 (d:=42) rfl (rfl) ?_;refine qfY ?_;refine qai ?_;refine zf5 (d:=45) rfl (rfl) ?_;refine qfY ?_;refine A1 (zaC rfl rfl zv7) ?_;refine qep ?_;refine zf5 (d:=50) rfl (rfl) ?_;refine qfY ?_;refine A1 (zx (i:=0) rfl rfl rfl ya zub yj) ?_;refine A1 (zh rfl rfl ty_40) ?_;refine qep ?_;refine zf5 (d:=56) rfl (rfl) ?_;refine qfY ?_;refine A1 (zx (i:=1) rfl rfl rfl ya zub yj) ?_;refine A1 (zh rfl rfl ty_40) ?_;refine qep ?_;refine zf5 (d:=62) rfl (rfl) ?_;refine qfY ?_;refine A1 (zx (i:=2) rfl rfl rfl ya zub yj) ?_;refine A1 (zh rfl rfl ty_40) ?_;refine qep ?_;refine zf5 (d:=68) rfl (rfl) ?_;refine qdc ?_;refine qai ?_;refine zf5 (d:=72) rfl (rfl) ?_;refine qfY ?_;refine qai ?_;refine zf5 (d:=75) rfl (rfl) ?_;refine A1 (oFp zbA) ?_;refine A1 (oFp zcI) ?_;refine A1 (oLb (zbe.comp zal) ty_3) ?_;refine qep ?_;refine zf5 (d:=81) rfl (rfl) ?_;refine A1 (oLs rfl rfl rfl za3) ?_;refine A1 (oLs rfl rfl rfl za3) ?_;refine A1 (oCl (zpx zmF zmF) rfl fn_30 ye) ?_;refine qaE ?_;exact zb rfl rfl (za rfl yw)
def zf1 (ss:List Int):List Bool:=ss.map fun s=>decide (s=0)
def zg5 (ss:List Int) (ps:List Ab.Id) (x:Ab.Id) (k:Nat):List Ab.Id:=(List.range (k+1)).map fun j=>zcN (ss.take j) (ps.take j) x
theorem zi3 {ss:List Int} {ps:List Ab.Id} {x:Ab.Id} {k:Nat}:(zg5 ss ps x k).length=k+1:=by unfold zg5;simp
theorem ztv {ss:List Int} {ps:List Ab.Id} {x:Ab.Id} {k:Nat}:(zg5 ss ps x k)[k]?=some (zcN (ss.take k) (ps.take k) x):=by unfold zg5;simp
theorem ztu {ss:List Int} {ps:List Ab.Id} {x y:Ab.Id} {k:Nat} (h:y=zcN (ss.take (k+1)) (ps.take (k+1)) x):zg5 ss ps x k++[y]=zg5 ss ps x (k+1):=by
  unfold zg5;rw[List.range_succ (n:=k+1),map_append,h];rfl
theorem bools_at {ss:List Int} {k:Nat} {s:Int} (h:ss[k]?=some s):(zf1 ss)[k]?=some (decide (s=0)):=by unfold zf1;rw[List.getElem?_map,h];rfl
theorem zk9 {ss:List Int}:(zf1 ss).length=ss.length:=by unfold zf1;simp
theorem bools_one {i:Nat}:zf1 (zcr 1 i)=[]:=by unfold zf1 zcr;rw[zk3 ya];rfl
theorem bools_left {n i:Nat} (h:2<=n) (hi:i<halfN n):zf1 (zcr n i)=zf1 (zcr (halfN n) i)++[true]:=by
  unfold zf1 zcr;rw[zk2 h,ut hi,List.reverse_cons,map_append];rfl
theorem zuW {n i:Nat} (h:2<=n) (hi:¬i<halfN n):zf1 (zcr n i)=zf1 (zcr (n-halfN n) (i-halfN n))++[false]:=by
  unfold zf1 zcr;rw[zk2 h,ur hi,List.reverse_cons,map_append];rfl
theorem at_here {c:Client} {h:Int} {i:Nat} {x:Part} (hx:c.p.p[i]?=some x) (hi:atI c h=(i:Int)) (hv:c.have_=true):atP c h=x/\atOk c h=true:=by
  have ho:atOk c h=true:=by unfold atOk;rw[hv,Bool.true_and,uj,hi];omega
  exact⟨by unfold atP;rw[ut ho,hi];simp[hx],ho⟩
theorem znK (n i:Nat) (h1:1<=n) (hi:i<n) (hn:n<=64):Tells P 156 [.val i64T (n:Int),.val i64T (i:Int)] (.fresh 4 zo (zf1 (zcr n i))):=by
 refine zc Tryz.func156 rfl rfl rfl (fun ext w hext=>?_);refine ze (d:=0) rfl zz (fun hin0=>?_);refine ze (d:=1) rfl zz (fun hin1=>?_);refine qdK ?_;refine qdh ?_;refine Cf (p:=n=1) (fun ht7=>?_) (fun ht7=>?_)
 .
  subst ht7;refine qfu ?_;refine za7 (T:=zo) (d:=4) 4 rfl ?_;exact zb rfl rfl (zf rfl rfl (bools_one.symm))
 have hp:=zgl n;have hh:=ziq (n:=n) ya;refine qbY ?_;refine A0 (oCl (zsy n ya ya) rfl fn_202 yd) ?_;refine qag ?_;refine qaz ?_;refine qa7 ?_;refine Cf (p:=i<halfN n) (fun ht12=>?_) (fun ht12=>?_)
 .
  refine CQR ?_;refine qal ?_;refine zao (znK (halfN n) i ya ya ya) rfl fn_156 ye rfl rfl rfl ?_;refine A0 (zW (T:=zo) (xs:=[_]) rfl sl_242 zqR yA rfl rfl) ?_;refine zp rfl rfl rfl rfl rfl rfl rfl zqR yaU ?_;refine qbG ?_;exact zb rfl rfl (zf rfl rfl ((bools_left ya ht12).symm))
 refine qej ?_;refine A0 (zgC rfl rfl rfl (show _=(((n-halfN n:Nat):Int):Int) from(show IntKind.i64.wrap ((n:Int)-(halfN n:Int))=_ from(z8 ya).trans ya))) ?_;refine qal ?_;refine A0 (zgC rfl rfl rfl (show _=(((i-halfN n:Nat):Int):Int) from(show IntKind.i64.wrap ((i:Int)-(halfN n:Int))=_ from(z8 ya).trans ya))) ?_;refine zao (znK (n-halfN n) (i-halfN n) ya ya ya) rfl fn_156 ye rfl rfl rfl ?_;refine A0 (zW (T:=zo) (xs:=[_]) rfl sl_242 zqR yA rfl rfl) ?_;refine zp rfl rfl rfl rfl rfl rfl rfl zqR yaU ?_;refine qbG ?_;exact zb rfl rfl (zf rfl rfl ((zuW ya ht12).symm))
termination_by n
decreasing_by
  all_goals omega
theorem rclimb_ok (ss:List Int) (x:Ab.Id) (ps:List Ab.Id) (hs:∀s∈ss,s=0\/s=1) (he:ss.length=ps.length) (hl:ss.length<=64):Tells P 157 [.val (bsl zo) (zf1 ss),.val idT x,.val (bsl idT) ps] (.fresh 49 idT (zg5 ss ps x ss.length)):=by
 refine zc Tryz.func157 rfl rfl rfl (fun ext w hext=>?_);refine ze (d:=0) rfl zk (fun hsl0=>?_);refine ze (d:=2) rfl zk (fun hsl2=>?_);refine qbN ?_;refine CNQR ?_;refine qbf ?_;refine zbg (T:=idT) (xs:=[_]) rfl rfl rfl rfl zce zeo yA rfl rfl ?_;refine A0 aO ?_;refine qa4 ?_;refine zq (n:=1) (y:=zg5 ss ps x 0) rfl rfl ?_;refine Lp (ι:=Nat) 2 (fun (i:Nat)=>((((Fr.none).set 0 (.val (bsl zo) (zf1 ss))).set 2 (.val (bsl idT) ps)).set 7 (.own 1)).set 8 (.val i64T (i:Int))) (fun (i:Nat)=>(Hp.none).set 1 (.row 49 idT (zg5 ss ps x i))) (fun (i:Nat)=>i<=ss.length) (fun (i:Nat)=>ss.length-i) (0) (uf _) ?_;intro i hinv;refine qb6 ?_;refine A0 (zaC rfl rfl isl_242) ?_;refine qa7 ?_;refine zl (p:=i<ss.length) rfl (by simp[IntL.toI,zk9]) (fun ht15=>?_) (fun ht15=>?_)
 .
  obtain⟨s,hsi⟩:∃s,ss[i]?=some s:=⟨_,ub ht15⟩;obtain⟨p,hpi⟩:∃p,ps[i]?=some p:=yr;have hcl:=zqf (x:=x) hsi hpi;have hbi:=bools_at hsi;have hai:=ztv (ss:=ss) (ps:=ps) (x:=x) (k:=i);have hcn:=zi3 (ss:=ss) (ps:=ps) (x:=x) (k:=i);refine qeh ?_;refine A0 mO ?_;refine qaz ?_;refine A0 (zau (i:=i) rfl rfl rfl rfl yi zce yh) ?_;refine A0 (zc8 rfl rfl rfl rfl yj (Lens.self _) zY) ?_;refine qaC ?_;refine qaq ?_;refine CNQR ?_;refine qal ?_;refine A0 (zx (i:=i) rfl rfl rfl ya sl_242 yj) ?_;refine A0 (zh rfl rfl ty_4) ?_;refine CN ?_;refine Cf (p:=s=0) (fun ht25=>?_) (fun ht25=>?_)
  .
   refine xq ?_;refine X0 mO ?_;refine qfN ?_;refine qbC ?_;refine X0 (zx (i:=i) rfl rfl rfl ya zce yj) ?_;refine X0 (zh rfl rfl zY) ?_;refine X0 (oCl (zqW (zcN (ss.take i) (ps.take i) x) p) rfl fn_203 ⟨yk,yb,trivial⟩) ?_;refine qdv ?_;refine XK.e (fun fr' hfr kk H=>by exact zp rfl rfl rfl rfl ((hfr 26 yc).trans rfl) rfl ((hfr 33 yc).trans rfl) zeo (by simp only[zi3,List.length_singleton];omega) (zD H)) ?_;refine qfD ?_;refine zeE 2 ?_;refine qc8 ?_;refine zq (n:=1) (y:=zg5 ss ps x (i+1)) rfl (ztu (by rw[hcl];unfold upTr;rw[ut ht25])) ?_;exact Nx (i+1) ya ya
  refine xq ?_;refine X0 mO ?_;refine qbC ?_;refine X0 (zx (i:=i) rfl rfl rfl ya zce yj) ?_;refine X0 (zh rfl rfl zY) ?_;refine qfN ?_;refine X0 (oCl (zqW p (zcN (ss.take i) (ps.take i) x)) rfl fn_203 yb3) ?_;refine qdv ?_;refine XK.e (fun fr' hfr kk H=>by exact zp rfl rfl rfl rfl ((hfr 35 yc).trans rfl) rfl ((hfr 42 yc).trans rfl) zeo (by simp only[zi3,List.length_singleton];omega) (zD H)) ?_;refine qfD ?_;refine zeE 2 ?_;refine qc8 ?_;refine zq (n:=1) (y:=zg5 ss ps x (i+1)) rfl (ztu (by rw[hcl];unfold upTr;rw[ur ht25])) ?_;exact Nx (i+1) ya ya
 refine qa8 ?_;exact zb rfl rfl (zf rfl rfl (by rw[show i=ss.length by omega]))
theorem zuk (root:Ab.Id) (n i:Int) (x:Ab.Id) (ps:List Ab.Id):Tells P 90 [.val idT root,.val i64T n,.val i64T i,.val idT x,.val (bsl idT) ps] (.val zo (zdL root n i x ps)):=by
 refine zc Tryz.func90 rfl rfl rfl (fun ext w hext=>?_);refine ze (d:=1) rfl zz (fun hin1=>?_);refine ze (d:=2) rfl zz (fun hin2=>?_);refine ze (d:=4) rfl zk (fun hsl4=>?_);refine qav ?_;refine qag ?_;refine qcZ ?_;refine Sp (d:=15) (p:=n<1) (fun g15=>?_) (fun g15=>?_)
 .
  refine qc1 ?_;refine qeA ?_;refine Ct ?_;refine qar ?_;exact zb rfl rfl (za rfl yaa)
 refine qca ?_;refine qai ?_;refine Sp (d:=19) (p:=64<n) (fun g19=>?_) (fun g19=>?_)
 .
  refine qaZ ?_;refine qeA ?_;refine Ct ?_;refine qar ?_;exact zb rfl rfl (za rfl yaa)
 refine qfY ?_;refine qdU ?_;refine Sp (d:=23) (p:=i<0) (fun g23=>?_) (fun g23=>?_)
 .
  refine qcA ?_;refine Ct ?_;refine qar ?_;exact zb rfl rfl (za rfl yaa)
 refine qdi ?_;refine A1 zgb ?_;refine qat ?_;refine Cf (p:=n<=i) (fun ht27=>?_) (fun ht27=>?_)
 .
  refine qar ?_;exact zb rfl rfl (za rfl yaa)
 obtain⟨N,rfl⟩:∃N:Nat,n=N:=⟨n.toNat,by omega⟩;obtain⟨J,rfl⟩:∃J:Nat,i=J:=⟨i.toNat,by omega⟩;have hin:1<=(N:Int)/\(N:Int)<=64/\0<=(J:Int)/\(J:Int)<N:=ya;refine qej ?_;refine A0 (oCl (zu (znK N J ya ya ya)) rfl fn_156 ye) ?_;refine qag ?_;refine qbj ?_;refine qaz ?_;refine A0 (zaC rfl rfl isl_242) ?_;refine qaG ?_;refine zl (p:=¬(zcr N J).length=ps.length) rfl (by simp[IntL.toI,zk9,eq_comm];omega) (fun ht35=>?_) (fun ht35=>?_)
 .
  refine qar ?_;exact zb rfl rfl (za rfl (by unfold zdL;rw[ui hin,toNat_natCast,toNat_natCast,uh ht35];rfl))
 have hsl:=zgO (n:=N) (i:=J);have hlast:(zg5 (zcr N J) ps x (zcr N J).length)[(zcr N J).length]?=some (zcN (zcr N J) ps x):=by rw[ztv,ztt (ug _) (ua ht35)]
 refine qbY ?_;refine qbf ?_;refine qaz ?_;refine A0 (oCl (zu (rclimb_ok (zcr N J) x ps zsl (ua ht35) ya)) rfl fn_157 yL) ?_;refine qc3 ?_;refine qbl ?_;refine G0 (zaC rfl rfl zdn) ?_;refine G0 (zgC rfl rfl rfl (show _=(((zcr N J).length:Int):Int) from(by rw[zi3];exact(z8 ya).trans ya))) ?_;refine G0 (zx (i:=(zcr N J).length) rfl rfl rfl ya zce yj) ?_;refine qe2 ?_;refine qaM ?_;exact zb rfl rfl (za rfl (by unfold zdL;rw[ui hin,toNat_natCast,toNat_natCast,ui (ua ht35),Bool.true_and,Bool.true_and]))
theorem refErrs_ok (l m:List Int):Tells P 37 [.val (bsl i64T) l,.val (bsl i64T) m] (.val zo (decide (l=m))):=by
 refine zc Tryz.func37 rfl rfl rfl (fun ext w hext=>?_);refine ze (d:=0) rfl zk (fun hsl0=>?_);refine ze (d:=1) rfl zk (fun hsl1=>?_);refine qcK ?_;refine A0 (zaC rfl rfl zv7) ?_;refine qaz ?_;refine A0 (zaC rfl rfl zv7) ?_;refine qaG ?_;refine zl (p:=¬l.length=m.length) rfl yag (fun ht10=>?_) (fun ht10=>?_)
 .
  refine qar ?_;exact zb rfl rfl (za rfl (uh (fun e=>ht10 ybI)).symm)
 refine CSQQR ?_;refine qco ?_;refine Lp (ι:=Nat) 0 (fun (k:Nat)=>(((Fr.none).set 0 (.val (bsl i64T) l)).set 1 (.val (bsl i64T) m)).set 5 (.val i64T (k:Int))) (fun (k:Nat)=>Hp.none) (fun (k:Nat)=>k<=l.length/\l.take k=m.take k) (fun (k:Nat)=>l.length-k) (0) (⟨uf _,rfl⟩) ?_;intro k hinv;refine qb6 ?_;refine A0 (zaC rfl rfl zv7) ?_;refine qa7 ?_;refine Cf (p:=k<l.length) (fun ht14=>?_) (fun ht14=>?_)
 .
  obtain⟨x,hx⟩:∃x,l[k]?=some x:=⟨_,ub ht14⟩;obtain⟨y,hy⟩:∃y,m[k]?=some y:=yr;refine qff ?_;refine qbl ?_;refine G0 (zx (i:=k) rfl rfl rfl ya zub yj) ?_;refine G0 (zh rfl rfl ty_40) ?_;refine qbl ?_;refine G0 (zx (i:=k) rfl rfl rfl ya zub yj) ?_;refine G0 (zh rfl rfl ty_40) ?_;refine G0 zd1 ?_;refine GK.nil ?_;refine zl (p:=¬x=y) rfl yx (fun ht25=>?_) (fun ht25=>?_)
  .
   refine qar ?_;exact zb rfl rfl (za rfl (uh (zd8 hx hy ht25)).symm)
  refine qcG ?_;exact Nx (k+1) (⟨by omega,zbN hx hy hinv.2 (ua ht25)⟩) ya
 refine qcs ?_;exact zb rfl rfl (za rfl (ui yI).symm)
theorem rhas_ok (l:List Int) (v:Int):Tells P 153 [.val (bsl i64T) l,.val i64T v] (.val zo (decide (v∈l))):=by
 refine zc Tryz.func153 rfl rfl rfl (fun ext w hext=>?_);refine ze (d:=0) rfl zk (fun hsl0=>?_);refine ze (d:=1) rfl zz (fun hin1=>?_);refine CQR ?_;refine qcz ?_;refine Lp (ι:=Nat) 0 (fun (i:Nat)=>(((Fr.none).set 0 (.val (bsl i64T) l)).set 1 (.val i64T v)).set 5 (.val i64T (i:Int))) (fun (i:Nat)=>Hp.none) (fun (i:Nat)=>i<=l.length/\¬v∈l.take i) (fun (i:Nat)=>l.length-i) (0) (⟨uf _,by simp⟩) ?_;intro i hinv;refine qb6 ?_;refine qbw ?_;refine qa7 ?_;refine Cf (p:=i<l.length) (fun ht9=>?_) (fun ht9=>?_)
 .
  obtain⟨x,hx⟩:∃x,l[i]?=some x:=yaN;refine qf7 ?_;refine xz ?_;refine qbs ?_;refine qaz ?_;refine qdh ?_;refine Cf (p:=x=v) (fun ht17=>?_) (fun ht17=>?_)
  .
   refine qar ?_;exact zb rfl rfl (za rfl ((ui (ht17▸ud hx)).symm))
  refine qcG ?_;exact Nx (i+1) (⟨by omega,by rw[un,hx,List.mem_append];rintro (h|h);exact hinv.2 h;exact ht17 (List.mem_singleton.1 h).symm⟩) ya
 refine qcs ?_;exact zb rfl rfl (za rfl ((by have h:=hinv.2;rw[uc ya] at h;exact(uh h).symm)))
theorem zud (l:List Int) (v:Int) (hl:l.length<=1000000):Tells P 154 [.val (bsl i64T) l,.val i64T v] (.fresh 3 i64T (without l v)):=by
 refine zc Tryz.func154 rfl rfl rfl (fun ext w hext=>?_);refine ze (d:=0) rfl zk (fun hsl0=>?_);refine ze (d:=1) rfl zz (fun hin1=>?_);refine qeR ?_;refine qa4 ?_;refine za7 (T:=i64T) (d:=5) 3 rfl ?_;refine Lp (ι:=Nat) 1 (fun (i:Nat)=>((((Fr.none).set 0 (.val (bsl i64T) l)).set 1 (.val i64T v)).set 5 (.own 0)).set 6 (.val i64T (i:Int))) (fun (i:Nat)=>(Hp.none).set 0 (.row 3 i64T (without (l.take i) v))) (fun (i:Nat)=>i<=l.length) (fun (i:Nat)=>l.length-i) (0) (uf _) ?_;intro i hinv;refine qb6 ?_;refine qbw ?_;refine qa7 ?_;refine Cf (p:=i<l.length) (fun ht10=>?_) (fun ht10=>?_)
 .
  obtain⟨x,hx⟩:∃x,l[i]?=some x:=⟨_,ub ht10⟩;have hwt:=zqz (who:=v) hx;have hwl:(without (l.take i) v).length<=1000000:=by have h1:(without (l.take i) v).length<=(l.take i).length:=List.length_filter_le _ _;rw[um] at h1;omega
  refine qf7 ?_;refine xz ?_;refine qbs ?_;refine qaz ?_;refine qaG ?_;refine zl (p:=¬x=v) rfl yx (fun ht18=>?_) (fun ht18=>?_)
  .
   refine qcU ?_;refine qal ?_;refine xz ?_;refine qbs ?_;refine qde ?_;refine qeU ?_;refine qbI ?_;refine zq (n:=0) (y:=without (l.take (i+1)) v) rfl (by rw[hwt,ur ht18]) ?_;exact Nx (i+1) ya ya
  refine qcG ?_;refine zq (n:=0) (y:=without (l.take (i+1)) v) rfl (by rw[hwt,ut (ua ht18),append_nil]) ?_;exact Nx (i+1) ya ya
 refine qa8 ?_;exact zb rfl rfl (zf rfl rfl yO)
theorem rgive_ok (c:Client) (raw:List UInt8) (hc:SmC c) (hraw:raw.length<=1000000000):Tells P 155 [.val zZ c,.val (bsl u8T) raw] (.tup2 (.val zZ (zcH c raw).1) (.val i64T (zcH c raw).2)):=by
 refine zc Tryz.func155 rfl rfl rfl (fun ext w hext=>?_);refine ze (d:=1) rfl zk (fun hsl1=>?_);refine qae ?_;refine qcf ?_;refine qaR ?_;refine A0 (oCl (rpread_ok raw hraw) rfl fn_199 yd) ?_;refine qaA ?_;refine qcv ?_;refine qas ?_;refine qfg ?_;refine zl (p:=¬zbK raw=true) rfl (by cases zbK raw<;>rfl) (fun ht17=>?_) (fun ht17=>?_)
 .
  refine qf9 ?_;exact zi rfl rfl (zm rfl rfl za3 (by unfold zcH;rw[ut ht17])) (zC (za rfl (by unfold zcH;rw[ut ht17])))
 refine CSQQR ?_;refine qbX ?_;refine A0 (oFp ziw) ?_;refine A0 (oLb zfI ty_3) ?_;refine A0 zd1 ?_;refine qaz ?_;refine zX (d:=24) (p:=¬(zen raw).m=c.m) rfl yx (fun g24=>?_) (fun g24=>?_)
 .
  refine qab ?_;refine qdg ?_;refine Ct ?_;refine qf9 ?_;exact zi rfl rfl (zm rfl rfl za3 (by unfold zcH;rw[ur ht17,ut (.inl g24)])) (zC (za rfl (by unfold zcH;rw[ur ht17,ut (.inl g24)])))
 refine qbb ?_;refine qdS ?_;refine A1 zd1 ?_;refine qat ?_;refine zl (p:=¬(zen raw).k=c.k) rfl yx (fun ht30=>?_) (fun ht30=>?_)
 .
  refine qf9 ?_;exact zi rfl rfl (zm rfl rfl za3 (by unfold zcH;rw[ur ht17,ut (.inr ht30)])) (zC (za rfl (by unfold zcH;rw[ur ht17,ut (.inr ht30)])))
 refine qeM ?_;refine A0 (oCl (zgS (zen raw)) rfl ztd yd) ?_;refine qag ?_;refine qaG ?_;refine zl (p:=¬zac (zen raw)=0) rfl yx (fun ht35=>?_) (fun ht35=>?_)
 .
  refine qch ?_;refine qaz ?_;refine qbV ?_;exact zi rfl rfl (zm rfl rfl za3 (by unfold zcH;rw[ur ht17,ur (fun h=>h.elim g24 ht30),ut ht35])) (zC (za rfl (by unfold zcH;rw[ur ht17,ur (fun h=>h.elim g24 ht30),ut ht35])))
 refine CSQQR ?_;refine A0 (oFp zhx) ?_;refine A0 (oLb zdv ty_4) ?_;refine CN ?_;refine zl (p:=c.have_=true) rfl yw (fun ht39=>?_) (fun ht39=>?_)
 .
  refine CQR ?_;refine qeN ?_;refine qa9 ?_;refine A0 (oCl (rpick_ok c.p (zen raw) hc.1 (zlJ (ua ht35))) rfl fn_201 ye) ?_;refine qaA ?_;refine qcv ?_;refine qas ?_;refine qag ?_;refine qaG ?_;refine zl (p:=¬(zbD c.p (zen raw)).2=0) rfl yx (fun ht48=>?_) (fun ht48=>?_)
  .
   refine qch ?_;refine qaz ?_;refine qbV ?_;exact zi rfl rfl (zm rfl rfl za3 ybJ) (zC (za rfl ybJ))
  refine CS ?_;refine CR ?_;refine qa9 ?_;refine qas ?_;refine CNQR ?_;refine A0 (oFp zhx) ?_;refine zg rfl rfl rfl rfl rfl zdv ty_4 rfl ?_;refine CNQR ?_;refine qa9 ?_;refine A0 (oFp zcJ) ?_;refine zg rfl rfl rfl rfl rfl zby zaO rfl ?_;refine CNQR ?_;refine qaB ?_;refine qbV ?_;exact zi rfl rfl (zm rfl rfl za3 ybC) (zC (za rfl ybC))
 refine CSQR ?_;refine A0 (oFp zhx) ?_;refine zg rfl rfl rfl rfl rfl zdv ty_4 rfl ?_;refine CNQR ?_;refine qa9 ?_;refine A0 (oFp zcJ) ?_;refine zg rfl rfl rfl rfl rfl zby zaO rfl ?_;refine CNQR ?_;refine qaB ?_;refine qbV ?_;exact zi rfl rfl (zm rfl rfl za3 ybY) (zC (za rfl ybY))
theorem rstep22_ok (c:Client) (x:Msg) (hc:SmC c) (hr:x.raw.length<=1000000000):Tells P 88 [.val zZ c,.val msgT x] (.tup2 (.val zZ (zdZ c x).1) (.val i64T (zdZ c x).2)):=by
 obtain⟨kd,who,raw⟩:=x;have hraw:raw.length<=1000000000:=hr;have hc1:=hc.1.1;have hc2:=hc.2;refine zc Tryz.func88 rfl rfl rfl (fun ext w hext=>?_);refine qav ?_;refine qcf ?_;refine qbT ?_;refine qed ?_;refine qcZ ?_;refine Sp (d:=13) (p:=who<0) (fun g13=>?_) (fun g13=>?_)
 .
  refine qcX ?_;refine qeA ?_;refine Ct ?_;refine qf9 ?_;exact zi rfl rfl (zm rfl rfl za3 yZ) (zC (za rfl yZ))
 refine A1 (oFp zfX) ?_;refine A1 (oLb zhg ty_3) ?_;refine A1 zcq ?_;refine qai ?_;refine Sp (d:=18) (p:=63<who) (fun g18=>?_) (fun g18=>?_)
 .
  refine qcX ?_;refine qat ?_;refine Ct ?_;refine qf9 ?_;exact zi rfl rfl (zm rfl rfl za3 yZ) (zC (za rfl yZ))
 refine qfb ?_;refine qdU ?_;refine Sp (d:=23) (p:=kd<0) (fun g23=>?_) (fun g23=>?_)
 .
  refine qcA ?_;refine Ct ?_;refine qf9 ?_;exact zi rfl rfl (zm rfl rfl za3 yZ) (zC (za rfl yZ))
 refine qfb ?_;refine A1 zgb ?_;refine qat ?_;refine Cf (p:=3<=kd) (fun ht27=>?_) (fun ht27=>?_)
 .
  refine qf9 ?_;exact zi rfl rfl (zm rfl rfl za3 yZ) (zC (za rfl yZ))
 refine CSQR ?_;refine qdf ?_;refine qed ?_;refine A0 (oCl (rhas_ok c.opn who) rfl fn_153 ye) ?_;refine qbT ?_;refine qdT ?_;refine qdh ?_;refine Cf (p:=kd=0) (fun ht36=>?_) (fun ht36=>?_)
 .
  refine qbd ?_;refine CN ?_;refine Cf (p:=who∈c.opn) (fun ht37=>?_) (fun ht37=>?_)
  .
   refine qf9 ?_;exact zi rfl rfl (zm rfl rfl za3 (by rw[zap ya,ut ht36];unfold zjj;rw[ut ht37])) (zC (za rfl (by rw[zap ya,ut ht36];unfold zjj;rw[ut ht37])))
  refine CSQQR ?_;refine qdf ?_;refine qbw ?_;refine qb5 ?_;refine Cf (p:=8<=c.opn.length) (fun ht42=>?_) (fun ht42=>?_)
  .
   refine qf9 ?_;exact zi rfl rfl (zm rfl rfl za3 (by rw[zap ya,ut ht36];unfold zjj;rw[ur ht37,ut ht42])) (zC (za rfl (by rw[zap ya,ut ht36];unfold zjj;rw[ur ht37,ut ht42])))
  refine CSQR ?_;refine qdf ?_;refine zdX rfl rfl rfl rfl rfl rfl zhO yM ?_;refine qby ?_;refine qed ?_;refine qde ?_;refine zhV (d:=51) rfl rfl ?_;refine qaR ?_;refine A0 (oFp zec) ?_;refine zg rfl rfl rfl rfl rfl zgt zkb rfl ?_;refine CNQR ?_;refine qaB ?_;refine qbV ?_;exact zi rfl rfl (zm rfl rfl za3 (by rw[zap ya,ut ht36];unfold zjj;rw[ur ht37,ur ht42])) (zC (za rfl (by rw[zap ya,ut ht36];unfold zjj;rw[ur ht37,ur ht42])))
 refine qcb ?_;refine qaT ?_;refine zl (p:=¬who∈c.opn) rfl yw (fun ht56=>?_) (fun ht56=>?_)
 .
  refine qf9 ?_;exact zi rfl rfl (zm rfl rfl za3 ybj) (zC (za rfl ybj))
 refine CSQQR ?_;refine qdT ?_;refine qdh ?_;refine Cf (p:=kd=1) (fun ht60=>?_) (fun ht60=>?_)
 .
  refine CQR ?_;refine qdf ?_;refine qed ?_;refine A0 (oCl (zu (zud c.opn who ya)) rfl fn_154 ye) ?_;refine A0 (oFp zec) ?_;refine zg rfl rfl rfl rfl rfl zgt zkb rfl ?_;refine CNQR ?_;refine qaB ?_;refine qbV ?_;exact zi rfl rfl (zm rfl rfl za3 (by rw[zap ya,ur ht36,ut ht60];unfold zhU;rw[ut (ua ht56)])) (zC (za rfl (by rw[zap ya,ur ht36,ut ht60];unfold zhU;rw[ut (ua ht56)])))
 refine CSQR ?_;refine qaB ?_;refine A0 (oFp zlP) ?_;refine A0 (oLb zlg zji) ?_;refine A0 (oCl (rgive_ok c raw hc hraw) rfl fn_155 ye) ?_;refine qaA ?_;refine qcf ?_;refine qao ?_;refine qdM ?_;refine qbV ?_;exact zi rfl rfl (zm rfl rfl za3 (by rw[zap ya,ur ht36,ur ht60,ut (ua ht56)])) (zC (za rfl (by rw[zap ya,ur ht36,ur ht60,ut (ua ht56)])))
theorem rrun22_ok (c:Client) (l:List Msg) (hc:SmC c) (hl:zw4 l):Tells P 34 [.val zZ c,.val (bsl msgT) l] (.tup2 (.val zZ (runC c l)) (.val (sl i64T) (runE c l))):=by
 have hll:=hl.1;refine zc Tryz.func34 rfl rfl rfl (fun ext w hext=>?_);refine ze (d:=1) rfl zk (fun hsl1=>?_);refine qae ?_;refine qcf ?_;refine A0 aL ?_;refine qfI ?_;refine qa4 ?_;refine za7 (T:=i64T) (d:=6) 40 rfl ?_;refine Lp (ι:=Nat) 3 (fun (i:Nat)=>(((((Fr.none).set 1 (.val (bsl msgT) l)).set 2 (.ptr 0 0)).set 4 (.ptr 1 0)).set 6 (.own 2)).set 7 (.val i64T (i:Int))) (fun (i:Nat)=>(((Hp.none).set 0 (.box 29 zZ (runC c (l.take i)))).set 1 (.box 29 zZ ze7)).set 2 (.row 40 i64T (runE c (l.take i)))) (fun (i:Nat)=>i<=l.length) (fun (i:Nat)=>l.length-i) (0) (uf _) ?_;intro i hinv;refine qb6 ?_;refine A0 (zaC rfl rfl zv6) ?_;refine qa7 ?_;refine Cf (p:=i<l.length) (fun ht13=>?_) (fun ht13=>?_)
 .
  obtain⟨x,hx⟩:∃x,l[i]?=some x:=⟨_,ub ht13⟩;have hxr:x.raw.length<=1000000000:=by have:=hl.2 x (ud hx);omega
  have hrs:=zvy (c:=c) hx;have hrl:(runE c (l.take i)).length<=100:=by rw[zqN,um];omega
  refine qaS ?_;refine CQ ?_;refine zA [some 1000001,some 1000001,some 1000001,some 1000001,some 1000001,some 1000001,some 1000001,some 1000001,some 1000001,none,none,some 1] mixed yc ?_;refine XK.gf (t:=2) rfl rfl (fun _ he=>zr rfl rfl he (Lens.self _) za3) ⟨hpB rfl rfl,trivial⟩ rfl rfl rfl ?_;refine XK.ga (fun _=>g_mv (.inl rfl) rfl) rfl rfl rfl ?_;refine XK.ga (fun _=>g_mv (.inl rfl) rfl) rfl rfl rfl ?_;refine XK.ga (fun _=>zx (i:=i) rfl rfl rfl ya sl_37 yj) rfl rfl rfl ?_;refine XK.ga (fun _=>zh rfl rfl ty_36) rfl rfl rfl ?_;refine XK.ga (fun _=>zcT (rstep22_ok (runC c (l.take i)) x (zkm _ hc) hxr) rfl fn_88 ⟨yk,yb,trivial⟩ rfl) rfl rfl rfl ?_;refine xo ?_;refine XK.ga y4 rfl rfl rfl ?_;refine xj ?_;refine XK.e (fun fr' hfr kk H=>by exact zN ztZ rfl rfl rfl rfl (zD H)) ?_;refine XK.e (x:=.idk) (fun fr' hfr kk H=>by exact zg rfl rfl rfl ((hfr 8 yc).trans rfl) rfl (Lens.self _) za3 ((hfr 23 yc).trans rfl) (zD H)) ?_;refine X0 aV ?_;refine xw ?_;refine qch ?_;refine qao ?_;refine qdA ?_;refine qaz ?_;refine A0 (zW (T:=i64T) (xs:=[_]) rfl zub zvC yA rfl rfl) ?_;refine zp rfl rfl rfl rfl rfl rfl rfl zvC yM ?_;refine qeU ?_;refine zeE 3 ?_;refine zco 4 2 6 rfl rfl rfl rfl rfl rfl ?_;refine zq (n:=2) (y:=runE c (l.take (i+1))) rfl hrs.2.symm ?_;refine zt (n:=0) (y:=runC c (l.take (i+1))) rfl hrs.1.symm ?_;exact Nx (i+1) ya ya
 refine zq (n:=2) (y:=runE c l) rfl yO ?_;refine zt (n:=0) (y:=runC c l) rfl yO ?_;refine zhV (d:=6) rfl rfl ?_;refine qaU ?_;refine qaB ?_;refine qaz ?_;refine qbV ?_;exact zi rfl rfl (zm rfl rfl za3 (rfl)) (zC (za rfl (rfl)))
theorem zvI (c:Client) (h:Int):Tells P 35 [.val zZ c,.val i64T h] (.tup2 (.val zaK (atP c h)) (.val zo (atOk c h))):=by
 refine zc Tryz.func35 rfl rfl rfl (fun ext w hext=>?_);refine ze (d:=1) rfl zz (fun hin1=>?_);refine qae ?_;refine qcw ?_;refine qcz ?_;refine Lp (ι:=Nat) 2 (fun (i:Nat)=>((((Fr.none).set 1 (.val i64T h)).set 2 (.ptr 0 0)).set 4 (.ptr 1 0)).set 6 (.val i64T (i:Int))) (fun (i:Nat)=>((Hp.none).set 0 (.box 29 zZ c)).set 1 (.box 72 zaK zll)) (fun (i:Nat)=>i<=c.p.p.length/\idx (fun x:Part=>decide (x.h.height=h)) c.p.p=shift i (idx (fun x:Part=>decide (x.h.height=h)) (c.p.p.drop i))) (fun (i:Nat)=>c.p.p.length-i) (0) (⟨uf _,zcC _ _⟩) ?_;intro i hinv;refine qbd ?_;refine qbR ?_;refine xE ?_;refine ze (d:=10) rfl zk (fun hslp=>?_);refine qbM ?_;refine qcZ ?_;refine Sp (d:=13) (p:=i<c.p.p.length) (fun g13=>?_) (fun g13=>?_)
 .
  refine qdc ?_;refine qat ?_;refine zl (p:=c.have_=true) rfl yw (fun ht16=>?_) (fun ht16=>?_)
  .
   obtain⟨x,hx⟩:∃x,c.p.p[i]?=some x:=⟨_,ub g13⟩;refine qeh ?_;refine qbR ?_;refine xE ?_;refine qaz ?_;refine xB ?_;refine A0 (oFr zbA zbe) ?_;refine qfA ?_;refine qaz ?_;refine qdh ?_;refine Cf (p:=x.h.height=h) (fun ht28=>?_) (fun ht28=>?_)
   .
    have hat:=at_here hx (show atI c h=(i:Int) from hinv.2.trans (zgA hx (by simpa using ht28))) ht16;refine CQR ?_;refine qbR ?_;refine xE ?_;refine qaz ?_;refine xB ?_;refine A0 (zh rfl rfl zeR) ?_;refine qf8 ?_;exact zi rfl rfl (zm rfl rfl zeR (hat.1.symm)) (zC (za rfl (hat.2.symm)))
   refine qcG ?_;exact Nx (i+1) (⟨by omega,hinv.2.trans (zjs hx (by simpa using ht28))⟩) ya
  refine qaU ?_;refine xD ?_;refine qf8 ?_;exact zi rfl rfl (zm rfl rfl zeR ((at_no (fun h2=>by unfold atOk at h2;rw[uk] at h2;exact ht16 h2.1)).symm)) (zC (za rfl (by symm;unfold atOk;simp[ht16])))
 refine qdg ?_;refine Cg ?_;refine qaU ?_;refine xD ?_;refine qf8 ?_;exact zi rfl rfl (zm rfl rfl zeR ((at_no (fun h2=>by have h3:atI c h = -1:=hinv.2.trans (zfU ya);unfold atOk at h2;rw[h3,uk] at h2;exact absurd h2.2 yl)).symm)) (zC (za rfl (by have h3:atI c h = -1:=hinv.2.trans (zfU ya);symm;unfold atOk;rw[h3];simp)))
theorem zpC (a b:Client):Tells P 36 [.val zZ a,.val zZ b] (.val zo (decide (a=b))):=by
 refine zc Tryz.func36 rfl rfl rfl (fun ext w hext=>?_);refine qeJ ?_;refine qdf ?_;refine qdf ?_;refine A0 (oCl (refInts_ok a.opn b.opn) rfl fn_32 ye) ?_;refine qaj ?_;refine qeN ?_;refine qeN ?_;refine A0 (oCl (zuh a.p b.p) rfl fn_89 ye) ?_;refine qbL ?_;refine Sp (d:=18) (p:=a.opn=b.opn) (fun g18=>?_) (fun g18=>?_)
 .
  refine qfY ?_;refine qai ?_;refine zX (d:=21) (p:=a.p=b.p) rfl (by first|rfl|simp) (fun g21=>?_) (fun g21=>?_)
  .
   refine A1 (oFp ziw) ?_;refine A1 (oLb zfI ty_3) ?_;refine A1 (oFp ziw) ?_;refine A1 (oLb zfI ty_3) ?_;refine qep ?_;refine zX (d:=28) (p:=a.m=b.m) rfl yx (fun g28=>?_) (fun g28=>?_)
   .
    refine qdS ?_;refine qdS ?_;refine qep ?_;refine zX (d:=35) (p:=a.k=b.k) rfl yx (fun g35=>?_) (fun g35=>?_)
    .
     refine qdc ?_;refine qdc ?_;refine qgm ?_;refine qaE ?_;exact zb rfl rfl (za rfl ((by have e:decide (a=b)=(a.have_==b.have_):=(by rw[Bool.eq_iff_iff,uj,beq_iff_eq];exact⟨fun h=>by rw[h],fun h=>by cases a;cases b;simp_all⟩);exact e.symm)))
    refine qer ?_;exact zb rfl rfl (za rfl ((by symm;apply uh;intro h;exact g35 yaY)))
   refine qda ?_;refine qd2 ?_;exact zb rfl rfl (za rfl ((by symm;apply uh;intro h;exact g28 yaY)))
  refine qda ?_;refine qay ?_;refine qd2 ?_;exact zb rfl rfl (za rfl ((by symm;apply uh;intro h;exact g21 yaY)))
 refine qay ?_;refine qay ?_;refine qd2 ?_;exact zb rfl rfl (za rfl ((by symm;apply uh;intro h;exact g18 yaY)))
theorem rsure22_ok (c:Client) (h n i:Int) (tx:Ab.Id) (path:List Ab.Id) (hc:SmC c):Tells P 39 [.val zZ c,.val i64T h,.val i64T n,.val i64T i,.val idT tx,.val (bsl idT) path] (.val zo (zr9 c h n i tx path)):=by
 have hc1:=hc.1.1;refine zc Tryz.func39 rfl rfl rfl (fun ext w hext=>?_);refine ze (d:=1) rfl zz (fun hin1=>?_);refine ze (d:=2) rfl zz (fun hin2=>?_);refine ze (d:=3) rfl zz (fun hin3=>?_);refine ze (d:=5) rfl zk (fun hsl5=>?_);refine qav ?_;refine qdM ?_;refine A0 (oCl (zvI c h) rfl fn_35 ye) ?_;refine qfV ?_;refine qfg ?_;refine zl (p:=¬atOk c h=true) rfl yw (fun ht24=>?_) (fun ht24=>?_)
 .
  refine qar ?_;exact zb rfl rfl (za rfl (by symm;unfold zr9;simp[ht24]))
 have hyo:=ua ht24;have hya:=at_yes hyo;obtain⟨y,hy⟩:∃y,c.p.p[c.p.p.length-1]?=some y:=⟨_,ub (by have:=hya.2.2.2;omega)⟩;have hlast:c.p.p.getD (c.p.p.length-1) zll=y:=ybt;refine CSQR ?_;refine qbR ?_;refine xE ?_;refine qbR ?_;refine xE ?_;refine qbM ?_;refine qfv ?_;refine A0 (zx (i:=c.p.p.length-1) rfl rfl rfl ya zcu yj) ?_;refine A0 (oFr zbA zbe) ?_;refine qfA ?_;refine qcR ?_;refine qaz ?_;refine A0 mX ?_;refine A0 (oFp zlQ) ?_;refine A0 (oLb zjg ty_3) ?_;refine A0 (zgC rfl rfl rfl (show _=(IntKind.i64.wrap (y.h.height-c.k):Int) from rfl)) ?_;refine A0 zfR ?_;refine qbL ?_;refine Sp (d:=44) (p:=h<=IntKind.i64.wrap (y.h.height-c.k)) (fun g44=>?_) (fun g44=>?_)
 .
  refine A1 (oFp zbA) ?_;refine A1 (oFp zfW) ?_;refine A1 (oLb (zbe.comp zcF) zY) ?_;refine qdi ?_;refine A1 (oLs rfl rfl rfl zY) ?_;refine qfY ?_;refine A1 (oCl (zuk (atP c h).h.txs n i tx path) rfl fn_90 ⟨yk,yk,yk,yk,yk,trivial⟩) ?_;refine qaE ?_;exact zb rfl rfl (za rfl (by unfold zr9;rw[hyo,hlast,ui g44];simp))
 refine qab ?_;refine qer ?_;exact zb rfl rfl (za rfl (by unfold zr9;rw[hyo,hlast,uh g44];simp))
theorem zpm (c d:Client) (l:List Msg) (h n i:Int) (tx:Ab.Id) (path:List Ab.Id):Tells P 10 [.val zZ c,.val zZ d,.val (sl msgT) l,.val i64T h,.val i64T n,.val i64T i,.val idT tx,.val (sl idT) path] (.val zo true):=by
 refine zc Tryz.func10 rfl rfl rfl (fun ext w hext=>?_);refine ze (d:=2) rfl zk (fun hsl2=>?_);refine ze (d:=3) rfl zz (fun hin3=>?_);refine ze (d:=4) rfl zz (fun hin4=>?_);refine ze (d:=5) rfl zz (fun hin5=>?_);refine ze (d:=7) rfl zk (fun hsl7=>?_);refine qav ?_;refine qfn ?_;refine qaj ?_;refine A0 (oCl (awake22_ok) rfl fn_28 trivial) ?_;refine qdM ?_;refine A0 (oCl (zwy c l) rfl fn_29 ye) ?_;refine qaj ?_;refine qaB ?_;refine A0 (oCl (zwy d []) rfl fn_29 ⟨yk,yb,trivial⟩) ?_;refine qag ?_;refine A0 oN ?_;refine qaz ?_;refine zlc (d:=41) rfl (rfl) ?_;refine qfY ?_;refine A1 oN ?_;refine qai ?_;refine zX (d:=45) (p:=zkX c l=false) rfl (by cases zkX c l<;>rfl) (fun g45=>?_) (fun g45=>?_)
 .
  refine qaZ ?_;refine qeA ?_;refine Ct ?_;refine qd3 ?_;exact zb rfl rfl (za rfl (rfl))
 obtain⟨hsm,hms,hll,_⟩:=few22_at (few22_yes g45);have hs2:SmC (runC c l):=zkm l hsm;refine qfY ?_;refine A1 oN ?_;refine qai ?_;refine zX (d:=49) (p:=zkX d []=false) rfl (by cases zkX d []<;>rfl) (fun g49=>?_) (fun g49=>?_)
 .
  refine qcA ?_;refine Ct ?_;refine qd3 ?_;exact zb rfl rfl (za rfl (rfl))
 refine qfY ?_;refine A1 (zaC rfl rfl zdn) ?_;refine qeK ?_;refine Cf (p:=12<path.length) (fun ht53=>?_) (fun ht53=>?_)
 .
  refine qd3 ?_;exact zb rfl rfl (za rfl (rfl))
 refine CSQR ?_;refine qaB ?_;refine qaz ?_;refine A0 (oCl (zvz c l hsm hms) rfl fn_15 ye) ?_;refine qaA ?_;refine qcf ?_;refine qao ?_;refine qdM ?_;refine A0 (oCl (rrun22_ok c l hsm hms) rfl fn_34 ye) ?_;refine qaA ?_;refine qcf ?_;refine qao ?_;refine qdM ?_;refine A0 (oCl (zu1 (runC c l) h hs2) rfl fn_26 ye) ?_;refine qfV ?_;refine qdM ?_;refine A0 (oCl (zvI (runC c l) h) rfl fn_35 ye) ?_;refine qfV ?_;refine qaj ?_;refine qaB ?_;refine qaB ?_;refine A0 (oCl (zpC (runC c l) (runC c l)) rfl fn_36 ye) ?_;refine qbL ?_;refine A0 (oCl (refErrs_ok (runE c l) (runE c l)) rfl fn_37 ye) ?_;refine qaj ?_;refine qcj ?_;refine qcj ?_;refine A0 (oCl (znR [atP (runC c l) h] [atP (runC c l) h]) rfl fn_38 ye) ?_;refine qaj ?_;refine qaB ?_;refine qaB ?_;refine A0 (oCl (zpC c d) rfl fn_36 ye) ?_;refine qaj ?_;refine qaB ?_;refine qal ?_;refine qaz ?_;refine qbf ?_;refine qaz ?_;refine A0 (oCl (rsure22_ok (runC c l) h n i tx path hs2) rfl fn_39 ⟨yk,yk,yk,yk,yk,yk,trivial⟩) ?_;refine qbL ?_;refine zf5 (d:=101) rfl yw ?_;refine qfY ?_;refine qai ?_;refine zf5 (d:=104) rfl yw ?_;refine qfY ?_;refine qai ?_;refine zf5 (d:=107) rfl yw ?_;refine qdi ?_;refine qgm ?_;refine qai ?_;refine zf5 (d:=112) rfl yw ?_;refine A1 (oLs rfl rfl rfl za3) ?_;refine A1 (oLs rfl rfl rfl za3) ?_;refine A1 (oCl (zpx c d) rfl fn_30 ye) ?_;refine qfY ?_;refine qgm ?_;refine qai ?_;refine zf5 (d:=119) rfl yw ?_;refine A1 (oLs rfl rfl rfl za3) ?_;refine qdi ?_;refine qfY ?_;refine A1 (oLs rfl rfl rfl zY) ?_;refine qfY ?_;refine A1 (oCl (sure22_ok (runC c l) h n i tx path hs2) rfl fn_40 ⟨yk,yk,yk,yk,yk,yk,trivial⟩) ?_;refine qfY ?_;refine qgm ?_;refine qaE ?_;exact zb rfl rfl (za rfl yw)
end Go.Proofs.YtikaeepohlkjdaaGreat
