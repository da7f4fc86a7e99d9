/- Parts of the proof: the layer that reads Go values as data, and what the functions of the program tell. -/
import Derived.Test.YtikaeepohlkjdaaGreatK4
open List (length_cons length_nil mem_cons_self)
open Nat (div_le_self lt_of_le_of_lt min_eq_left pow_add)
open UInt64 (one_mul toNat_div toNat_inj toNat_lt toNat_ofNat_of_lt')
set_option linter.unusedVariables false
set_option linter.unusedSimpArgs false
set_option maxRecDepth 20000
namespace Go.Proofs.YtikaeepohlkjdaaGreat
open Go.Ab Go.RowKit
def zfk:List Coin->Int->List Tx->Sum Int (List Coin×Int)
  | out,room,[]=>.inr (out,room)
  | out,room,t::l=>if (zah out t).2.2=0 then zfk (zah out t).1 (IntKind.i64.wrap (room+(zah out t).2.1)) l else .inl (zah out t).2.2
def zea (l:List Tx):Bool:=match l with | []=>false|t::_=>decide (t.ins.length=0)
theorem zpV {l:List Tx} {t:Tx} (h:l[0]?=some t):zea l=decide (t.ins.length=0):=by
  cases l with
  | nil=>simp at h
  | cons a m=>simp at h;subst h;rfl
theorem zjQ {l:List Tx} (h:¬0<l.length):zea l=false:=by
  cases l with
  | nil=>rfl
  | cons a m=>simp at h
def zeU (l:List Tx) (k:Nat):List Tx:=if zea l=true/\k=0 then l.drop 1 else l.drop k
def zab (p:List Coin) (l:List Tx):List Coin×Int :=
  if ¬zaW p=true then (p,1) else if 4<l.length then (p,3) else
  match zfk p 50 (zeU l 0) with
  | .inl e=>(p,e)
  | .inr (out,room)=>match (if zea l=true then l[0]? else none) with
    | none=>(out,0)
    | some t=>if ¬zaM t=true then (p,1) else if ¬(zca out t).2=0 then (p,(zca out t).2) else if room<zfJ (·.v) t.outs then (p,8) else if 48<(zca out t).1.length then (p,11) else ((zca out t).1,0)
theorem zjH {out:List Coin} {room:Int} {l:List Tx} {k:Nat} {t:Tx} (hk:¬(zea l=true/\k=0)) (hx:l[k]?=some t) (h:(zah out t).2.2=0):zfk out room (zeU l k)=zfk (zah out t).1 (IntKind.i64.wrap (room+(zah out t).2.1)) (zeU l (k+1)):=by
  obtain⟨hlt,rfl⟩:=ul.1 hx;unfold zeU;rw[ur hk,ur ya,List.drop_eq_getElem_cons hlt,zfk.eq_2,ut h]
theorem znH {out:List Coin} {room:Int} {l:List Tx} {k:Nat} {t:Tx} (hk:¬(zea l=true/\k=0)) (hx:l[k]?=some t) (h:¬(zah out t).2.2=0):zfk out room (zeU l k) = .inl (zah out t).2.2:=by
  obtain⟨hlt,rfl⟩:=ul.1 hx;unfold zeU;rw[ur hk,List.drop_eq_getElem_cons hlt,zfk.eq_2,ur h]
theorem zif {l:List Tx} (h:zea l=true):zeU l 0=zeU l 1:=by
  unfold zeU;rw[ut ⟨h,rfl⟩,ur ya]
theorem zpG {l:List Tx} (k:Nat) (h:l.length<=k):zeU l k=[]:=by
  unfold zeU
  split
  . exact List.drop_of_length_le ya
  exact List.drop_of_length_le h
theorem ze4 (p:List Coin) (e:Int) (hp:p.length<=2000000000000):Tells P 246 [.val i64T e,.rptr (bsl zbq) p] (.tup2 (.fresh 293 zbq p) (.val i64T e)):=by
 refine zc Tryz.func246 rfl rfl rfl (fun ext w hext=>?_);refine ze (d:=0) rfl zz (fun hin0=>?_);refine qau ?_;refine qaj ?_;refine A0 (zh rfl rfl zms) ?_;refine zao (ziC p yV) rfl zte yd rfl rfl rfl ?_;refine qaz ?_;refine qcl ?_;exact zG rfl rfl (zf rfl rfl rfl) (zdf rfl)
theorem apply_ok (p:List Coin) (l:List Tx) (hp:p.length<=2000000000000):Tells P 192 [.val (bsl zbq) p,.val (bsl txT) l] (.tup2 (.fresh 293 zbq (zab p l).1) (.val i64T (zab p l).2)):=by
 refine zc Tryz.func192 rfl rfl rfl (fun ext w hext=>?_);refine ze (d:=0) rfl zk (fun hsl0=>?_);refine ze (d:=1) rfl zk (fun hsl1=>?_);refine qbN ?_;refine qaj ?_;refine qex ?_;refine A0 aC ?_;refine CNQ ?_;refine qgf ?_;refine A0 (oLs rfl rfl rfl zms) ?_;refine A0 (oCl (may_ok _) rfl fn_247 yd) ?_;refine A0 oN ?_;refine qad ?_;refine zl (p:=¬zaW p=true) rfl yw (fun ht17=>?_) (fun ht17=>?_)
 .
  refine qdx ?_;refine xf ?_;refine qd4 ?_;have hS:zab p l=(p,1):=by unfold zab;rw[ut ht17]
  exact zG rfl rfl (zf rfl rfl yR) (za rfl yR)
 have hmp:=ua ht17;have hpl:=zeZ hmp;refine qb1 ?_;refine qdH ?_;refine A0 zcq ?_;refine qad ?_;refine Cf (p:=4<l.length) (fun ht25=>?_) (fun ht25=>?_)
 .
  refine qdx ?_;refine xf ?_;refine qd4 ?_;have hS:zab p l=(p,3):=by unfold zab;rw[ur (Classical.not_not.2 hmp),ut ht25]
  exact zG rfl rfl (zf rfl rfl yR) (za rfl yR)
 refine qeS ?_;refine CQR ?_;refine A0 (oLs rfl rfl rfl zms) ?_;refine zao (ziC p yV) rfl zte yd rfl rfl rfl ?_;refine A0 aO ?_;refine qaR ?_;refine qdH ?_;refine A0 zcq ?_;refine qaz ?_;refine Sp (d:=38) (p:=0<l.length) (fun g38=>?_) (fun g38=>?_)
 .
  obtain⟨t0,ht0⟩:∃t0,l[0]?=some t0:=⟨_,ub g38⟩;refine qfY ?_;refine A1 (zx (i:=0) rfl rfl rfl ya zsk yj) ?_;refine A1 (oFr zdA zdE) ?_;refine A1 (zh rfl rfl zmr) ?_;refine A1 (by first|exact zaC rfl rfl zjq|exact zbS rfl rfl rfl zjq|exact zeb rfl rfl zjq) ?_;refine A1 zd7 ?_;refine A0 oK ?_;refine zj (d:=45) (y:=zea l) rfl ybF ?_;refine qag ?_;refine qdH ?_;refine qaF ?_;refine Lp (ι:=Nat×List Coin×Int) 2 (fun(k,out,room)=>((((((((Fr.none.set 1 (.val (bsl txT) l)).set 2 (.ptr 0 0)).set 6 (.clo 246 [0])).set 7 (.own 1)).set 8 (.val i64T room)).set 9 (.val zo (zea l))).set 46 (.val (bsl txT) l)).set 47 (.val i64T (l.length:Int))).set 48 (.val i64T (k:Int))) (fun(k,out,room)=>(Hp.none.set 0 (.box 61 (bsl zbq) p)).set 1 (.row 293 zbq out)) (fun(k,out,room)=>k<=l.length/\zaW out=true/\zfk p 50 (zeU l 0)=zfk out room (zeU l k)) (fun(k,out,room)=>l.length-k) ((0,p,50)) (⟨uf _,hmp,rfl⟩) ?_;intro⟨k,out,room⟩ hinv;dsimp only at hinv;have hol:=zeZ hinv.2.1;refine qap ?_;refine Cf (p:=k<l.length) (fun ht49=>?_) (fun ht49=>?_)
  .
   obtain⟨t,hx⟩:∃t,l[k]?=some t:=⟨_,ub ht49⟩;refine qbp ?_;refine qbz ?_;refine A0 aV ?_;refine qdb ?_;refine qbD ?_;refine A0 zd7 ?_;refine qaz ?_;refine Sp (d:=55) (p:=k=0) (fun g55=>?_) (fun g55=>?_)
   .
    refine qfY ?_;refine A0 oK ?_;refine zX (d:=57) (p:=zea l=true) rfl yw (fun g57=>?_) (fun g57=>?_)
    .
     refine CN ?_;refine Ct ?_;refine CE ?_;refine CR ?_;refine qam ?_;exact Nx ((k+1,out,room)) yS ybK
    refine CN ?_;refine Cg ?_;refine qee ?_;refine qcD ?_;refine ztL (zvs out t ya) rfl fn_248 ⟨(zL rfl rfl),yk,trivial⟩ zaE zaE rfl rfl rfl ?_;refine A0 yz ?_;refine qaa ?_;refine A0 e32 ?_;refine A0 aO ?_;refine qbA ?_;refine zl (p:=¬(zah out t).2.2=0) rfl yx (fun ht66=>?_) (fun ht66=>?_)
    .
     refine qdx ?_;refine A0 mX ?_;refine xg ?_;refine qd4 ?_;have hS:zab p l=(p,(zah out t).2.2):=ycm;exact zG rfl rfl (zf rfl rfl yR) (za rfl yR)
    refine qee ?_;refine A0 aO ?_;refine qf1 ?_;refine A0 mX ?_;refine qfX ?_;refine A0 aV ?_;refine qb8 ?_;refine zeE 1 ?_;refine qc8 ?_;exact Nx ((k+1,(zah out t).1,IntKind.i64.wrap (room+(zah out t).2.1))) yS ybK
   refine A2 ?_;refine qat ?_;refine Cg ?_;refine qee ?_;refine qcD ?_;refine ztL (zvs out t ya) rfl fn_248 ⟨(zL rfl rfl),yk,trivial⟩ zaE zaE rfl rfl rfl ?_;refine A0 yz ?_;refine qaa ?_;refine A0 e32 ?_;refine A0 aO ?_;refine qbA ?_;refine zl (p:=¬(zah out t).2.2=0) rfl yx (fun ht66=>?_) (fun ht66=>?_)
   .
    refine qdx ?_;refine A0 mX ?_;refine xg ?_;refine qd4 ?_;have hS:zab p l=(p,(zah out t).2.2):=ycm;exact zG rfl rfl (zf rfl rfl yR) (za rfl yR)
   refine qee ?_;refine A0 aO ?_;refine qf1 ?_;refine A0 mX ?_;refine qfX ?_;refine A0 aV ?_;refine qb8 ?_;refine zeE 1 ?_;refine qc8 ?_;exact Nx ((k+1,(zah out t).1,IntKind.i64.wrap (room+(zah out t).2.1))) yS ybK
  have hrun:zfk p 50 (zeU l 0) = .inr (out,room):=by rw[hinv.2.2,zpG k ya];rfl
  refine CE ?_;refine qbd ?_;refine qaT ?_;refine zl (p:=¬zea l=true) rfl yw (fun ht78=>?_) (fun ht78=>?_)
  .
   have hnf:=ht78;refine qdP ?_;refine qcl ?_;have hS:zab p l=(out,0):=ycn;exact zG rfl rfl (zf rfl rfl yR) (za rfl yR)
  have hf:=ua ht78;refine qcb ?_;refine qdI ?_;refine A0 (oCl (zrc _) rfl fn_168 yb1) ?_;refine qaT ?_;refine zl (p:=¬zaM t0=true) rfl yw (fun ht84=>?_) (fun ht84=>?_)
  .
   refine qdx ?_;refine xf ?_;refine qd4 ?_;have hS:zab p l=(p,1):=by unfold zab;rw[ur (Classical.not_not.2 hmp),ur (show ¬4<l.length by omega)];rw[hrun];simp only[ut hf,ht0];rw[ut ht84]
   exact zG rfl rfl (zf rfl rfl yR) (za rfl yR)
  have hmt:=ua ht84;refine qee ?_;refine qaz ?_;refine qdI ?_;refine ztM (made_ok out t0 ya (zeu hmt).2.2 (zoW (Sorted.apart (zbb.1 hinv.2.1).2.1))) rfl fn_249 rfl trivial zaE yb5 rfl rfl rfl ?_;refine A0 yz ?_;refine qaa ?_;refine A0 aO ?_;refine A0 aX ?_;refine CNQ ?_;refine qgf ?_;refine A0 mX ?_;refine A0 zd1 ?_;refine qad ?_;refine zl (p:=¬(zca out t0).2=0) rfl yx (fun ht97=>?_) (fun ht97=>?_)
  .
   refine qdx ?_;refine A0 mX ?_;refine xg ?_;refine qd4 ?_;have hS:zab p l=(p,(zca out t0).2):=by unfold zab;rw[ur (Classical.not_not.2 hmp),ur (show ¬4<l.length by omega)];rw[hrun];simp only[ut hf,ht0];rw[ur (Classical.not_not.2 hmt),ut ht97]
   exact zG rfl rfl (zf rfl rfl yR) (za rfl yR)
  refine qb1 ?_;refine qdI ?_;refine A0 (oCl (outs_ok _) rfl fn_250 yb1) ?_;refine qaz ?_;refine A0 zcq ?_;refine qad ?_;refine Cf (p:=room<zfJ (·.v) t0.outs) (fun ht105=>?_) (fun ht105=>?_)
  .
   refine qdx ?_;refine xf ?_;refine qd4 ?_;have hS:zab p l=(p,8):=by unfold zab;rw[ur (Classical.not_not.2 hmp),ur (show ¬4<l.length by omega)];rw[hrun];simp only[ut hf,ht0];rw[ur (Classical.not_not.2 hmt),ur ht97,ut ht105]
   exact zG rfl rfl (zf rfl rfl yR) (za rfl yR)
  refine qdP ?_;refine A0 (zbS rfl rfl rfl zjr) ?_;refine A0 zcq ?_;refine qad ?_;refine Cf (p:=48<(zca out t0).1.length) (fun ht116=>?_) (fun ht116=>?_)
  .
   refine qdx ?_;refine xf ?_;refine qd4 ?_;have hS:zab p l=(p,11):=by unfold zab;rw[ur (Classical.not_not.2 hmp),ur (show ¬4<l.length by omega)];rw[hrun];simp only[ut hf,ht0];rw[ur (Classical.not_not.2 hmt),ur ht97,ur ht105,ut ht116]
   exact zG rfl rfl (zf rfl rfl yR) (za rfl yR)
  refine qeS ?_;refine qdP ?_;refine qcl ?_;have hS:zab p l=((zca out t0).1,0):=by unfold zab;rw[ur (Classical.not_not.2 hmp),ur (show ¬4<l.length by omega)];rw[hrun];simp only[ut hf,ht0];rw[ur (Classical.not_not.2 hmt),ur ht97,ur ht105,ur ht116]
  exact zG rfl rfl (zf rfl rfl yR) (za rfl yR)
 refine qab ?_;refine qab ?_;refine A0 oK ?_;refine zj (d:=45) (y:=zea l) rfl ybF ?_;refine qag ?_;refine qdH ?_;refine qaF ?_;refine Lp (ι:=Nat×List Coin×Int) 2 (fun(k,out,room)=>((((((((Fr.none.set 1 (.val (bsl txT) l)).set 2 (.ptr 0 0)).set 6 (.clo 246 [0])).set 7 (.own 1)).set 8 (.val i64T room)).set 9 (.val zo (zea l))).set 46 (.val (bsl txT) l)).set 47 (.val i64T (l.length:Int))).set 48 (.val i64T (k:Int))) (fun(k,out,room)=>(Hp.none.set 0 (.box 61 (bsl zbq) p)).set 1 (.row 293 zbq out)) (fun(k,out,room)=>k<=l.length/\zaW out=true/\zfk p 50 (zeU l 0)=zfk out room (zeU l k)) (fun(k,out,room)=>l.length-k) ((0,p,50)) (⟨uf _,hmp,rfl⟩) ?_;intro⟨k,out,room⟩ hinv;dsimp only at hinv;have hol:=zeZ hinv.2.1;refine qap ?_;refine Cf (p:=k<l.length) (fun ht49=>?_) (fun ht49=>?_)
 .
  exfalso;omega
 have hrun:zfk p 50 (zeU l 0) = .inr (out,room):=by rw[hinv.2.2,zpG k ya];rfl
 refine CE ?_;refine qbd ?_;refine qaT ?_;refine zl (p:=¬zea l=true) rfl yw (fun ht78=>?_) (fun ht78=>?_)
 .
  have hnf:=ht78;refine qdP ?_;refine qcl ?_;have hS:zab p l=(out,0):=ycn;exact zG rfl rfl (zf rfl rfl yR) (za rfl yR)
 exact absurd (ua ht78) (by rw[zjQ g38];simp)
set_option maxRecDepth 20000
def tot {α:Type} (f:α->Int):List α->Int
  | []=>0
  | x::l=>f x+tot f l
theorem zpr {α:Type} {f:α->Int}:∀{l m:List α},tot f (l++m)=tot f l+tot f m
  | [],m=>by simp[tot]
  | x::l,m=>by rw[List.cons_append,tot,tot,zpr];omega
theorem tot_perm {α:Type} {f:α->Int} {l m:List α} (h:l.Perm m):tot f l=tot f m:=by
  induction h with
  | nil=>rfl
  | cons x _ ih=>rw[tot,tot,ih]
  | swap x y l=>simp only[tot];omega
  | trans _ _ h1 h2=>exact h1.trans h2
theorem tot_del {α:Type} {f:α->Int} {x:α}:∀{l:List α} {i:Nat},l[i]?=some x->tot f (l.take i++l.drop (i+1))+f x=tot f l
  | [],i,h=>by simp at h
  | y::l,0,h=>by simp at h;subst h;simp[tot];omega
  | y::l,i+1,h=>by
    have:=tot_del (f:=f) (l:=l) (i:=i) (by simpa using h)
    simp only[List.take_succ_cons,List.drop_succ_cons,List.cons_append,tot];omega
theorem znq {α:Type} {f:α->Int}:∀{l:List α},(∀x∈l,0<=f x)->0<=tot f l
  | [],_=>Int.le_refl _
  | x::l,h=>by
    have:=znq (f:=f) (l:=l) fun y hy=>h y (List.mem_cons_of_mem _ hy)
    have:=h x mem_cons_self
    rw[tot];omega
theorem tot_le {α:Type} {f:α->Int} {M:Int}:∀{l:List α},(∀x∈l,f x<=M)->tot f l<=M*l.length
  | [],_=>by simp[tot]
  | x::l,h=>by
    have:=tot_le (f:=f) (M:=M) (l:=l) fun y hy=>h y (List.mem_cons_of_mem _ hy)
    have:=h x mem_cons_self
    rw[tot,length_cons,Int.natCast_add,Int.mul_add];omega
theorem zwi {α:Type} {f:α->Int} {M:Int} (hM:0<=M):∀{l:List α} {n:Int},(∀x∈l,0<=f x/\f x<=M)->0<=n->n+M*l.length<=9223372036854775807->l.foldl (fun n x=>IntKind.i64.wrap (n+f x)) n=n+tot f l
  | [],n,_,_,_=>by simp[tot]
  | x::l,n,h,h0,h1=>by
    have hx:=h x mem_cons_self;rw[length_cons,Int.natCast_add,Int.mul_add] at h1;have h2:0<=M*l.length:=Int.mul_nonneg hM (Int.natCast_nonneg _);have e:IntKind.i64.wrap (n+f x)=n+f x:=z8 ya;rw[List.foldl_cons,e,zwi hM (fun y hy=>h y (List.mem_cons_of_mem _ hy)) ya ya,tot];omega
theorem worth_tot {α:Type} {f:α->Int} {l:List α} (h:∀x∈l,0<=f x/\f x<=2199023255552) (hl:l.length<=60):zfJ f l=tot f l:=by
  have:=zwi (f:=f) (M:=2199023255552) yl (n:=0) h (Int.le_refl _) ya
  unfold zfJ;rw[this];omega
theorem zk5 {p:List Coin} (h:∀c∈p,zgq c=true):∀c∈p,0<=c.out.v/\c.out.v<=1099511627776:=fun c hc=>by
  have:=of_decide_eq_true (h c hc)
  omega
theorem zoD {p:List Coin} (h:∀c∈p,zgq c=true) (hl:p.length<=48):0<=tot (·.out.v) p/\tot (·.out.v) p<=52776558133248:=by
  have h:=zk5 h;refine⟨znq fun x hx=>(h x hx).1,?_⟩
  have:=tot_le (f:=fun c:Coin=>c.out.v) (M:=1099511627776) (l:=p) fun x hx=>(h x hx).2
  omega
theorem outs_pos {t:Tx} (h:zaM t=true):∀o∈t.outs,0<=o.v/\o.v<=1099511627776:=fun o ho=>by
  have h1:=zr4 h o ho;unfold zl5 at h1
  have:=of_decide_eq_false h1
  omega
theorem zvO {t:Tx} (h:zaM t=true):zfJ (·.v) t.outs=tot (·.v) t.outs/\0<=tot (·.v) t.outs/\tot (·.v) t.outs<=3298534883328:=by
  have h1:=outs_pos h;have h3:=(zeu h).2.2;refine⟨worth_tot (fun x hx=>by have:=h1 x hx;omega) ya,znq fun x hx=>(h1 x hx).1,?_⟩
  have:=tot_le (f:=fun o:Out=>o.v) (M:=1099511627776) (l:=t.outs) fun x hx=>(h1 x hx).2
  omega
theorem zip_tot {id:Ab.Id}:∀{outs:List Out} {k:Nat},tot (·.out.v) ((outs.zipIdx k).map fun x=>(⟨⟨id,(x.2:Int)⟩,x.1⟩:Coin))=tot (·.v) outs
  | [],_=>rfl
  | o::outs,k=>by rw[List.zipIdx_cons,List.map_cons,tot,tot,zip_tot]
theorem newN_tot {id:Ab.Id} {outs:List Out}:tot (·.out.v) (newN id outs outs.length)=tot (·.v) outs:=by
  unfold newN;rw[List.take_length];exact zip_tot
theorem zpM {p:List Coin} {t:Tx} (h:(zca p t).2=0):tot (·.out.v) (zca p t).1=tot (·.out.v) p+tot (·.v) t.outs/\(zca p t).1.length=p.length+t.outs.length:=by
  unfold zca at h ⊢
  split
  . rename_i e;rw[ut e] at h;exact absurd h yl
  refine⟨?_,?_⟩
  . rw[tot_perm (ziO _),zpr,newN_tot]
  rw[(ziO _).length_eq,ue,zq9 (ug _)]
theorem znr:∀{ins:List In} {p rest:List Coin} {n m:Int},zde p n ins=some (rest,m)->(∀c∈p,zgq c=true)->p.length<=48->0<=n->n+tot (·.out.v) p<=52776558133248->m+tot (·.out.v) rest=n+tot (·.out.v) p/\n<=m/\rest.length+ins.length=p.length
  | [],p,rest,n,m,h,_,_,_,_=>by
    rw[zde.eq_1] at h;injection h with h;injection h with h1 h2;subst h1;subst h2;exact⟨rfl,Int.le_refl _,rfl⟩
  | x::ins,p,rest,n,m,h,ho,hl,h0,h1=>by
    rw[zde.eq_2] at h
    split at h
    . cases h
    rename_i c hc
    split at h
    . have hd:=tot_del (f:=fun c:Coin=>c.out.v) hc
      have hcm:=zk5 ho c (ud hc);have hlt:=(ul.1 hc).1;have hsub:(p.take (placeOf p x)++p.drop (placeOf p x+1)).Sublist p:=by
        rw[<-List.eraseIdx_eq_take_drop_succ];exact List.eraseIdx_sublist _ _
      have hp:=znq (f:=fun c:Coin=>c.out.v) (l:=p.take (placeOf p x)++p.drop (placeOf p x+1)) fun y hy=>(zk5 ho y (hsub.subset hy)).1
      have hll:(p.take (placeOf p x)++p.drop (placeOf p x+1)).length+1=p.length:=yB;have e:IntKind.i64.wrap (n+c.out.v)=n+c.out.v:=z8 ya;rw[e] at h
      have:=znr h (fun y hy=>ho y (hsub.subset hy)) ya ya ya
      rw[length_cons];omega
    cases h
theorem zt5 {p:List Coin} {t:Tx} (h:zaW p=true):0<=(zah p t).2.1/\tot (·.out.v) (zah p t).1+(zah p t).2.1=tot (·.out.v) p/\((zah p t).2.2≠0->(zah p t).1=p/\(zah p t).2.1=0):=by
  obtain⟨h1,h2,h3⟩:=zbb.1 h;have hT:=zoD h1 h3;unfold zah
  split
  . exact⟨Int.le_refl _,by simp,fun _=>⟨rfl,rfl⟩⟩
  rename_i hn;have hn:=ua hn
  split
  . exact⟨Int.le_refl _,by simp,fun _=>⟨rfl,rfl⟩⟩
  rename_i rest n hrest;have ht:=znr hrest h1 h3 (Int.le_refl _) ya;have ho:=zvO hn.2.1;have hsub:=zh5 hrest;have hr:=znq (f:=fun c:Coin=>c.out.v) (l:=rest) fun c hc=>(zk5 h1 c (hsub.subset hc)).1
  split
  . exact⟨Int.le_refl _,by simp,fun _=>⟨rfl,rfl⟩⟩
  rename_i hw;rw[ho.1] at hw ⊢;have e:IntKind.i64.wrap (n-tot (·.v) t.outs)=n-tot (·.v) t.outs:=z8 ya;rw[e] at hw ⊢
  split
  . rename_i hm
    have hmt:=(zpM hm).1
    split
    . exact⟨Int.le_refl _,by simp,fun _=>⟨rfl,rfl⟩⟩
    exact⟨by simp only[];omega,by simp only[];omega,fun h=>absurd rfl h⟩
  exact⟨Int.le_refl _,by simp,fun _=>⟨rfl,rfl⟩⟩
theorem zpB:∀{l:List Tx} {p out:List Coin} {r r':Int},zfk p r l = .inr (out,r')->zaW p=true->0<=r->tot (·.out.v) p+r<=52776558133398->zaW out=true/\r<=r'/\tot (·.out.v) out+r'=tot (·.out.v) p+r
  | [],p,out,r,r',h,hp,_,_=>by
    rw[zfk.eq_1] at h;injection h with h;injection h with h1 h2;subst h1;subst h2;exact⟨hp,Int.le_refl _,rfl⟩
  | t::l,p,out,r,r',h,hp,h0,h1=>by
    rw[zfk.eq_2] at h
    split at h
    . have hs:=zt5 (t:=t) hp
      have hm:=zhk (t:=t) hp;have hT:=zoD (zbb.1 hm).1 (zbb.1 hm).2.2;have e:IntKind.i64.wrap (r+(zah p t).2.1)=r+(zah p t).2.1:=z8 ya;rw[e] at h
      have:=zpB h hm ya ya
      exact⟨this.1,by omega,by omega⟩
    cases h
theorem zu3 {p:List Coin} {l:List Tx} (h:zaW p=true):zaW (zab p l).1=true/\tot (·.out.v) (zab p l).1<=tot (·.out.v) p+50/\((zab p l).2≠0->(zab p l).1=p):=by
  have hT:=zoD (zbb.1 h).1 (zbb.1 h).2.2;have same:∀e:Int,zaW p=true/\tot (·.out.v) p<=tot (·.out.v) p+50/\(e≠0->p=p):=fun _=>⟨h,by omega,fun _=>rfl⟩
  unfold zab;rw[ur (Classical.not_not.2 h)]
  split
  . exact same _
  split
  . exact same _
  rename_i out room hr;have hrt:=zpB hr h yl ya
  split
  . exact⟨hrt.1,by simp only[];omega,fun h=>absurd rfl h⟩
  rename_i t _
  split
  . exact same _
  rename_i hmt;have hmt:=ua hmt;have ho:=zvO hmt
  split
  . exact same _
  rename_i hm;have hm:=ua hm
  split
  . exact same _
  rename_i hw;rw[ho.1] at hw
  split
  . exact same _
  rename_i hl;have hg:=zn4 (p:=out) (zbb.1 hrt.1).1 (zbb.1 hrt.1).2.1 hmt;have hmt:=(zpM hm).1;exact⟨zbb.2 ⟨hg.1,hg.2,Nat.le_of_not_lt hl⟩,by simp only[];omega,fun h=>absurd rfl h⟩
theorem zw0 {α:Type} {f:α->Bool} {p:List α} {k:Nat} {c:α} (h:(p.take k).any f=false) (hp:p[k]?=some c) (hf:f c=false):(p.take (k+1)).any f=false:=by
  rw[un,hp,List.any_append,h];simp[hf]
theorem any_hit {α:Type} {f:α->Bool} {p:List α} {c:α} {k:Nat} (hp:p[k]?=some c) (hf:f c=true):p.any f=true:=List.any_eq_true.2 ⟨c,ud hp,hf⟩
theorem zbu {α:Type} {f:α->Bool} {p:List α} {c:α} {j k:Nat} (hp:p[j]?=some c) (hj:j<k) (hf:f c=true):(p.take k).any f=true:=any_hit (k:=j) (by rw[List.getElem?_take_of_lt hj];exact hp) hf
theorem zfQ {t:Tx} {o:Out} {k:Nat} (h:t.outs[k]?=some o) (hb:o.v<1\/1099511627776<o.v\/o.to<0\/255<o.to):zaM t=false:=by
  have:t.outs.any zl5=true:=any_hit h (ui hb)
  unfold zaM;rw[this];simp
theorem rmayTx_ok (t:Tx):Tells P 388 [.val txT t] (.val zo (zaM t)):=by
 refine zc Tryz.func388 rfl rfl rfl (fun ext w hext=>?_);refine ze (d:=0) rfl fact_txl (fun htl=>?_);refine qae ?_;refine qcz ?_;refine Lp (ι:=Nat) 1 (fun (k:Nat)=>((Fr.none).set 1 (.ptr 0 0)).set 3 (.val i64T (k:Int))) (fun (k:Nat)=>(Hp.none).set 0 (.box 101 txT t)) (fun (k:Nat)=>k<=t.ins.length/\(List.range k).all (inAt t)=true) (fun (k:Nat)=>t.ins.length-k) (0) (⟨uf _,rfl⟩) ?_;intro k hinv;refine qbd ?_;refine qba ?_;refine qa7 ?_;refine Cf (p:=k<t.ins.length) (fun ht11=>?_) (fun ht11=>?_)
 .
  obtain⟨x,hx⟩:∃x,t.ins[k]?=some x:=ybv;refine qaS ?_;refine CQQR ?_;refine qdQ ?_;refine qaz ?_;refine A0 (zx (i:=k) rfl rfl rfl ya znw yj) ?_;refine A0 (oFr zc9 zhW) ?_;refine qbs ?_;refine A0 zc4 ?_;refine Sp (d:=20) (p:=x.i<0) (fun g20=>?_) (fun g20=>?_)
  .
   refine qf6 ?_;refine qda ?_;refine qat ?_;refine Ct ?_;refine qar ?_;exact zb rfl rfl (za rfl yf)
  refine qaz ?_;refine A1 (oFp zdA) ?_;refine A1 (oLb zdE zmr) ?_;refine qfY ?_;refine A1 (zx (i:=k) rfl rfl rfl ya znw yj) ?_;refine A1 (oFr zc9 zhW) ?_;refine A1 (zh rfl rfl ty_3) ?_;refine A1 zgb ?_;refine Sp (d:=28) (p:=3<=x.i) (fun g28=>?_) (fun g28=>?_)
  .
   refine qat ?_;refine Ct ?_;refine qar ?_;exact zb rfl rfl (za rfl yf)
  have hout:=hinv.2;have hkl:=hinv.1;refine qat ?_;refine Cg ?_;refine CSQR ?_;refine qco ?_;refine Lp (ι:=Nat) 1 (fun (j:Nat)=>(((Fr.none).set 1 (.ptr 0 0)).set 3 (.val i64T (k:Int))).set 4 (.val i64T (j:Int))) (fun (j:Nat)=>(Hp.none).set 0 (.box 101 txT t)) (fun (j:Nat)=>j<=k/\((t.ins.take j).any fun c=>decide (x=c))=false) (fun (j:Nat)=>k-j) (0) (⟨uf _,rfl⟩) ?_;intro j hinv;refine qb6 ?_;refine qa7 ?_;refine Cf (p:=j<k) (fun ht32=>?_) (fun ht32=>?_)
  .
   obtain⟨y,hy⟩:∃y,t.ins[j]?=some y:=yr;refine qff ?_;refine G0 (oFp zdA) ?_;refine G0 (oLb zdE zmr) ?_;refine G0 mV ?_;refine G0 (zx (i:=j) rfl rfl rfl ya znw yj) ?_;refine G0 (zh rfl rfl zeS) ?_;refine G0 (oFp zdA) ?_;refine G0 (oLb zdE zmr) ?_;refine G0 mV ?_;refine G0 (zx (i:=k) rfl rfl rfl ya znw yj) ?_;refine G0 (zh rfl rfl zeS) ?_;refine G0 (zgZ rfl rfl rfl (zuH)) ?_;refine GK.nil ?_;refine Cf (p:=y=x) (fun ht45=>?_) (fun ht45=>?_)
   .
    refine qar ?_;exact zb rfl rfl (za rfl yf)
   refine qcG ?_;exact Nx (j+1) (⟨by omega,zw0 hinv.2 hy (by simpa using fun e=>ht45 e.symm)⟩) ya
  obtain rfl:k=j:=ya;refine CE ?_;refine CI ?_;refine CR ?_;refine qan ?_;exact Nx (k+1) (⟨by omega,zeP hout (zs0 hx ya (by rw[hinv.2];simp))⟩) ya
 have hall:(List.range t.ins.length).all (inAt t)=true:=by have h:=hinv.2;rw[show k=t.ins.length by omega] at h;exact h
 refine CE ?_;refine CQQR ?_;refine qco ?_;refine Lp (ι:=Nat) 1 (fun (k:Nat)=>((Fr.none).set 1 (.ptr 0 0)).set 5 (.val i64T (k:Int))) (fun (k:Nat)=>(Hp.none).set 0 (.box 101 txT t)) (fun (k:Nat)=>k<=t.outs.length/\(t.outs.take k).any zl5=false) (fun (k:Nat)=>t.outs.length-k) (0) (⟨uf _,rfl⟩) ?_;intro k hinv;refine qbd ?_;refine qbB ?_;refine qdz ?_;refine qa7 ?_;refine Cf (p:=k<t.outs.length) (fun ht50=>?_) (fun ht50=>?_)
 .
  obtain⟨o,ho⟩:∃o,t.outs[k]?=some o:=⟨_,ub ht50⟩;refine qeh ?_;refine qbB ?_;refine qaz ?_;refine A0 (zx (i:=k) rfl rfl rfl ya zua yj) ?_;refine qcW ?_;refine CNQR ?_;refine A0 (oFp zee) ?_;refine A0 (oLb zf9 ty_3) ?_;refine A0 zc4 ?_;refine Sp (d:=60) (p:=o.v<1) (fun g60=>?_) (fun g60=>?_)
  .
   refine qaz ?_;refine qcX ?_;refine qeA ?_;refine Ct ?_;refine qar ?_;exact zb rfl rfl (za rfl yf)
  refine qaz ?_;refine A1 (oFp zee) ?_;refine A1 (oLb zf9 ty_3) ?_;refine A1 zcq ?_;refine Sp (d:=64) (p:=1099511627776<o.v) (fun g64=>?_) (fun g64=>?_)
  .
   refine qaH ?_;refine qeA ?_;refine Ct ?_;refine qar ?_;exact zb rfl rfl (za rfl yf)
  refine qai ?_;refine qfd ?_;refine A1 zc4 ?_;refine Sp (d:=69) (p:=o.to<0) (fun g69=>?_) (fun g69=>?_)
  .
   refine qeA ?_;refine Ct ?_;refine qar ?_;exact zb rfl rfl (za rfl yf)
  refine qai ?_;refine qfd ?_;refine A1 zcq ?_;refine Sp (d:=74) (p:=255<o.to) (fun g74=>?_) (fun g74=>?_)
  .
   refine qat ?_;refine Ct ?_;refine qar ?_;exact zb rfl rfl (za rfl yf)
  refine qat ?_;refine Cg ?_;refine qcG ?_;exact Nx (k+1) (⟨by omega,zw0 hinv.2 ho (by unfold zl5;apply uh;omega)⟩) ya
 have hodd:t.outs.any zl5=false:=by have h:=hinv.2;rw[uc ya] at h;exact h
 refine qaU ?_;refine qba ?_;refine A0 zfR ?_;refine Sp (d:=79) (p:=t.ins.length<=3) (fun g79=>?_) (fun g79=>?_)
 .
  refine qaz ?_;refine qga ?_;refine A1 zgb ?_;refine Sp (d:=84) (p:=1<=t.outs.length) (fun g84=>?_) (fun g84=>?_)
  .
   refine qai ?_;refine qga ?_;refine A1 zfR ?_;refine Sp (d:=90) (p:=t.outs.length<=3) (fun g90=>?_) (fun g90=>?_)
   .
    refine qaE ?_;exact zb rfl rfl (za rfl yf)
   refine qaE ?_;exact zb rfl rfl (za rfl yf)
  refine qaH ?_;refine A2 ?_;refine qaE ?_;exact zb rfl rfl (za rfl yf)
 refine qf6 ?_;refine qay ?_;refine qaE ?_;exact zb rfl rfl (za rfl yf)
theorem low8 (x:UInt64):zaF (IntL.toI u64T (x%256))=zaF (IntL.toI u64T x):=by
  unfold zaF;show UInt8.ofNat (((x%256).toNat:Int)%256).toNat=UInt8.ofNat ((x.toNat:Int)%256).toNat
  rw[UInt64.toNat_mod];congr 1
  have:(256:UInt64).toNat=256:=rfl
  rw[this];omega
theorem low8w (x:UInt32):zaF (IntL.toI u32T (x%256))=zaF (IntL.toI u32T x):=by
  unfold zaF;show UInt8.ofNat (((x%256).toNat:Int)%256).toNat=UInt8.ofNat ((x.toNat:Int)%256).toNat
  rw[UInt32.toNat_mod];congr 1
  have:(256:UInt32).toNat=256:=rfl
  rw[this];omega
theorem zdi (x:UInt64) {m:Nat} (h:m<=64):(zax x m).toNat=x.toNat/2^m:=by
  have hx:x.toNat<18446744073709551616:=x.toNat_lt;unfold zax;rw[toNat_ofNat_of_lt' (lt_of_le_of_lt (div_le_self _ _) hx),min_eq_left h]
theorem zqH (x:UInt64):x=zax x (8*0):=by
  apply toNat_inj.1;rw[zdi x yl];simp
theorem zvt {x:UInt64} {k:Nat} (h:k<8):zax x (8*k)/256=zax x (8*(k+1)):=by
  apply toNat_inj.1;rw[toNat_div,zdi x ya,zdi x ya,Nat.mul_add,pow_add,<-Nat.div_div_eq_div_mul];rfl
def byN (k:Nat):UInt64:=zax 72057594037927936 (8*k)
theorem byN_nat:∀k:Nat,k<8->(byN k).toNat=2^(8*(7-k)):=yc
theorem byN_ne {k:Nat} (h:k<8):(byN k).toNat≠0:=by
  rw[byN_nat k h];exact Nat.ne_of_gt (Nat.two_pow_pos _)
theorem div_by {x:UInt64} {k:Nat} (h:k<8):zaF (IntL.toI u64T (x/byN k%256))=zaF (IntL.toI u64T (zax x (8*(8-1-k)))):=by
  rw[low8];congr 2;apply toNat_inj.1;rw[toNat_div,byN_nat k h,zdi x ya]
theorem mul8 (n:Int):zK (IntL.toI i64T (8*n))=8*zK (IntL.toI i64T n):=by
  apply toNat_inj.1;unfold zK;show(UInt64.ofNat ((8*n)%18446744073709551616).toNat).toNat=(8*UInt64.ofNat (n%18446744073709551616).toNat).toNat
  rw[UInt64.toNat_mul,toNat_ofNat_of_lt' yQ,toNat_ofNat_of_lt' yQ];show _=8*_%18446744073709551616;omega
theorem zq7 {x:UInt64} {k:Nat} (h:k<8):(zB x 8).take k++[zaF (IntL.toI u64T (x/byN k%256))]=(zB x 8).take (k+1):=by
  rw[un,div_by h];unfold zB;rw[List.getElem?_map,List.getElem?_range h];rfl
theorem flat_take {α:Type} {k:Nat} (ls:List (List α)):(ls.take k).flatten.length<=ls.flatten.length:=by
  conv=>rhs;rw[<-List.take_append_drop k ls,List.flatten_append,ue]
  omega
theorem flat_succ {α:Type} {k:Nat} {ls:List (List α)} {x:List α} (h:ls[k]?=some x):(ls.take (k+1)).flatten=(ls.take k).flatten++x:=by
  rw[un,h,List.flatten_append];simp
theorem zqI {v:UInt32} {m:Nat} {c:UInt32} (h:m<=32) (hc:c.toNat=2^m):v/c=zd0 v m:=by
  have hx:v.toNat<4294967296:=v.toNat_lt;apply UInt32.toNat_inj.1;unfold zd0;rw[UInt32.toNat_div,hc,UInt32.toNat_ofNat_of_lt' (lt_of_le_of_lt (div_le_self _ _) hx),min_eq_left h]
theorem shr32_zero (v:UInt32):v=zd0 v 0:=by
  have hx:v.toNat<4294967296:=v.toNat_lt;apply UInt32.toNat_inj.1;unfold zd0;rw[UInt32.toNat_ofNat_of_lt' (lt_of_le_of_lt (div_le_self _ _) hx)];simp
theorem zm1 {V:List UInt32} {k j:Nat} {v:UInt32} (hv:V[k]?=some v) (hj:j<4):zjE V (4*k+j)=zaF (IntL.toI u32T (zd0 v (24-8*j))):=by
  unfold zjE;rw[show(4*k+j)/4=k by omega,show(4*k+j)%4=j by omega,uq,hv];rfl
theorem out4 {V:List UInt32} {k:Nat} {v:UInt32} (hv:V[k]?=some v):((((zd3 V (4*k)).set (4*k) (zaF (IntL.toI u32T (v/16777216)))).set (4*k+1) (zaF (IntL.toI u32T (v/65536%256)))).set (4*k+2) (zaF (IntL.toI u32T (v/256%256)))).set (4*k+3) (zaF (IntL.toI u32T (v%256)))=zd3 V (4*(k+1)):=by
  rw[low8w,low8w,low8w,zqI (m:=24) yl rfl,zqI (m:=16) yl rfl,zqI (m:=8) yl rfl];have e0:=zm1 hv (j:=0) yl;have e1:=zm1 hv (j:=1) yl;have e2:=zm1 hv (j:=2) yl;have e3:=zm1 hv (j:=3) yl;have z:zaF (IntL.toI u32T v)=zaF (IntL.toI u32T (zd0 v 0)):=by rw[<-shr32_zero v]
  have s0:(zd3 V (4*k)).set (4*k) (zaF (IntL.toI u32T (zd0 v 24)))=zd3 V (4*k+1):=zfM e0.symm;have s1:(zd3 V (4*k+1)).set (4*k+1) (zaF (IntL.toI u32T (zd0 v 16)))=zd3 V (4*k+2):=zfM e1.symm;have s2:(zd3 V (4*k+2)).set (4*k+2) (zaF (IntL.toI u32T (zd0 v 8)))=zd3 V (4*k+3):=zfM e2.symm;have s3:(zd3 V (4*k+3)).set (4*k+3) (zaF (IntL.toI u32T (zd0 v 0)))=zd3 V (4*k+4):=zfM e3.symm;rw[z,s0,s1,s2,s3];rfl
theorem zjL (n:UInt64) (size:Nat) (hs:size<=8):Tells P 338 [.val u64T n,.val i64T (size:Int)] (.fresh 5 u8T (zB n size)):=by
 refine zc Tryz.func338 rfl rfl rfl (fun ext w hext=>?_);refine ze (d:=1) rfl zz (fun hin1=>?_);refine qdK ?_;refine A0 zc4 ?_;refine zlc (d:=8) rfl (uh (by show ¬((size:Int)<0);omega)) ?_;refine qaz ?_;refine qca ?_;refine zlc (d:=11) rfl (uh (by show ¬((8:Int)<(size:Int));omega)) ?_;refine qat ?_;refine Cg ?_;refine qbY ?_;refine zwR (T:=u8T) (n:=size) rfl rfl rfl rfl rfl rfl yi yi zat ze_5 ⟨by omega,by omega,(show(size)*1<=16777216 by omega)⟩ ?_;refine A0 aO ?_;refine qbD ?_;refine qfv ?_;refine qco ?_;refine zj (d:=6) (y:=(size:Int)-1-((0:Nat):Int)) rfl ya ?_;refine zj (d:=0) (y:=zax n (8*0)) rfl (zqH n) ?_;refine Lp (ι:=Nat×List UInt8) 1 (fun(k,l)=>((Fr.none.set 0 (.val u64T (zax n (8*k)))).set 5 (.own 0)).set 6 (.val i64T ((size:Int)-1-(k:Int)))) (fun(k,l)=>Hp.none.set 0 (.row 5 u8T l)) (fun(k,l)=>k<=size/\l.length=size/\∀j,size-k<=j->j<size->l[j]?=(zB n size)[j]?) (fun(k,l)=>size-k) ((0,List.replicate size 0)) (⟨uf _,by simp,fun j h1 h2=>by omega⟩) ?_;intro⟨k,l⟩ hinv;dsimp only at hinv;refine qfR ?_;refine Cf (p:=k<size) (fun ht18=>?_) (fun ht18=>?_)
 .
  obtain⟨x,hx⟩:∃x,l[size-1-k]?=some x:=yr;refine qeh ?_;refine A0 mO ?_;refine qal ?_;refine A0 (zrn rfl rfl rfl yl) ?_;refine qbS ?_;refine A0 (zau (i:=size-1-k) rfl rfl rfl rfl yi zb0 yh) ?_;refine qfe ?_;refine qf1 ?_;refine A0 (zok rfl rfl rfl yl) ?_;refine A0 aV ?_;refine CNIR ?_;refine qcn ?_;refine qad ?_;refine zj (d:=0) (y:=zax n (8*(k+1))) rfl (zvt ya) ?_;refine zj (d:=6) (y:=(size:Int)-1-((k+1:Nat):Int)) rfl ya ?_;refine zq (n:=0) (y:=l.set (size-1-k) (zaF (IntL.toI u64T (zax n (8*k))))) rfl (congrArg (fun z=>l.set (size-1-k) z) (low8 _)) ?_;exact Nx ((k+1,l.set (size-1-k) (zaF (IntL.toI u64T (zax n (8*k)))))) (⟨by omega,by simp;exact hinv.2.1,zkF ht18 hinv.2.1 hinv.2.2⟩) (by show _<size-k;simp only[];omega)
 refine qa8 ?_;exact zb rfl rfl (zf rfl rfl (zl7 hinv.2.1 (by rw[show k=size by omega] at hinv;exact hinv.2.2)))
theorem rpad_ok (b:List UInt8) (hb:b.length<=70368744177664):Tells P 309 [.val (bsl u8T) b] (.fresh 5 u8T (zcv b)):=by
 have hz:padZ b.length=(64-(b.length+9)%64)%64:=rfl;refine zc Tryz.func309 rfl rfl rfl (fun ext w hext=>?_);refine ze (d:=0) rfl zk (fun hsl0=>?_);refine qbQ ?_;refine qaz ?_;refine zdX rfl rfl rfl rfl rfl rfl zat y7 ?_;refine qby ?_;refine qa6 ?_;refine zp rfl rfl rfl rfl rfl rfl rfl zat y7 ?_;refine A0 aO ?_;refine CNQ ?_;refine CB ?_;refine zq (n:=1) (y:=b++128::List.replicate 0 0) rfl yw ?_;refine Lp (ι:=Nat) 2 (fun j=>(Fr.none.set 0 (.val (bsl u8T) b)).set 3 (.own 1)) (fun j=>Hp.none.set 1 (.row 5 u8T (b++128::List.replicate j 0))) (fun j=>j<=padZ b.length) (fun j=>padZ b.length-j) (0) (uf _) ?_;intro j hinv;refine CQQR ?_;refine A0 mO ?_;refine A0 (zbS rfl rfl rfl zfT) ?_;refine qbu ?_;refine qaG ?_;refine zl (p:=j<padZ b.length) rfl (by simp[IntL.toI];rw[<-decide_not,uo];omega) (fun ht15=>?_) (fun ht15=>?_)
 .
  refine CS ?_;refine CB ?_;refine qcU ?_;refine qa6 ?_;refine zp rfl rfl rfl rfl rfl rfl rfl zat y7 ?_;refine qbG ?_;refine CI ?_;refine qc7 ?_;refine zq (n:=1) (y:=b++128::List.replicate (j+1) 0) rfl (by rw[List.replicate_succ'];simp) ?_;exact Nx (j+1) ya ya
 obtain rfl:j=padZ b.length:=ya;refine qaU ?_;refine qaz ?_;refine qcr ?_;refine A0 zkD ?_;refine qd1 ?_;refine zj (d:=22) (y:=(8*zK (IntL.toI i64T (b.length:Int)))) rfl (mul8 _) ?_;refine qaj ?_;refine qcz ?_;refine zq (n:=1) (y:=(b++128::List.replicate (padZ b.length) 0)++(zB (8*zK (IntL.toI i64T (b.length:Int))) 8).take 0) rfl yw ?_;refine zj (d:=5) (y:=byN 0) rfl (zqH _) ?_;refine Lp (ι:=Nat) 2 (fun k=>(((Fr.none.set 3 (.own 1)).set 4 (.val u64T (8*zK (IntL.toI i64T (b.length:Int))))).set 5 (.val u64T (byN k))).set 6 (.val i64T (k:Int))) (fun k=>Hp.none.set 1 (.row 5 u8T ((b++128::List.replicate (padZ b.length) 0)++(zB (8*zK (IntL.toI i64T (b.length:Int))) 8).take k))) (fun k=>k<=8) (fun k=>8-k) (0) (uf _) ?_;intro k hinv;refine qes ?_;refine Cf (p:=k<8) (fun ht24=>?_) (fun ht24=>?_)
 .
  refine qeh ?_;refine A0 mO ?_;refine qal ?_;refine A0 (zok rfl rfl rfl (by first|decide|exact byN_ne ht24)) ?_;refine A0 (zrn rfl rfl rfl (by first|decide|exact byN_ne ht24)) ?_;refine qbS ?_;refine qa6 ?_;refine zp rfl rfl rfl rfl rfl rfl rfl zat y7 ?_;refine A0 aO ?_;refine qf1 ?_;refine A0 (zok rfl rfl rfl (by first|decide|exact byN_ne ht24)) ?_;refine qdB ?_;refine qc7 ?_;refine zq (n:=1) (y:=(b++128::List.replicate (padZ b.length) 0)++(zB (8*zK (IntL.toI i64T (b.length:Int))) 8).take (k+1)) rfl (by rw[List.append_assoc];exact congrArg _ (zq7 ht24)) ?_;refine zj (d:=5) (y:=byN (k+1)) rfl (zvt ht24) ?_;exact Nx (k+1) ya ya
 obtain rfl:k=8:=ya;refine qa8 ?_;exact zb rfl rfl (zf rfl rfl (by rw[uc (by rw[zF];exact ug _)];rfl))
theorem zmP (b:List UInt8) (hb:b.length<=70368744177664):Tells P 262 [.val (bsl u8T) b] (.val idT (zfj b)):=by
 obtain⟨m,hm⟩:∃m,m=(b.length+padZ b.length+9)/64:=⟨_,rfl⟩;have hz2:padZ b.length<64:=by unfold padZ;omega
 have hpl:(zcv b).length=64*m:=by rw[zsL,hm]
 have hmb:m<=2000000000000:=ya;refine zc Tryz.func262 rfl rfl rfl (fun ext w hext=>?_);refine ze (d:=0) rfl zk (fun hsl0=>?_);refine qbH ?_;refine qaz ?_;refine A0 (oCl (zu (rpad_ok b hb)) rfl fn_309 yd) ?_;refine qaj ?_;refine A0 (oCl (rfirst_ok) rfl fn_310 trivial) ?_;refine qcz ?_;refine Lp (ι:=Nat) 1 (fun (k:Nat)=>((((Fr.none).set 2 (.ptr 0 0)).set 3 (.val (sl u8T) (zcv b))).set 4 (.val (sl u32T) (shaN (zcv b) k))).set 5 (.val i64T ((64*k:Nat):Int))) (fun (k:Nat)=>(Hp.none).set 0 (.box 49 idT zId)) (fun (k:Nat)=>k<=m) (fun (k:Nat)=>m-k) (0) (uf _) ?_;intro k hinv;refine qb6 ?_;refine qcr ?_;refine qa7 ?_;refine Cf (p:=64*k<(zcv b).length) (fun ht14=>?_) (fun ht14=>?_)
 .
  refine qaS ?_;refine qfJ ?_;refine qal ?_;refine qfX ?_;refine qeT ?_;refine zj (d:=22) (y:=((zcv b).take (64*k+64)).drop (64*k)) rfl (by congr 1) ?_;refine A0 (oCl (zu (rwords_ok (((zcv b).take (64*k+64)).drop (64*k)) (by rw[List.length_drop,um];omega))) rfl fn_312 yd) ?_;refine A0 (oCl (zu (rrounds_ok (shaN (zcv b) k) (za5 (((zcv b).take (64*k+64)).drop (64*k)) 64) (zmN _ k) (zb4 64))) rfl fn_311 ye) ?_;refine qdB ?_;refine zj (d:=4) (y:=shaN (zcv b) (k+1)) rfl znz ?_;refine zj (d:=5) (y:=((64*(k+1):Nat):Int)) rfl ya ?_;exact Nx (k+1) ya ya
 obtain rfl:m=k:=ya;refine qaU ?_;refine qaC ?_;refine qa4 ?_;refine Lp (ι:=Nat) 2 (fun (k:Nat)=>((((Fr.none).set 2 (.ptr 0 0)).set 4 (.val (sl u32T) (shaN (zcv b) m))).set 6 (.ptr 1 0)).set 7 (.val i64T (k:Int))) (fun (k:Nat)=>((Hp.none).set 0 (.box 49 idT zId)).set 1 (.box 49 idT (zd3 (shaN (zcv b) m) (4*k)))) (fun (k:Nat)=>k<=8) (fun (k:Nat)=>8-k) (0) (uf _) ?_;intro k hinv;refine qes ?_;refine Cf (p:=k<8) (fun ht26=>?_) (fun ht26=>?_)
 .
  obtain⟨v,hv⟩:∃x,(shaN (zcv b) m)[k]?=some x:=⟨_,ub (by rw[zmN];exact ht26)⟩;refine qbp ?_;refine A0 zkD ?_;refine qal ?_;refine A0 (zx (i:=k) rfl rfl rfl ya zba yj) ?_;refine qfc ?_;refine A0 (zmE rfl (ui_5) (zqA) rfl) ?_;refine A0 (zy (i:=4*k) rfl rfl rfl yi zhL ya) ?_;refine zg rfl rfl rfl rfl rfl (Lens.elem (i:=4*k) ya u8T) ty_5 rfl ?_;refine qd5 ?_;refine A0 zkD ?_;refine qfX ?_;refine qal ?_;refine A0 (zx (i:=k) rfl rfl rfl ya zba yj) ?_;refine qfc ?_;refine qeB ?_;refine A0 (zy (i:=4*k+1) rfl rfl rfl yi zhL ya) ?_;refine zg rfl rfl rfl rfl rfl (Lens.elem (i:=4*k+1) ya u8T) ty_5 rfl ?_;refine qd5 ?_;refine A0 zkD ?_;refine qfX ?_;refine qal ?_;refine A0 (zx (i:=k) rfl rfl rfl ya zba yj) ?_;refine qfc ?_;refine qeB ?_;refine A0 (zy (i:=4*k+2) rfl rfl rfl yi zhL ya) ?_;refine zg rfl rfl rfl rfl rfl (Lens.elem (i:=4*k+2) ya u8T) ty_5 rfl ?_;refine qf1 ?_;refine A0 zkD ?_;refine qfX ?_;refine qal ?_;refine A0 (zx (i:=k) rfl rfl rfl ya zba yj) ?_;refine A0 (zh rfl rfl zbC) ?_;refine qeB ?_;refine A0 (zy (i:=4*k+3) rfl rfl rfl yi zhL ya) ?_;refine zg rfl rfl rfl rfl rfl (Lens.elem (i:=4*k+3) ya u8T) ty_5 rfl ?_;refine qbi ?_;refine zt (n:=1) (y:=zd3 (shaN (zcv b) m) (4*(k+1))) rfl (out4 hv) ?_;exact Nx (k+1) ya ya
 obtain rfl:k=8:=ya;refine qfT ?_;exact zE rfl rfl rfl rfl zY ybO
theorem zvE (ls:List (List UInt8)) (hl:ls.flatten.length<=70368744177664):Tells P 349 [.val (bsl (bsl u8T)) ls] (.val idT (zfj ls.flatten)):=by
 refine zc Tryz.func349 rfl rfl rfl (fun ext w hext=>?_);refine ze (d:=0) rfl zk (fun hsl0=>?_);refine qbH ?_;refine A0 aL ?_;refine qa4 ?_;refine za7 (T:=u8T) (d:=3) 5 rfl ?_;refine Lp (ι:=Nat) 2 (fun (k:Nat)=>((((Fr.none).set 0 (.val (bsl (bsl u8T)) ls)).set 2 (.ptr 0 0)).set 3 (.own 1)).set 4 (.val i64T (k:Int))) (fun (k:Nat)=>((Hp.none).set 0 (.box 49 idT zId)).set 1 (.row 5 u8T (ls.take k).flatten)) (fun (k:Nat)=>k<=ls.length) (fun (k:Nat)=>ls.length-k) (0) (uf _) ?_;intro k hinv;refine qb6 ?_;refine qc6 ?_;refine qa7 ?_;refine Cf (p:=k<ls.length) (fun ht8=>?_) (fun ht8=>?_)
 .
  obtain⟨x,hx⟩:∃x,ls[k]?=some x:=⟨_,ub ht8⟩;have hfl:=flat_take (k:=k+1) ls;have hfs:=flat_succ hx;rw[hfs,ue] at hfl;refine qaS ?_;refine qcU ?_;refine qal ?_;refine A0 (zx (i:=k) rfl rfl rfl ya zcK yj) ?_;refine qcC ?_;refine zp rfl rfl rfl rfl rfl rfl rfl zat ya ?_;refine qeU ?_;refine qc7 ?_;refine zq (n:=1) (y:=(ls.take (k+1)).flatten) rfl hfs.symm ?_;exact Nx (k+1) ya ya
 refine zq (n:=1) (y:=ls.flatten) rfl yO ?_;refine qeY ?_;refine A0 (oCl (zmP ls.flatten hl) rfl zwo ⟨(zL rfl rfl),trivial⟩) ?_;refine qbP ?_;exact zE rfl rfl rfl rfl zY (rfl)
theorem rput_ok (t:Tx):Tells P 384 [.val txT t] (.tup2 (.fresh 5 u8T (if zaM t=true then zum t else [])) (.val zo (zaM t))):=by
 refine zc Tryz.func384 rfl rfl rfl (fun ext w hext=>?_);refine ze (d:=0) rfl zuF (fun h32=>?_);refine qbN ?_;refine qaj ?_;refine qcD ?_;refine A0 (oCl (rmayTx_ok _) rfl fn_388 yd) ?_;refine qfg ?_;refine zl (p:=¬zaM t=true) rfl yw (fun ht11=>?_) (fun ht11=>?_)
 .
  refine qbE ?_;exact zG rfl rfl (by rw[ur ht11];exact zs rfl) (za rfl (by simpa using ht11))
 have hmay:=ua ht11;obtain⟨hmi,hm0,hmo⟩:=zeu hmay;refine CSQR ?_;refine qba ?_;refine qcF ?_;refine qa4 ?_;refine Lp (ι:=Nat) 2 (fun (k:Nat)=>(((Fr.none).set 1 (.ptr 0 0)).set 5 (.own 1)).set 6 (.val i64T (k:Int))) (fun (k:Nat)=>((Hp.none).set 0 (.box 101 txT t)).set 1 (.row 5 u8T (zih t k))) (fun (k:Nat)=>k<=t.ins.length/\(zih t k).length=33*k+1) (fun (k:Nat)=>t.ins.length-k) (0) (⟨uf _,by simp[zih]⟩) ?_;intro k hinv;obtain⟨hk,hpl⟩:=hinv;have hinv:=And.intro hk hpl;refine qbd ?_;refine qba ?_;refine qa7 ?_;refine Cf (p:=k<t.ins.length) (fun ht21=>?_) (fun ht21=>?_)
 .
  obtain⟨x,hx⟩:∃x,t.ins[k]?=some x:=⟨_,ub ht21⟩;have hx32:=h32 x (ud hx);refine qeh ?_;refine A0 mO ?_;refine qdQ ?_;refine qaz ?_;refine A0 (zx (i:=k) rfl rfl rfl ya znw yj) ?_;refine A0 (oFr zhA zj5) ?_;refine qbJ ?_;refine zp rfl rfl rfl rfl rfl rfl rfl zat (by show(_+x.tx.length)*1<=_/\_+x.tx.length<=_;omega) ?_;refine A0 aO ?_;refine qdA ?_;refine qdQ ?_;refine qaz ?_;refine A0 (zx (i:=k) rfl rfl rfl ya znw yj) ?_;refine A0 (oFr zc9 zhW) ?_;refine qbs ?_;refine qeO ?_;refine qa6 ?_;refine zp rfl rfl rfl rfl rfl rfl rfl zat (by simp only[ue,length_cons,length_nil,hx32];omega) ?_;refine qeU ?_;refine qc8 ?_;refine zq (n:=1) rfl (zho hx).symm ?_;exact Nx (k+1) (⟨by omega,by rw[zho hx];simp only[ue,length_cons,length_nil,hx32];omega⟩) ya
 obtain rfl:k=t.ins.length:=ya;obtain⟨hli,_⟩:=hinv;refine qeY ?_;refine qbB ?_;refine qdz ?_;refine qeO ?_;refine qa6 ?_;refine zp rfl rfl rfl rfl rfl rfl rfl zat (by simp only[ue,length_cons,length_nil];omega) ?_;refine A0 aO ?_;refine qa4 ?_;refine qc7 ?_;refine zq (y:=zdI t 0) (n:=1) rfl (by simp[zdI]) ?_;refine Lp (ι:=Nat) 2 (fun k=>((Fr.none.set 1 (.ptr 0 0)).set 5 (.own 1)).set 7 (.val i64T (k:Int))) (fun k=>(Hp.none.set 0 (.box 101 txT t)).set 1 (.row 5 u8T (zdI t k))) (fun k=>k<=t.outs.length/\(zdI t k).length=7*k+2+33*t.ins.length) (fun k=>t.outs.length-k) (0) (⟨uf _,by simp[zdI,hpl];omega⟩) ?_;intro k hinv;refine qbd ?_;refine qbB ?_;refine qdz ?_;refine qa7 ?_;refine Cf (p:=k<t.outs.length) (fun ht53=>?_) (fun ht53=>?_)
 .
  obtain⟨x,hx⟩:∃x,t.outs[k]?=some x:=⟨_,ub ht53⟩;refine qeh ?_;refine A0 mO ?_;refine qbB ?_;refine qaz ?_;refine A0 (zx (i:=k) rfl rfl rfl ya zua yj) ?_;refine A0 (oFr zee zf9) ?_;refine qbs ?_;refine qd1 ?_;refine A0 (oCl (zu (zjL _ 6 yl)) rfl zor ye) ?_;refine zp rfl rfl rfl rfl rfl rfl rfl zat yav ?_;refine A0 aO ?_;refine qdA ?_;refine qbB ?_;refine qaz ?_;refine A0 (zx (i:=k) rfl rfl rfl ya zua yj) ?_;refine A0 (oFr zhz zje) ?_;refine qbs ?_;refine qeO ?_;refine qa6 ?_;refine zp rfl rfl rfl rfl rfl rfl rfl zat yav ?_;refine qeU ?_;refine qc8 ?_;refine zq (n:=1) rfl (zgf hx).symm ?_;exact Nx (k+1) (⟨by omega,by rw[zgf hx];simp only[ue,length_cons,length_nil,zF];omega⟩) ya
 refine qeY ?_;refine qcl ?_;exact zG rfl rfl (zf rfl rfl (by rw[ut hmay,show k=t.outs.length by omega];rfl)) (za rfl hmay.symm)
theorem rid_ok (t:Tx):Tells P 374 [.val txT t] (.val idT (idOf t)):=by
 refine zc Tryz.func374 rfl rfl rfl (fun ext w hext=>?_);refine ze (d:=0) rfl zuF (fun h32=>?_);refine qeP ?_;refine qcD ?_;refine A0 (oCl (zbi (rput_ok t)) rfl fn_384 yd) ?_;refine qbF ?_;refine qaT ?_;refine zl (p:=¬zaM t=true) rfl yw (fun ht11=>?_) (fun ht11=>?_)
 .
  refine qeo ?_;exact zE rfl rfl rfl rfl zY (by unfold idOf;rw[ur ht11])
 refine zj (d:=3) rfl (ut (ua ht11)) ?_;refine CSQR ?_;refine qa6 ?_;refine qaz ?_;refine A0 (zW (T:=(sl u8T)) (xs:=[_,_]) rfl zcK zcQ yao rfl rfl) ?_;refine A0 (oCl (zvE [[6],zum t] (by have:=zsC (ua ht11) h32;simp;omega)) rfl zwm yd) ?_;refine qbP ?_;exact zE rfl rfl rfl rfl zY (by unfold idOf;rw[ut (ua ht11)];simp)
def setN {α:Type} (f:Nat->α) (z:List α) (k:Nat):List α:=(List.range k).foldl (fun l i=>l.set i (f i)) z
theorem zfN {α:Type} {f:Nat->α} {z:List α} {k:Nat}:(setN f z k).set k (f k)=setN f z (k+1):=(zcz (f:=fun (l:List α) i=>l.set i (f i))).symm
theorem zkl {α:Type} {f:Nat->α} {z:List α} {k:Nat} (h:z.length=k):setN f z k=(List.range k).map f:=by
  apply List.ext_getElem?;intro j;unfold setN;rw[zir,List.getElem?_map];by_cases c:j<k
  . rw[ut ⟨c,by omega⟩,List.getElem?_range c];rfl
  rw[ur ya,List.getElem?_eq_none ya,List.getElem?_eq_none yB];rfl
theorem zhE {a:Ab.Id} {ρ:Nat->Value} {B:Nat->Prop} {U N:Nat->Prop} {w:World} {v:Value} (h:(AV.val idT a).rel ρ B U N w v):a.length=32:=by
  obtain⟨cs,h,_⟩:=h;exact h.1
theorem zaI {a:Wide} {ρ:Nat->Value} {B:Nat->Prop} {U N:Nat->Prop} {w:World} {v:Value} (h:(AV.val zV a).rel ρ B U N w v):a.length=4:=by
  obtain⟨cs,h,_⟩:=h;exact h.1
def cmpU (x y:UInt64):Int:=if x<y then -1 else if y<x then 1 else 0
def atW (a:Wide) (i:Int):UInt64:=if i<0\/4<=i then 0 else a.getD i.toNat default
def upF (a:Wide) (n:Int) (i:Nat):UInt64:=zgv (atW a ((i:Int)-n/64)) (n%64).toNat|||zax (zax (atW a ((i:Int)-n/64-1)) 1) (63-n%64).toNat
def upW (a:Wide) (n:Int):Wide:=if n<0 then a else if 256<=n then zaG else (List.range 4).map (upF a n)
def zpj (a:Wide) (n:Int) (i:Nat):UInt64:=zax (atW a ((i:Int)+n/64)) (n%64).toNat|||zgv (zgv (atW a ((i:Int)+n/64+1)) 1) (63-n%64).toNat
def zdh (a:Wide) (n:Int):Wide:=if n<0 then a else if 256<=n then zaG else (List.range 4).map (zpj a n)
def zrG (a:Wide) (i:Nat):UInt8:=zaF (IntL.toI u64T (zax (a.getD (3-i/8) default) (56-8*((i:Int)%8)).toNat))
def zeq (a:Wide):Ab.Id:=(List.range 32).map (zrG a)
def of32S (b:Ab.Id) (w:Wide) (i:Nat):Wide:=w.set (3-i/8) (zgv (w.getD (3-i/8) default) 8|||zK (IntL.toI u8T (b.getD i default)))
def zq6 (b:Ab.Id) (k:Nat):Wide:=(List.range k).foldl (of32S b) zaG
def zfa (b:Ab.Id):Wide:=zq6 b 32
def cmpW (a b:Wide):Int:=orL [cmpU (a.getD 3 default) (b.getD 3 default),cmpU (a.getD 2 default) (b.getD 2 default),cmpU (a.getD 1 default) (b.getD 1 default),cmpU (a.getD 0 default) (b.getD 0 default)]
theorem zsX (x:UInt64):Tells P 326 [.val u64T x] (.val zo false):=by
 refine zc Tryz.func326 rfl rfl rfl (fun ext w hext=>?_);refine CQR ?_;refine qbL ?_;refine A0 zd1 ?_;refine qad ?_;exact zb rfl rfl (zdf (by simp[Fr.set]))
theorem cmpU_ok (x y:UInt64):Tells P 279 [.val u64T x,.val u64T y] (.val i64T (cmpU x y)):=by
 refine zc Tryz.func279 rfl rfl rfl (fun ext w hext=>?_);refine qe8 ?_;refine A0 (oCl (zsX _) rfl fn_326 yd) ?_;refine qaR ?_;refine A0 (oCl (zsX _) rfl fn_326 yd) ?_;refine qag ?_;refine CN ?_;refine Cg ?_;refine qcb ?_;refine CN ?_;refine Cg ?_;refine CSQQR ?_;refine qal ?_;refine qa7 ?_;refine zl (p:=x<y) rfl ya0 (fun ht16=>?_) (fun ht16=>?_)
 .
  refine qar ?_;exact zb rfl rfl (za rfl y8)
 refine CSQQR ?_;refine qal ?_;refine qc2 ?_;refine zl (p:=y<x) rfl ya0 (fun ht19=>?_) (fun ht19=>?_)
 .
  refine qar ?_;exact zb rfl rfl (za rfl y8)
 refine qeE ?_;exact zb rfl rfl (za rfl y8)
theorem atW_ok (a:Wide) (i:Int):Tells P 235 [.val zV a,.val i64T i] (.val u64T (atW a i)):=by
 refine zc Tryz.func235 rfl rfl rfl (fun ext w hext=>?_);refine ze (d:=1) rfl zz (fun hin1=>?_);refine ze (d:=0) rfl zaI (fun ha=>?_);refine qae ?_;refine qag ?_;refine A0 zc4 ?_;refine Sp (d:=6) (p:=i<0) (fun g6=>?_) (fun g6=>?_)
 .
  refine qaz ?_;refine qdg ?_;refine Ct ?_;refine qar ?_;exact zb rfl rfl (za rfl (by unfold atW;rw[ut (.inl g6)];rfl))
 refine qaz ?_;refine qfY ?_;refine A1 zgb ?_;refine Sp (d:=9) (p:=4<=i) (fun g9=>?_) (fun g9=>?_)
 .
  refine qat ?_;refine Ct ?_;refine qar ?_;exact zb rfl rfl (za rfl (by unfold atW;rw[ut (.inr g9)];rfl))
 refine qat ?_;refine Cg ?_;refine qbY ?_;refine A0 (zy (i:=i.toNat) rfl rfl rfl yi zbm ya) ?_;refine A0 (zr rfl rfl rfl (Lens.elem (i:=i.toNat) ya u64T) za2) ?_;refine qad ?_;exact zb rfl rfl (za rfl (by unfold atW;rw[ur ya]))
theorem upW_ok (a:Wide) (n:Int):Tells P 176 [.val zV a,.val i64T n] (.val zV (upW a n)):=by
 refine zc Tryz.func176 rfl rfl rfl (fun ext w hext=>?_);refine ze (d:=1) rfl zz (fun hin1=>?_);refine ze (d:=0) rfl zaI (fun ha=>?_);refine qae ?_;refine qa1 ?_;refine qbD ?_;refine qa7 ?_;refine Cf (p:=n<0) (fun ht10=>?_) (fun ht10=>?_)
 .
  refine CQR ?_;refine qcu ?_;exact zE rfl rfl rfl rfl zag (by unfold upW;rw[ut ht10])
 refine qcb ?_;refine qb5 ?_;refine Cf (p:=256<=n) (fun ht13=>?_) (fun ht13=>?_)
 .
  refine qaO ?_;refine CN ?_;exact zE rfl rfl rfl rfl zag (by unfold upW;rw[ur ht10,ut ht13])
 refine CSQR ?_;refine qa1 ?_;refine qd5 ?_;refine qb9 ?_;refine qaz ?_;refine qbu ?_;refine A0 aV ?_;refine qag ?_;refine CNB ?_;refine Lp (ι:=Nat) 3 (fun (k:Nat)=>((((((Fr.none).set 2 (.ptr 0 0)).set 4 (.ptr 1 0)).set 5 (.ptr 2 0)).set 6 (.val i64T (n/64))).set 7 (.val i64T (n%64))).set 19 (.val i64T (k:Int))) (fun (k:Nat)=>(((Hp.none).set 0 (.box 52 zV a)).set 1 (.box 52 zV zaG)).set 2 (.box 52 zV (setN (upF a n) zaG k))) (fun (k:Nat)=>k<=4) (fun (k:Nat)=>4-k) (0) (uf _) ?_;intro k hinv;refine qap ?_;refine Cf (p:=k<4) (fun ht20=>?_) (fun ht20=>?_)
 .
  refine qbp ?_;refine qad ?_;refine zA [some 1,some 1,some 1,some 1,some 1,some 1,some 1,some 1,some 1,some 1,some 1,some 1,some 1,some 1,some 1,some 1,some 1,some 1,some 1,some 1,none] mixed yc ?_;refine X0 mV ?_;refine qcO ?_;refine qbC ?_;refine X0 zc3 ?_;refine qdF ?_;refine X0 mV ?_;refine X0 (zlL rfl rfl rfl yp rfl) ?_;refine qcO ?_;refine qbC ?_;refine X0 zc3 ?_;refine X0 zc3 ?_;refine qdF ?_;refine X0 (zcm rfl rfl rfl yp rfl) ?_;refine X0 mV ?_;refine X0 zc3 ?_;refine X0 (zcm rfl rfl rfl yp rfl) ?_;refine X0 (zs6 rfl rfl rfl) ?_;refine xh ?_;refine XK.e (x:=.idk) (fun fr' hfr kk H=>by exact zg rfl rfl rfl ((hfr 41 yc).trans rfl) rfl (Lens.elem (i:=k) ya u64T) za2 ((hfr 40 yc).trans rfl) (zD H)) ?_;refine qdL ?_;refine zt (n:=2) (y:=setN (upF a n) zaG (k+1)) rfl zfN ?_;exact Nx (k+1) ya ya
 obtain rfl:k=4:=ya;refine qaU ?_;refine qcu ?_;exact zE rfl rfl rfl rfl zag (by unfold upW;rw[ur ht10,ur ht13];exact zkl rfl)
theorem downW_ok (a:Wide) (n:Int):Tells P 243 [.val zV a,.val i64T n] (.val zV (zdh a n)):=by
 refine zc Tryz.func243 rfl rfl rfl (fun ext w hext=>?_);refine ze (d:=1) rfl zz (fun hin1=>?_);refine ze (d:=0) rfl zaI (fun ha=>?_);refine qae ?_;refine qa1 ?_;refine qbD ?_;refine qa7 ?_;refine Cf (p:=n<0) (fun ht10=>?_) (fun ht10=>?_)
 .
  refine CQR ?_;refine qcu ?_;exact zE rfl rfl rfl rfl zag (by unfold zdh;rw[ut ht10])
 refine qcb ?_;refine qb5 ?_;refine Cf (p:=256<=n) (fun ht13=>?_) (fun ht13=>?_)
 .
  refine qaO ?_;refine CN ?_;exact zE rfl rfl rfl rfl zag (by unfold zdh;rw[ur ht10,ut ht13])
 refine CSQR ?_;refine qa1 ?_;refine qd5 ?_;refine qb9 ?_;refine qaz ?_;refine qbu ?_;refine A0 aV ?_;refine qag ?_;refine CNB ?_;refine Lp (ι:=Nat) 3 (fun (k:Nat)=>((((((Fr.none).set 2 (.ptr 0 0)).set 4 (.ptr 1 0)).set 5 (.ptr 2 0)).set 6 (.val i64T (n/64))).set 7 (.val i64T (n%64))).set 19 (.val i64T (k:Int))) (fun (k:Nat)=>(((Hp.none).set 0 (.box 52 zV a)).set 1 (.box 52 zV zaG)).set 2 (.box 52 zV (setN (zpj a n) zaG k))) (fun (k:Nat)=>k<=4) (fun (k:Nat)=>4-k) (0) (uf _) ?_;intro k hinv;refine qap ?_;refine Cf (p:=k<4) (fun ht20=>?_) (fun ht20=>?_)
 .
  refine qbp ?_;refine qad ?_;refine zA [some 1,some 1,some 1,some 1,some 1,some 1,some 1,some 1,some 1,some 1,some 1,some 1,some 1,some 1,some 1,some 1,some 1,some 1,some 1,some 1,none] mixed yc ?_;refine X0 mV ?_;refine qcO ?_;refine qbC ?_;refine X0 zhZ ?_;refine qdF ?_;refine X0 mV ?_;refine X0 (zcm rfl rfl rfl yp rfl) ?_;refine qcO ?_;refine qbC ?_;refine X0 zhZ ?_;refine X0 zhZ ?_;refine qdF ?_;refine X0 (zlL rfl rfl rfl yp rfl) ?_;refine X0 mV ?_;refine X0 zc3 ?_;refine X0 (zlL rfl rfl rfl yp rfl) ?_;refine X0 (zs6 rfl rfl rfl) ?_;refine xh ?_;refine XK.e (x:=.idk) (fun fr' hfr kk H=>by exact zg rfl rfl rfl ((hfr 41 yc).trans rfl) rfl (Lens.elem (i:=k) ya u64T) za2 ((hfr 40 yc).trans rfl) (zD H)) ?_;refine qdL ?_;refine zt (n:=2) (y:=setN (zpj a n) zaG (k+1)) rfl zfN ?_;exact Nx (k+1) ya ya
 obtain rfl:k=4:=ya;refine qaU ?_;refine qcu ?_;exact zE rfl rfl rfl rfl zag (by unfold zdh;rw[ur ht10,ur ht13];exact zkl rfl)
theorem ztB (a:Wide):Tells P 137 [.val zV a] (.val idT (zeq a)):=by
 refine zc Tryz.func137 rfl rfl rfl (fun ext w hext=>?_);refine ze (d:=0) rfl zaI (fun ha=>?_);refine qeP ?_;refine qaC ?_;refine CNQQR ?_;refine qaF ?_;refine Lp (ι:=Nat) 3 (fun (k:Nat)=>((((Fr.none).set 1 (.ptr 0 0)).set 2 (.ptr 1 0)).set 3 (.ptr 2 0)).set 5 (.val i64T (k:Int))) (fun (k:Nat)=>(((Hp.none).set 0 (.box 52 zV a)).set 1 (.box 49 idT zId)).set 2 (.box 49 idT (setN (zrG a) zId k))) (fun (k:Nat)=>k<=32) (fun (k:Nat)=>32-k) (0) (uf _) ?_;intro k hinv;refine qap ?_;refine Cf (p:=k<32) (fun ht6=>?_) (fun ht6=>?_)
 .
  refine qbp ?_;refine qcc ?_;refine qal ?_;refine qb9 ?_;refine qfv ?_;refine A0 (zy (i:=3-k/8) rfl rfl rfl yi zbm ya) ?_;refine A0 (zr rfl rfl rfl (Lens.elem (i:=3-k/8) ya u64T) za2) ?_;refine qaz ?_;refine qbu ?_;refine A0 zkD ?_;refine qfv ?_;refine xb ?_;refine qbS ?_;refine A0 (zy (i:=k) rfl rfl rfl yi zhL ya) ?_;refine zg rfl rfl rfl rfl rfl (Lens.elem (i:=k) ya u8T) ty_5 rfl ?_;refine qb8 ?_;refine zt (n:=2) (y:=setN (zrG a) zId (k+1)) rfl zfN ?_;exact Nx (k+1) ya ya
 obtain rfl:k=32:=ya;refine qfT ?_;exact zE rfl rfl rfl rfl zY (zkl rfl)
theorem zvU (b:Ab.Id):Tells P 175 [.val idT b] (.val zV (zfa b)):=by
 refine zc Tryz.func175 rfl rfl rfl (fun ext w hext=>?_);refine ze (d:=0) rfl zhE (fun hb=>?_);refine qeW ?_;refine qa1 ?_;refine CNQQR ?_;refine qbf ?_;refine qaF ?_;refine Lp (ι:=Nat) 3 (fun (k:Nat)=>((((Fr.none).set 2 (.ptr 1 0)).set 3 (.ptr 2 0)).set 7 (.val idT b)).set 8 (.val i64T (k:Int))) (fun (k:Nat)=>((Hp.none).set 1 (.box 52 zV zaG)).set 2 (.box 52 zV (zq6 b k))) (fun (k:Nat)=>k<=32) (fun (k:Nat)=>32-k) (0) (uf _) ?_;intro k hinv;refine qap ?_;refine Cf (p:=k<32) (fun ht9=>?_) (fun ht9=>?_)
 .
  obtain⟨x,hx⟩:∃x,b[k]?=some x:=yr;refine qbp ?_;refine A0 (zlM rfl rfl rfl rfl zhL ty_5 yj) ?_;refine qfx ?_;refine qb9 ?_;refine qfv ?_;refine qcc ?_;refine qal ?_;refine A0 (zy (i:=3-k/8) rfl rfl rfl yi zbm ya) ?_;refine A0 (zr rfl rfl rfl (Lens.elem (i:=3-k/8) ya u64T) za2) ?_;refine A0 (zlL rfl rfl rfl yp rfl) ?_;refine qaz ?_;refine A0 (zg0 rfl (zlp) (us_5) rfl) ?_;refine A0 (zs6 rfl rfl rfl) ?_;refine A0 (zy (i:=3-k/8) rfl rfl rfl yi zbm ya) ?_;refine zg rfl rfl rfl rfl rfl (Lens.elem (i:=3-k/8) ya u64T) za2 rfl ?_;refine qb8 ?_;refine zt (n:=2) (y:=zq6 b (k+1)) rfl (by unfold zq6;rw[zcz];unfold of32S;rw[uq (l:=b),hx];rfl) ?_;exact Nx (k+1) ya ya
 obtain rfl:k=32:=ya;refine qaU ?_;refine qcu ?_;exact zE rfl rfl rfl rfl zag (rfl)
theorem cmpW_ok (a b:Wide):Tells P 242 [.val zV a,.val zV b] (.val i64T (cmpW a b)):=by
 refine zc Tryz.func242 rfl rfl rfl (fun ext w hext=>?_);refine qav ?_;refine qc3 ?_;refine G0 (zy (i:=3) rfl rfl rfl yi zbm ya) ?_;refine G0 (zr rfl rfl rfl (Lens.elem (i:=3) ya u64T) za2) ?_;refine G0 (zy (i:=3) rfl rfl rfl yi zbm ya) ?_;refine G0 (zr rfl rfl rfl (Lens.elem (i:=3) ya u64T) za2) ?_;refine qdD ?_;refine G0 (zy (i:=2) rfl rfl rfl yi zbm ya) ?_;refine G0 (zr rfl rfl rfl (Lens.elem (i:=2) ya u64T) za2) ?_;refine G0 (zy (i:=2) rfl rfl rfl yi zbm ya) ?_;refine G0 (zr rfl rfl rfl (Lens.elem (i:=2) ya u64T) za2) ?_;refine qdD ?_;refine G0 (zy (i:=1) rfl rfl rfl yi zbm ya) ?_;refine G0 (zr rfl rfl rfl (Lens.elem (i:=1) ya u64T) za2) ?_;refine G0 (zy (i:=1) rfl rfl rfl yi zbm ya) ?_;refine G0 (zr rfl rfl rfl (Lens.elem (i:=1) ya u64T) za2) ?_;refine qdD ?_;refine G0 (zy (i:=0) rfl rfl rfl yi zbm ya) ?_;refine G0 (zr rfl rfl rfl (Lens.elem (i:=0) ya u64T) za2) ?_;refine G0 (zy (i:=0) rfl rfl rfl yi zbm ya) ?_;refine G0 (zr rfl rfl rfl (Lens.elem (i:=0) ya u64T) za2) ?_;refine qdD ?_;refine G0 (zW (T:=i64T) (xs:=[_,_,_,_]) rfl zdG zhO ⟨rfl,rfl,rfl,rfl,rfl,rfl,rfl,rfl,trivial⟩ rfl rfl) ?_;refine G0 (oCl (orInt _) rfl fn_278 yd) ?_;refine qaM ?_;exact zb rfl rfl (za rfl rfl)
def ofW (n:UInt64):Wide:=[n,0,0,0]
def tgtM (bits:UInt32):UInt64:=zK (IntL.toI u32T (bits&&&16777215))
def tgtE (bits:UInt32):Int:=IntL.toI u32T (zd0 bits 24)
def zaV (bits:UInt32):Bool:=decide (3<=tgtE bits/\tgtE bits<=32/\32768<=(tgtM bits).toNat/\(tgtM bits).toNat<8388608)
def tgtW (bits:UInt32):Wide:=if zaV bits=true then upW (ofW (tgtM bits)) (8*(tgtE bits-3)) else zaG
theorem zvT (n:UInt64):Tells P 177 [.val u64T n] (.val zV (ofW n)):=by
 refine zc Tryz.func177 rfl rfl rfl (fun ext w hext=>?_);refine CQR ?_;refine qa1 ?_;refine qd5 ?_;refine A0 (g_buildP (T:=u64T) (xs:=[_]) rfl zbm zo3 yA rfl rfl) ?_;refine qaf ?_;refine CN ?_;exact zE rfl rfl rfl rfl zag (rfl)
theorem target_ok (bits:UInt32):Tells P 113 [.val u32T bits] (.tup2 (.val zV (tgtW bits)) (.val zo (zaV bits))):=by
 have he0:0<=tgtE bits:=Int.natCast_nonneg _;have heL:tgtE bits<4294967296:=yco;refine zc Tryz.func113 rfl rfl rfl (fun ext w hext=>?_);refine CQR ?_;refine qa1 ?_;refine qaR ?_;refine A0 (zoj rfl rfl rfl yp rfl) ?_;refine A0 (zhs rfl (ui_3) (zqA) rfl (z8 (by show -9223372036854775808<=tgtE bits/\tgtE bits<=9223372036854775807;omega))) ?_;refine zj (d:=8) (y:=tgtE bits) rfl rfl ?_;refine qaz ?_;refine A0 (g_and32 rfl rfl rfl) ?_;refine A0 (zg0 rfl (zlp) (zqA) rfl) ?_;refine zj (d:=11) (y:=tgtM bits) rfl rfl ?_;refine A0 aV ?_;refine qag ?_;refine A0 zc4 ?_;refine Sp (d:=13) (p:=tgtE bits<3) (fun g13=>?_) (fun g13=>?_)
 .
  refine qaz ?_;refine qc1 ?_;refine qai ?_;refine qdg ?_;refine Ct ?_;refine qaO ?_;refine qad ?_;exact zi rfl rfl (zm rfl rfl zag yT) (zC (za rfl yai))
 refine qaz ?_;refine qca ?_;refine Sp (d:=16) (p:=32<tgtE bits) (fun g16=>?_) (fun g16=>?_)
 .
  refine qai ?_;refine qc1 ?_;refine qat ?_;refine Ct ?_;refine qaO ?_;refine qad ?_;exact zi rfl rfl (zm rfl rfl zag yT) (zC (za rfl yai))
 refine qai ?_;refine qfY ?_;refine A1 zc4 ?_;refine zX (d:=20) (p:=(tgtM bits).toNat<32768) rfl (by rw[uo];show((tgtM bits).toNat:Int)<(32768:Int)↔_;omega) (fun g20=>?_) (fun g20=>?_)
 .
  refine qai ?_;refine qdg ?_;refine Ct ?_;refine qaO ?_;refine qad ?_;exact zi rfl rfl (zm rfl rfl zag yT) (zC (za rfl yai))
 refine qai ?_;refine qfY ?_;refine A1 zgb ?_;refine zX (d:=24) (p:=8388608<=(tgtM bits).toNat) rfl (by rw[uo];show(8388608:Int)<=((tgtM bits).toNat:Int)↔_;omega) (fun g24=>?_) (fun g24=>?_)
 .
  refine qat ?_;refine Ct ?_;refine qaO ?_;refine qad ?_;exact zi rfl rfl (zm rfl rfl zag yT) (zC (za rfl yai))
 refine qat ?_;refine Cg ?_;refine qbY ?_;refine A0 (oCl (zvT _) rfl zwp yd) ?_;refine qcn ?_;refine A0 zkD ?_;refine A0 (oCl (upW_ok _ _) rfl fn_176 ye) ?_;refine qaf ?_;refine qad ?_;exact zi rfl rfl (zm rfl rfl zag (by unfold tgtW;rw[ut yaf])) (zC (za rfl (by unfold zaV;symm;apply ui;omega)))
theorem ext_Add64:ExtAt P 276 add64E:=⟨_,rfl,rfl,rfl,rfl,rfl⟩
theorem ext_Sub64:ExtAt P 359 sub64E:=⟨_,rfl,rfl,rfl,rfl,rfl⟩
def zbn (f g:UInt64->UInt64->UInt64->UInt64) (a b:Wide) (k:Nat):Wide×UInt64:=(List.range k).foldl (fun x i=>(x.1.set i (f (x.1.getD i default) (b.getD i default) x.2),g (x.1.getD i default) (b.getD i default) x.2)) (a,0)
theorem zeA {f g:UInt64->UInt64->UInt64->UInt64} {a b:Wide} {k:Nat}:zbn f g a b (k+1)=((zbn f g a b k).1.set k (f ((zbn f g a b k).1.getD k default) (b.getD k default) (zbn f g a b k).2),g ((zbn f g a b k).1.getD k default) (b.getD k default) (zbn f g a b k).2):=by unfold zbn;rw[zcz]
def addW (a b:Wide):Wide:=(zbn addS addC a b 4).1
def zhb (a b:Wide):Bool:=decide ((zbn addS addC a b 4).2.toNat=0)
def subW (a b:Wide):Wide:=(zbn subS subC a b 4).1
def zsb (a b:Wide):Bool:=decide ((zbn subS subC a b 4).2.toNat=0)
theorem zuV (a b:Wide):Tells P 275 [.val zV a,.val zV b,.clo 276 []] (.tup2 (.val zV (zbn addS addC a b 4).1) (.val zo (decide ((zbn addS addC a b 4).2.toNat=0)))):=by
 refine zc Tryz.func275 rfl rfl rfl (fun ext w hext=>?_);refine qfh ?_;refine qag ?_;refine CNB ?_;refine Lp (ι:=Nat) 3 (fun (k:Nat)=>((((((Fr.none).set 2 (.clo 276 [])).set 3 (.ptr 0 0)).set 4 (.ptr 1 0)).set 6 (.ptr 2 0)).set 8 (.val u64T (zbn addS addC a b k).2)).set 10 (.val i64T (k:Int))) (fun (k:Nat)=>(((Hp.none).set 0 (.box 52 zV (zbn addS addC a b k).1)).set 1 (.box 52 zV b)).set 2 (.box 52 zV zaG)) (fun (k:Nat)=>k<=4/\(zbn addS addC a b k).2.toNat<=1) (fun (k:Nat)=>4-k) (0) (⟨uf _,uf 1⟩) ?_;intro k hinv;refine qap ?_;refine Cf (p:=k<4) (fun ht11=>?_) (fun ht11=>?_)
 .
  refine qbp ?_;refine qad ?_;refine zA [some 1,some 1,some 1,some 1,some 1,some 1,some 1,some 1,some 1,some 1,some 1,some 1,some 1000001,some 1,none,some 1] mixed yc ?_;refine X0 mV ?_;refine X0 mC ?_;refine X0 mV ?_;refine xh ?_;refine xi ?_;refine X0 mV ?_;refine xh ?_;refine xi ?_;refine X0 mV ?_;refine X0 (g_ext3 rfl ext_Add64 rfl rfl rfl rfl (fun P w=>Go.Ab.run_add64 P w _ _ hinv.2)) ?_;refine qdJ ?_;refine xj ?_;refine xh ?_;refine XK.e (x:=.idk) (fun fr' hfr kk H=>by exact zg rfl rfl rfl ((hfr 26 yc).trans rfl) rfl (Lens.elem (i:=k) ya u64T) za2 ((hfr 24 yc).trans rfl) (zD H)) ?_;refine X0 aX ?_;refine qdL ?_;refine zt (n:=0) (y:=(zbn addS addC a b (k+1)).1) rfl (by rw[zeA]) ?_;refine zj (d:=8) (y:=(zbn addS addC a b (k+1)).2) rfl (by rw[zeA]) ?_;exact Nx (k+1) (⟨by omega,by rw[zeA];exact zj3 _ _ hinv.2⟩) ya
 obtain rfl:k=4:=ya;refine qeL ?_;exact zi rfl rfl (zm rfl rfl zag (rfl)) (zC (za rfl (by rw[uo];show((_:Nat):Int)=(0:Int)↔_;omega)))
theorem zuU (a b:Wide):Tells P 275 [.val zV a,.val zV b,.clo 359 []] (.tup2 (.val zV (zbn subS subC a b 4).1) (.val zo (decide ((zbn subS subC a b 4).2.toNat=0)))):=by
 refine zc Tryz.func275 rfl rfl rfl (fun ext w hext=>?_);refine qfh ?_;refine qag ?_;refine CNB ?_;refine Lp (ι:=Nat) 3 (fun (k:Nat)=>((((((Fr.none).set 2 (.clo 359 [])).set 3 (.ptr 0 0)).set 4 (.ptr 1 0)).set 6 (.ptr 2 0)).set 8 (.val u64T (zbn subS subC a b k).2)).set 10 (.val i64T (k:Int))) (fun (k:Nat)=>(((Hp.none).set 0 (.box 52 zV (zbn subS subC a b k).1)).set 1 (.box 52 zV b)).set 2 (.box 52 zV zaG)) (fun (k:Nat)=>k<=4/\(zbn subS subC a b k).2.toNat<=1) (fun (k:Nat)=>4-k) (0) (⟨uf _,uf 1⟩) ?_;intro k hinv;refine qap ?_;refine Cf (p:=k<4) (fun ht11=>?_) (fun ht11=>?_)
 .
  refine qbp ?_;refine qad ?_;refine zA [some 1,some 1,some 1,some 1,some 1,some 1,some 1,some 1,some 1,some 1,some 1,some 1,some 1000001,some 1,none,some 1] mixed yc ?_;refine X0 mV ?_;refine X0 mC ?_;refine X0 mV ?_;refine xh ?_;refine xi ?_;refine X0 mV ?_;refine xh ?_;refine xi ?_;refine X0 mV ?_;refine X0 (g_ext3 rfl ext_Sub64 rfl rfl rfl rfl (fun P w=>Go.Ab.run_sub64 P w _ _ hinv.2)) ?_;refine qdJ ?_;refine xj ?_;refine xh ?_;refine XK.e (x:=.idk) (fun fr' hfr kk H=>by exact zg rfl rfl rfl ((hfr 26 yc).trans rfl) rfl (Lens.elem (i:=k) ya u64T) za2 ((hfr 24 yc).trans rfl) (zD H)) ?_;refine X0 aX ?_;refine qdL ?_;refine zt (n:=0) (y:=(zbn subS subC a b (k+1)).1) rfl (by rw[zeA]) ?_;refine zj (d:=8) (y:=(zbn subS subC a b (k+1)).2) rfl (by rw[zeA]) ?_;exact Nx (k+1) (⟨by omega,by rw[zeA];exact zqE _ _ _⟩) ya
 obtain rfl:k=4:=ya;refine qeL ?_;exact zi rfl rfl (zm rfl rfl zag (rfl)) (zC (za rfl (by rw[uo];show((_:Nat):Int)=(0:Int)↔_;omega)))
theorem zu5 (a b:Wide):Tells P 238 [.val zV a,.val zV b] (.tup2 (.val zV (addW a b)) (.val zo (zhb a b))):=by
 refine zc Tryz.func238 rfl rfl rfl (fun ext w hext=>?_);refine qfh ?_;refine qd6 ?_;refine A0 (oCl (zuV a b) rfl fn_275 ⟨yk,yk,(by first|exact zdO (Cs:=[]) rfl fn_276 yC trivial rfl (fun x=>no_contract_of_math_bits_Add64)|exact zdN (Cs:=[]) rfl fn_276 yC trivial rfl (fun x y=>no_contract_of_math_bits_Add64)|exact zdP rfl),trivial⟩) ?_;refine qaa ?_;refine qaf ?_;refine qad ?_;exact zi rfl rfl (zm rfl rfl zag (rfl)) (zC (za rfl (rfl)))
theorem subW_ok (a b:Wide):Tells P 325 [.val zV a,.val zV b] (.tup2 (.val zV (subW a b)) (.val zo (zsb a b))):=by
 refine zc Tryz.func325 rfl rfl rfl (fun ext w hext=>?_);refine qfh ?_;refine qd6 ?_;refine A0 (oCl (zuU a b) rfl fn_275 ⟨yk,yk,(by first|exact zdO (Cs:=[]) rfl fn_359 yC trivial rfl (fun x=>no_contract_of_math_bits_Sub64)|exact zdN (Cs:=[]) rfl fn_359 yC trivial rfl (fun x y=>no_contract_of_math_bits_Sub64)|exact zdP rfl),trivial⟩) ?_;refine qaa ?_;refine qaf ?_;refine qad ?_;exact zi rfl rfl (zm rfl rfl zag (rfl)) (zC (za rfl (rfl)))
def zam (n:Nat):Nat:=if n=0 then 0 else Nat.log2 n+1
theorem ztD {n s:Nat} (h:2^s<=n):zam n=s+zam (n/2^s):=by
  have hp:=Nat.two_pow_pos s;have h1:1<=n/2^s:=(Nat.le_div_iff_mul_le hp).2 ya;unfold zam;rw[ur ya,ur ya];obtain⟨k,hk⟩:∃k,k=Nat.log2 (n/2^s):=⟨_,rfl⟩;have h2:=(Nat.log2_eq_iff (n:=n/2^s) (k:=k) ya).1 hk.symm;have h3:Nat.log2 n=k+s:=by
    rw[Nat.log2_eq_iff ya]
    constructor
    . rw[pow_add];exact(Nat.le_div_iff_mul_le hp).1 h2.1
    rw[show k+s+1=k+1+s by omega,pow_add];exact(Nat.div_lt_iff_lt_mul hp).1 h2.2
  rw[h3,<-hk];omega
theorem zg9 {n s:Nat} (h:n<2^s):zam n<=s:=by
  unfold zam
  split
  . omega
  rename_i h0
  have:=(Nat.log2_lt h0).2 h
  omega
theorem zbr (x:UInt64) {m:Nat} (h:m<=64):(zax x m).toNat=x.toNat/2^m:=by
  have hx:x.toNat<18446744073709551616:=x.toNat_lt;unfold zax;rw[toNat_ofNat_of_lt' (lt_of_le_of_lt (div_le_self _ _) hx),min_eq_left h]
theorem u8_small {x:UInt64} (h:x.toNat<256):(zaF (IntL.toI u64T x)).toNat=x.toNat:=by
  unfold zaF;show(UInt8.ofNat ((x.toNat:Int)%256).toNat).toNat=x.toNat
  rw[UInt8.toNat_ofNat_of_lt' ybx];omega
theorem len_small {x:UInt64} (h:x.toNat<256):IntL.toI u8T (UInt8.ofNat (zam (zaF (IntL.toI u64T x)).toNat))=zam x.toNat:=by
  have:=zg9 (s:=8) (n:=x.toNat) ya
  rw[u8_small h];show((UInt8.ofNat (zam x.toNat)).toNat:Int)=_;rw[UInt8.toNat_ofNat_of_lt' ybx]
theorem zim {x y:UInt64} {b:Int} {s:Nat} (hy:y.toNat<256) (hx:zam x.toNat=s+zam y.toNat) (hs:s<=64) (hb:b=(s:Int)):IntKind.i64.wrap (b+IntKind.i64.wrap (IntL.toI u8T (UInt8.ofNat (zam (zaF (IntL.toI u64T y)).toNat))))=(zam x.toNat:Nat):=by
  have:=zg9 (s:=8) (n:=y.toNat) ya
  rw[len_small hy,z8 (n:=((zam y.toNat:Nat):Int)) ya,z8 ya,hx,hb];omega
theorem zdy {x:UInt64} {s:Nat} (hs:s<=64) (h:2^s<=x.toNat):zam x.toNat=s+zam (zax x s).toNat:=by
  rw[zbr x hs];exact ztD h
theorem zv1 (x:UInt64):Tells P 224 [.val u64T x] (.val i64T (zam x.toNat:Nat)):=by
 refine zc Tryz.func224 rfl rfl rfl (fun ext w hext=>?_);refine qcK ?_;refine qb5 ?_;refine zl (p:=4294967296<=(x).toNat) rfl (by rw[uo];show(4294967296:Int)<=((x).toNat:Int)↔_;omega) (fun ht4=>?_) (fun ht4=>?_)
 .
  refine qb1 ?_;refine xb ?_;refine qcc ?_;refine qag ?_;refine qb5 ?_;refine zl (p:=65536<=(zax x 32).toNat) rfl (by rw[uo];show(65536:Int)<=((zax x 32).toNat:Int)↔_;omega) (fun ht8=>?_) (fun ht8=>?_)
  .
   refine qb1 ?_;refine xb ?_;refine qcc ?_;refine qd9 ?_;refine qag ?_;refine qb5 ?_;refine zl (p:=256<=(zax (zax x 32) 16).toNat) rfl (by rw[uo];show(256:Int)<=((zax (zax x 32) 16).toNat:Int)↔_;omega) (fun ht14=>?_) (fun ht14=>?_)
   .
    refine qb1 ?_;refine xb ?_;refine qf3 ?_;refine A0 (zdU (fun n=>UInt8.ofNat (zam n)) rfl rfl st_9 yc) ?_;refine qaW ?_;exact zb rfl rfl (za rfl (zim (y:=zax (zax (zax x 32) 16) 8) (s:=56) yv (by rw[zdy (s:=32) yl ht4,zdy (s:=16) yl ht8,zdy (s:=8) yl ht14];omega) yl (by rfl)))
   refine qej ?_;refine qbS ?_;refine A0 (zdU (fun n=>UInt8.ofNat (zam n)) rfl rfl st_9 yc) ?_;refine qaW ?_;exact zb rfl rfl (za rfl (zim (y:=zax (zax x 32) 16) (s:=48) yv (by rw[zdy (s:=32) yl ht4,zdy (s:=16) yl ht8];omega) yl (by rfl)))
  refine qcb ?_;refine qb5 ?_;refine zl (p:=256<=(zax x 32).toNat) rfl (by rw[uo];show(256:Int)<=((zax x 32).toNat:Int)↔_;omega) (fun ht14=>?_) (fun ht14=>?_)
  .
   refine qb1 ?_;refine xb ?_;refine qf3 ?_;refine A0 (zdU (fun n=>UInt8.ofNat (zam n)) rfl rfl st_9 yc) ?_;refine qaW ?_;exact zb rfl rfl (za rfl (zim (y:=zax (zax x 32) 8) (s:=40) yv (by rw[zdy (s:=32) yl ht4,zdy (s:=8) yl ht14];omega) yl (by rfl)))
  refine qej ?_;refine qbS ?_;refine A0 (zdU (fun n=>UInt8.ofNat (zam n)) rfl rfl st_9 yc) ?_;refine qaW ?_;exact zb rfl rfl (za rfl (zim (y:=zax x 32) (s:=32) yv (zdy (s:=32) yl ht4) yl (by rfl)))
 refine qcb ?_;refine qb5 ?_;refine zl (p:=65536<=(x).toNat) rfl (by rw[uo];show(65536:Int)<=((x).toNat:Int)↔_;omega) (fun ht8=>?_) (fun ht8=>?_)
 .
  refine qb1 ?_;refine xb ?_;refine qcc ?_;refine qd9 ?_;refine qag ?_;refine qb5 ?_;refine zl (p:=256<=(zax x 16).toNat) rfl (by rw[uo];show(256:Int)<=((zax x 16).toNat:Int)↔_;omega) (fun ht14=>?_) (fun ht14=>?_)
  .
   refine qb1 ?_;refine xb ?_;refine qf3 ?_;refine A0 (zdU (fun n=>UInt8.ofNat (zam n)) rfl rfl st_9 yc) ?_;refine qaW ?_;exact zb rfl rfl (za rfl (zim (y:=zax (zax x 16) 8) (s:=24) yv (by rw[zdy (s:=16) yl ht8,zdy (s:=8) yl ht14];omega) yl (by rfl)))
  refine qej ?_;refine qbS ?_;refine A0 (zdU (fun n=>UInt8.ofNat (zam n)) rfl rfl st_9 yc) ?_;refine qaW ?_;exact zb rfl rfl (za rfl (zim (y:=zax x 16) (s:=16) yv (zdy (s:=16) yl ht8) yl (by rfl)))
 refine qcb ?_;refine qb5 ?_;refine zl (p:=256<=(x).toNat) rfl (by rw[uo];show(256:Int)<=((x).toNat:Int)↔_;omega) (fun ht14=>?_) (fun ht14=>?_)
 .
  refine qb1 ?_;refine xb ?_;refine qf3 ?_;refine A0 (zdU (fun n=>UInt8.ofNat (zam n)) rfl rfl st_9 yc) ?_;refine qaW ?_;exact zb rfl rfl (za rfl (zim (y:=zax x 8) (s:=8) yv (zdy (s:=8) yl ht14) yl (by rfl)))
 refine qej ?_;refine qbS ?_;refine A0 (zdU (fun n=>UInt8.ofNat (zam n)) rfl rfl st_9 yc) ?_;refine qaW ?_;exact zb rfl rfl (za rfl (zim (y:=x) (s:=0) yv ((Nat.zero_add _).symm) yl (by rfl)))
theorem lenU_ok (x:UInt64):Tells P 169 [.val u64T x] (.val i64T (zam x.toNat:Nat)):=by
 refine zc Tryz.func169 rfl rfl rfl (fun ext w hext=>?_);refine CQR ?_;refine qaL ?_;refine Cg ?_;refine qbY ?_;refine A0 (oCl (zv1 _) rfl fn_224 yd) ?_;refine qad ?_;exact zb rfl rfl (za rfl rfl)
def zmz (a:Wide):Nat->Nat
  | 0=>0
  | k+1=>if 0<(a.getD k default).toNat then k*64+zam (a.getD k default).toNat else zmz a k
def longW (a:Wide):Nat:=zmz a 4
theorem longN_yes {a:Wide} {k:Nat} (hk:0<k) (h:0<(a.getD (k-1) default).toNat):zmz a k=(k-1)*64+zam (a.getD (k-1) default).toNat:=by
  obtain⟨j,rfl⟩:∃j,k=j+1:=⟨k-1,by omega⟩;rw[Nat.add_sub_cancel] at *;rw[zmz,ut h]
theorem longN_no {a:Wide} {k:Nat} (hk:0<k) (h:¬0<(a.getD (k-1) default).toNat):zmz a k=zmz a (k-1):=by
  obtain⟨j,rfl⟩:∃j,k=j+1:=⟨k-1,by omega⟩;rw[Nat.add_sub_cancel] at *;rw[zmz,ur h]
theorem zv0 (a:Wide):∀k,zmz a k<=k*64
  | 0=>ug _
  | k+1=>by
    have:=zv0 a k
    have hb:=zg9 (s:=64) (n:=(a.getD k default).toNat) (toNat_lt _);rw[zmz]
    split<;>omega
theorem zrf (a:Wide):longW a<=256:=zv0 a 4
theorem zqj {n:Nat} (h:0<n):1<=zam n:=by unfold zam;rw[ur ya];omega
theorem longW_pos {a:Wide} (hl:a.length=4) (h:a≠zaG):1<=longW a:=by
  match a,hl with
  | [a0,a1,a2,a3],_ =>
    unfold longW;simp only[zmz,List.getD_cons_succ,List.getD_cons_zero];have hp:∀x:UInt64,0<x.toNat->1<=zam x.toNat:=fun x hx=>zqj hx
    have hz:∀x:UInt64,¬0<x.toNat->x=0:=fun x hx=>toNat_inj.1 yB
    split
    . have:=hp _ ‹_›;omega
    split
    . have:=hp _ ‹_›;omega
    split
    . have:=hp _ ‹_›;omega
    split
    . have:=hp _ ‹_›;omega
    exact absurd (by rw[hz a0 ‹_›,hz a1 ‹_›,hz a2 ‹_›,hz a3 ‹_›];rfl) h
def zlF (out:Wide) (n:Nat):Wide:=out.set (n/64) (out.getD (n/64) default|||zgv 1 (n%64))
def zjY (b:Wide) (x:Wide×Wide) (n:Nat):Wide×Wide:=if zsb x.1 (upW b n)=true then (subW x.1 (upW b n),zlF x.2 n) else x
def divN (b:Wide):Nat->Wide×Wide->Wide×Wide
  | 0,x=>x
  | n+1,x=>divN b n (zjY b x n)
theorem zrB {b:Wide} {n:Int} (h:0<=n) (x:Wide×Wide):divN b (n+1).toNat x=divN b (n-1+1).toNat (zjY b x n.toNat):=by
  rw[show(n+1).toNat=n.toNat+1 by omega,show(n-1+1).toNat=n.toNat by omega,divN]
def divP (a b:Wide):Wide×Wide:=if b=zaG then (zaG,zaG) else ((divN b (longW a+1-longW b) (a,zaG)).2,(divN b (longW a+1-longW b) (a,zaG)).1)
def divW (a b:Wide):Wide:=(divP a b).1
def remW (a b:Wide):Wide:=(divP a b).2
def divOk (b:Wide):Bool:=decide (b≠zaG)
theorem zvZ (a:Wide):Tells P 324 [.val zV a] (.val i64T (longW a:Nat)):=by
 refine zc Tryz.func324 rfl rfl rfl (fun ext w hext=>?_);refine ze (d:=0) rfl zaI (fun ha=>?_);refine qae ?_;refine qcz ?_;refine Lp (ι:=Nat) 1 (fun (k:Nat)=>((Fr.none).set 1 (.ptr 0 0)).set 3 (.val i64T ((k:Int)-1))) (fun (k:Nat)=>(Hp.none).set 0 (.box 52 zV a)) (fun (k:Nat)=>k<=4/\longW a=zmz a k) (fun (k:Nat)=>k) (4) (⟨ug _,rfl⟩) ?_;intro k hinv;refine qfR ?_;refine Cf (p:=0<k) (fun ht5=>?_) (fun ht5=>?_)
 .
  refine qbp ?_;refine xk ?_;refine xm ?_;refine qc2 ?_;refine zl (p:=0<(a.getD (k-1) default).toNat) rfl (by rw[uo];show(0:Int)<((a.getD (k-1) default).toNat:Int)↔_;omega) (fun ht11=>?_) (fun ht11=>?_)
  .
   have hb:=zg9 (s:=64) (n:=(a.getD (k-1) default).toNat) (toNat_lt _);refine qb1 ?_;refine A0 zkD ?_;refine qaz ?_;refine xk ?_;refine xm ?_;refine A0 (oCl (zv1 _) rfl fn_224 yd) ?_;refine qfX ?_;refine qad ?_;exact zb rfl rfl (za rfl (by rw[hinv.2,longN_yes ht5 ht11];omega))
  refine qeX ?_;refine zj (d:=3) (y:=((k-1:Nat):Int)-1) rfl ya ?_;exact Nx (k-1) (⟨by omega,by rw[hinv.2,longN_no ht5 ht11]⟩) ya
 obtain rfl:k=0:=ya;refine qcs ?_;exact zb rfl rfl (za rfl (by rw[hinv.2];rfl))
theorem divW_ok (a b:Wide):Tells P 277 [.val zV a,.val zV b] (.tup3 (.val zV (divW a b)) (.val zV (remW a b)) (.val zo (divOk b))):=by
 refine zc Tryz.func277 rfl rfl rfl (fun ext w hext=>?_);refine ze (d:=0) rfl zaI (fun ha=>?_);refine ze (d:=1) rfl zaI (fun hb=>?_);refine qav ?_;refine qa1 ?_;refine qa1 ?_;refine qbT ?_;refine qa5 ?_;refine qeF ?_;refine A0 (zgZ rfl rfl rfl (eqt_52)) ?_;refine CN ?_;refine zl (p:=b=zaG) rfl yw (fun ht13=>?_) (fun ht13=>?_)
 .
  refine CQR ?_;refine qeF ?_;refine qeF ?_;refine qaf ?_;refine qaf ?_;refine qad ?_;exact zne rfl rfl (zm rfl rfl zag (by unfold divW divP;rw[ut ht13])) (zm rfl rfl zag (by unfold remW divP;rw[ut ht13])) (zC (za rfl (by unfold divOk;symm;exact uh (fun h=>h ht13))))
 have hz:=longW_pos hb ht13;have hla:=zrf a;have hlb:=zrf b;refine CSQR ?_;refine qa1 ?_;refine CNQ ?_;refine qaI ?_;refine G0 (oLs rfl rfl rfl zag) ?_;refine G0 (oCl (zvZ _) rfl fn_324 yd) ?_;refine G0 (oLs rfl rfl rfl zag) ?_;refine G0 (oCl (zvZ _) rfl fn_324 yd) ?_;refine G0 zc3 ?_;refine qaM ?_;refine CB ?_;refine Lp (ι:=Int×Wide×Wide) 5 (fun(n,x)=>(((((Fr.none.set 2 (.ptr 0 0)).set 3 (.ptr 1 0)).set 4 (.ptr 2 0)).set 5 (.ptr 3 0)).set 7 (.ptr 4 0)).set 8 (.val i64T n)) (fun(n,x)=>((((Hp.none.set 0 (.box 52 zV x.1)).set 1 (.box 52 zV b)).set 2 (.box 52 zV zaG)).set 3 (.box 52 zV zaG)).set 4 (.box 52 zV x.2)) (fun(n,x)=>n<=255∧-256<=n/\x.2.length=4/\divN b (n+1).toNat x=divN b (longW a+1-longW b) (a,zaG)) (fun(n,x)=>(n+1).toNat) (((longW a:Int)-(longW b:Int),a,zaG)) (⟨by omega,by omega,rfl,by rw[show((longW a:Int)-(longW b:Int)+1).toNat=longW a+1-longW b by omega]⟩) ?_;intro⟨n,x⟩ hinv;dsimp only at hinv;refine qfR ?_;refine Cf (p:=0<=n) (fun ht22=>?_) (fun ht22=>?_)
 .
  refine qaS ?_;refine CQ ?_;refine zA [some 1000001,some 1000001,some 1000001,some 1000001,some 1000001,some 1000001,some 1000001,some 1000001,none,none,some 1] mixed yc ?_;refine XK.gf (t:=2) rfl rfl (fun _ he=>zr rfl rfl he (Lens.self _) zag) ⟨rfl,trivial⟩ rfl rfl rfl ?_;refine XK.gf (t:=3) rfl rfl (fun _ he=>zr rfl rfl he (Lens.self _) zag) ⟨rfl,trivial⟩ rfl rfl rfl ?_;refine XK.ga (fun _=>g_mv (.inl rfl) rfl) rfl rfl rfl ?_;refine XK.ga (fun _=>zcT (upW_ok _ _) rfl fn_176 ye rfl) rfl rfl rfl ?_;refine XK.ga (fun _=>zcT (subW_ok _ _) rfl fn_325 ye rfl) rfl rfl rfl ?_;refine xo ?_;refine XK.ga y4 rfl rfl rfl ?_;refine xj ?_;refine XK.e (fun fr' hfr kk H=>by exact zN zo3 rfl rfl rfl rfl (zD H)) ?_;refine XK.e (x:=.idk) (fun fr' hfr kk H=>by exact zg rfl rfl rfl ((hfr 9 yc).trans rfl) rfl (Lens.self _) zag ((hfr 31 yc).trans rfl) (zD H)) ?_;refine X0 aV ?_;refine XK.nilp ⟨yA,yA,trivial⟩ ?_;refine qb1 ?_;refine CN ?_;refine zl (p:=zsb x.1 (upW b n)=true) rfl yw (fun ht33=>?_) (fun ht33=>?_)
  .
   refine CQR ?_;refine qcu ?_;refine xd ?_;refine X0 mV ?_;refine X0 (g_quo rfl rfl rfl ybW (by first|decide|omega) rfl) ?_;refine X0 (zy (i:=n.toNat/64) rfl rfl rfl yi zbm ya) ?_;refine X0 (zr rfl rfl rfl (Lens.elem (i:=n.toNat/64) ya u64T) za2) ?_;refine X0 mV ?_;refine X0 (g_rem rfl rfl rfl ybW (by first|decide|omega) rfl) ?_;refine X0 (zlL rfl rfl rfl yp rfl) ?_;refine X0 (zs6 rfl rfl rfl) ?_;refine X0 (zy (i:=n.toNat/64) rfl rfl rfl yi zbm ya) ?_;refine XK.e (x:=.idk) (fun fr' hfr kk H=>by exact zg rfl rfl rfl ((hfr 43 yc).trans rfl) rfl (Lens.elem (i:=n.toNat/64) ya u64T) za2 ((hfr 42 yc).trans rfl) (zD H)) ?_;refine qaV ?_;refine qcn ?_;refine qad ?_;refine zt (n:=4) (y:=zlF x.2 n.toNat) rfl (by unfold zlF;rw[show(IntL.toI i64T (n%64)).toNat=n.toNat%64 by simp only[IntL.toI,id_eq];omega];rfl) ?_;exact Nx ((n-1,subW x.1 (upW b n),zlF x.2 n.toNat)) yW (by show(n-1+1).toNat<(n+1).toNat;omega)
  refine qeX ?_;exact Nx ((n-1,x)) yW (by show(n-1+1).toNat<(n+1).toNat;omega)
 refine qe7 ?_;refine zA [some 1,some 1000001,none,none,some 1] mixed yc ?_;refine qcO ?_;refine XK.gf (t:=2) rfl rfl (fun _ he=>zr rfl rfl he (Lens.self _) zag) ⟨rfl,trivial⟩ rfl rfl rfl ?_;refine XK.e (x:=.idk) (fun fr' hfr kk H=>by exact zg rfl rfl rfl ((hfr 4 yc).trans rfl) rfl (Lens.self _) zag ((hfr 44 yc).trans rfl) (zD H)) ?_;refine XK.e (x:=.idk) (fun fr' hfr kk H=>by exact zg rfl rfl rfl ((hfr 5 yc).trans rfl) rfl (Lens.self _) zag ((hfr 45 yc).trans rfl) (zD H)) ?_;refine X0 aV ?_;refine XK.nilp ⟨yA,trivial⟩ ?_;exact zne rfl rfl (zm rfl rfl zag (by unfold divW divP;rw[ur ht13,<-hinv.2.2.2,show(n+1).toNat=0 by omega];rfl)) (zm rfl rfl zag (by unfold remW divP;rw[ur ht13,<-hinv.2.2.2,show(n+1).toNat=0 by omega];rfl)) (zC (za rfl (by unfold divOk;symm;exact ui ht13)))
def searchN (f:Int->Bool) (lo hi:Nat):Nat :=
  if h:lo<hi then (if f (((lo+hi)/2:Nat):Int)=true then searchN f lo ((lo+hi)/2) else searchN f ((lo+hi)/2+1) hi) else lo
termination_by hi-lo
theorem znB {f:Int->Bool} {lo hi:Nat} (h:lo<hi) (hf:¬f (((lo+hi)/2:Nat):Int)=true):searchN f lo hi=searchN f ((lo+hi)/2+1) hi:=by
  rw[searchN,dif_pos h,ur hf]
theorem zlv {f:Int->Bool} {lo hi:Nat} (h:lo<hi) (hf:f (((lo+hi)/2:Nat):Int)=true):searchN f lo hi=searchN f lo ((lo+hi)/2):=by
  conv=>lhs;rw[searchN,dif_pos h,ut hf]
theorem search_end {f:Int->Bool} {lo:Nat}:searchN f lo lo=lo:=by rw[searchN,dif_neg (Nat.lt_irrefl _)]
def zgV (n t:Wide) (k:Int):Bool:=decide (0<cmpW n (zdh t k))
def zpO (id:Ab.Id) (t:Wide):Int:=(searchN (zgV (zfa id) t) 0 32:Nat)-1
theorem znC {f:Int->Bool} (lo hi:Nat) (h:lo<=hi):searchN f lo hi<=hi:=by
  rw[searchN]
  split
  . split
    . have:=znC (f:=f) lo ((lo+hi)/2) ya;omega
    exact znC _ _ ya
  exact h
termination_by hi-lo
theorem search_ok (n:Nat) (f:Int->Bool) (hn:n<4611686018427387904):Tells P 244 [.val i64T (n:Int),.fn1 P i64T zo f] (.val i64T (searchN f 0 n:Nat)):=by
 refine zc Tryz.func244 rfl rfl rfl (fun ext w hext=>?_);refine ze (d:=0) rfl zz (fun hin0=>?_);refine qe8 ?_;refine A0 aV ?_;refine qaL ?_;refine CB ?_;refine Lp (ι:=Nat×Nat) 0 (fun (i:Nat×Nat)=>match i with|(lo,hi)=>(((Fr.none).set 1 (.fn1 P i64T zo f)).set 5 (.val i64T (lo:Int))).set 6 (.val i64T (hi:Int))) (fun (i:Nat×Nat)=>match i with|(lo,hi)=>Hp.none) (fun (i:Nat×Nat)=>match i with|(lo,hi)=>lo<=hi/\hi<=n/\searchN f 0 n=searchN f lo hi) (fun (i:Nat×Nat)=>match i with|(lo,hi)=>hi-lo) ((0,n)) (⟨uf _,ug _,rfl⟩) ?_;intro⟨lo,hi⟩ hinv;dsimp only at hinv;refine qb6 ?_;refine qa7 ?_;refine Cf (p:=lo<hi) (fun ht11=>?_) (fun ht11=>?_)
 .
  refine CS ?_;refine qgf ?_;refine qal ?_;refine qfX ?_;refine qe0 ?_;refine xb ?_;refine A0 (zhs rfl (ui_3) (us_234) rfl (mid_eq ya)) ?_;refine qaj ?_;refine A0 mF ?_;refine qaz ?_;refine A0 (zkV rfl rfl yk) ?_;refine qaT ?_;refine zl (p:=¬f (((lo+hi)/2:Nat):Int)=true) rfl yw (fun ht21=>?_) (fun ht21=>?_)
  .
   refine CR ?_;refine qan ?_;refine CI ?_;exact Nx (((lo+hi)/2+1,hi)) yaJ ybn
  refine qe5 ?_;refine qad ?_;refine CI ?_;exact Nx ((lo,(lo+hi)/2)) yaJ ybn
 obtain rfl:hi=lo:=ya;refine qdl ?_;exact zb rfl rfl (za rfl (by rw[hinv.2.2,search_end]))
theorem zsS (n t:Wide) (k:Int):Tells P 241 [.val i64T k,.rptr zV n,.rptr zV t] (.val zo (zgV n t k)):=by
 refine zc Tryz.func241 rfl rfl rfl (fun ext w hext=>?_);refine ze (d:=0) rfl zz (fun hin0=>?_);refine CQR ?_;refine qc3 ?_;refine G0 (zh rfl rfl zag) ?_;refine G0 (zh rfl rfl zag) ?_;refine G0 mV ?_;refine G0 (oCl (downW_ok _ _) rfl fn_243 ye) ?_;refine G0 (oCl (cmpW_ok _ _) rfl fn_242 ye) ?_;refine G0 zcq ?_;refine qaM ?_;exact zb rfl rfl (za rfl rfl)
theorem levelW_ok (id:Ab.Id) (t:Wide):Tells P 187 [.val idT id,.val zV t] (.val i64T (zpO id t)):=by
 refine zc Tryz.func187 rfl rfl rfl (fun ext w hext=>?_);have hsl:=znC (f:=zgV (zfa id) t) 0 32 yl;refine qeJ ?_;refine qbf ?_;refine A0 (oCl (zvU _) rfl fn_175 yd) ?_;refine qa1 ?_;refine qaf ?_;refine CNQR ?_;refine qfK ?_;refine A0 aC ?_;refine CNQR ?_;refine A0 mC ?_;refine A0 (oCl (search_ok 32 (zgV (zfa id) t) yl) rfl fn_244 ⟨yk,(by first|exact zdO (Cs:=[_,_]) rfl fn_241 yaZ ⟨yX,yX,trivial⟩ rfl (fun x=>zsS (zfa id) t x)|exact zdN (Cs:=[_,_]) rfl fn_241 yaZ ⟨yX,yX,trivial⟩ rfl (fun x y=>zsS (zfa id) t x)|exact zdP rfl),trivial⟩) ?_;refine qfv ?_;refine qad ?_;exact zb rfl rfl (za rfl rfl)
def zmq (t:Wide):Wide:=if zhb t (ofW 1)=true then addW (divW [~~~ t.getD 0 default,~~~ t.getD 1 default,~~~ t.getD 2 default,~~~ t.getD 3 default] (addW t (ofW 1))) (ofW 1) else ofW 1
theorem workW_ok (t:Wide):Tells P 240 [.val zV t] (.val zV (zmq t)):=by
 refine zc Tryz.func240 rfl rfl rfl (fun ext w hext=>?_);refine ze (d:=0) rfl zaI (fun ha=>?_);refine qae ?_;refine qa1 ?_;refine CNQ ?_;refine xp ?_;refine XK.gf (t:=1) rfl rfl (fun _ he=>zr rfl rfl he (Lens.self _) zag) ⟨rfl,trivial⟩ rfl rfl rfl ?_;refine XK.ga (fun _=>zcT (zvT 1) rfl zwp yd rfl) rfl rfl rfl ?_;refine XK.ga (fun _=>zcT (zu5 _ _) rfl fn_238 ye rfl) rfl rfl rfl ?_;refine xo ?_;refine XK.ga y4 rfl rfl rfl ?_;refine xj ?_;refine XK.e (fun fr' hfr kk H=>by exact zN zo3 rfl rfl rfl rfl (zD H)) ?_;refine XK.e (x:=.idk) (fun fr' hfr kk H=>by exact zg rfl rfl rfl ((hfr 3 yc).trans rfl) rfl (Lens.self _) zag ((hfr 13 yc).trans rfl) (zD H)) ?_;refine X0 aV ?_;refine XK.nilp ⟨yA,trivial⟩ ?_;refine qbd ?_;refine qaT ?_;refine zl (p:=¬zhb t (ofW 1)=true) rfl (by cases zhb t (ofW 1)<;>rfl) (fun ht16=>?_) (fun ht16=>?_)
 .
  refine CQR ?_;refine A0 (oCl (zvT 1) rfl zwp yd) ?_;refine qaf ?_;refine CN ?_;exact zE rfl rfl rfl rfl zag (by unfold zmq;rw[ur ht16]<;>rfl)
 refine CSQR ?_;refine A0 (zy (i:=0) rfl rfl rfl yi zbm ya) ?_;refine A0 (zr rfl rfl rfl (Lens.elem (i:=0) ya u64T) za2) ?_;refine A0 (zro rfl rfl) ?_;refine A0 (zy (i:=1) rfl rfl rfl yi zbm ya) ?_;refine A0 (zr rfl rfl rfl (Lens.elem (i:=1) ya u64T) za2) ?_;refine A0 (zro rfl rfl) ?_;refine A0 (zy (i:=2) rfl rfl rfl yi zbm ya) ?_;refine A0 (zr rfl rfl rfl (Lens.elem (i:=2) ya u64T) za2) ?_;refine A0 (zro rfl rfl) ?_;refine A0 (zy (i:=3) rfl rfl rfl yi zbm ya) ?_;refine A0 (zr rfl rfl rfl (Lens.elem (i:=3) ya u64T) za2) ?_;refine A0 (zro rfl rfl) ?_;refine qdE ?_;refine qa1 ?_;refine qaf ?_;refine CNQR ?_;refine qd6 ?_;refine A0 (oCl (divW_ok _ _) rfl fn_277 ye) ?_;refine qaA ?_;refine A0 e32 ?_;refine qa1 ?_;refine qa1 ?_;refine qaf ?_;refine qaf ?_;refine qaL ?_;refine zA [some 1,some 1,some 1,some 1,some 1,some 1000001,none] mixed yc ?_;refine qcO ?_;refine X0 (oCl (zvT 1) rfl zwp yd) ?_;refine X0 (oCl (zu5 _ _) rfl fn_238 ye) ?_;refine qdJ ?_;refine xj ?_;refine XK.e (x:=.idk) (fun fr' hfr kk H=>by exact zg rfl rfl rfl ((hfr 6 yc).trans rfl) rfl (Lens.self _) zag ((hfr 42 yc).trans rfl) (zD H)) ?_;refine qe6 ?_;refine CQR ?_;refine qcu ?_;exact zE rfl rfl rfl rfl zag (by unfold zmq;rw[ut (ua ht16)]<;>rfl)
def hOk (h:Head):Bool:=decide (0<=h.height/\h.height<=1048576)
def zbQ (h:Head):List UInt8:=[zB (zK (IntL.toI i64T h.height)) 4,h.prev,h.links,h.txs,h.past,zeq h.work,zB (zK (IntL.toI u32T h.bits)) 4,zB h.nonce 8].flatten
def zad (h:Head):List UInt8:=if hOk h=true then zbQ h else []
def zaN (h:Head):Ab.Id:=if hOk h=true then zfj ([5]++zbQ h) else zId
def zaa (h:Head):Int:=if zaV h.bits=true/\hOk h=true then (if h.height=0 then 31 else zpO (zaN h) (tgtW h.bits)) else -1
def zfy (h:Head):Wide:=if zaV h.bits=true then zmq (tgtW h.bits) else zaG
def zcf (h:Head):Bool:=!decide (zaa h = -1)
theorem zk0 {h:Head} {ρ:Nat->Value} {B:Nat->Prop} {U N:Nat->Prop} {w:World} {v:Value} (hv:(AV.val zbk h).rel ρ B U N w v):h.prev.length=32/\h.links.length=32/\h.txs.length=32/\h.past.length=32/\h.work.length=4:=by
  obtain⟨cs,⟨_,_,_,_,_,_,_,h1,_,_,_,h2,_,_,_,h3,_,_,_,h4,_,_,_,h5,_⟩,_⟩:=hv;exact⟨h1.1,h2.1,h3.1,h4.1,h5.1⟩
theorem zcE (a:Wide):(zeq a).length=32:=by unfold zeq;simp
theorem hput_ok (h:Head):Tells P 69 [.val zbk h] (.tup2 (.fresh 5 u8T (zad h)) (.val zo (hOk h))):=by
 refine zc Tryz.func69 rfl rfl rfl (fun ext w hext=>?_);refine ze (d:=0) rfl zk0 (fun hh=>?_);obtain⟨hh1,hh2,hh3,hh4,hh5⟩:=hh;refine qbN ?_;refine qbT ?_;refine qb7 ?_;refine A0 zc4 ?_;refine Sp (d:=7) (p:=h.height<0) (fun g7=>?_) (fun g7=>?_)
 .
  refine qaz ?_;refine qcA ?_;refine Ct ?_;refine qbE ?_;exact zG rfl rfl ybH (za rfl (by unfold hOk;symm;apply uh;omega))
 refine qaz ?_;refine A1 (oFp zcI) ?_;refine A1 (oLb zal ty_3) ?_;refine qeK ?_;refine Cf (p:=1048576<h.height) (fun ht12=>?_) (fun ht12=>?_)
 .
  refine qbE ?_;exact zG rfl rfl ybH (za rfl (by unfold hOk;symm;apply uh;omega))
 refine CSQR ?_;refine A0 (oFp zjW) ?_;refine A0 (oLb zeH zag) ?_;refine A0 (oCl (ztB _) rfl fn_137 yd) ?_;refine qaC ?_;refine qaq ?_;refine qdo ?_;refine zel (d:=4) rfl rfl (Lens.self _) ?_;have hbl:=zcE h.work;have hn1:=zF (zK (IntL.toI i64T h.height)) 4;have hn2:=zF (zK (IntL.toI u32T h.bits)) 4;have hn3:=zF h.nonce 8;refine zA [some 1,some 1,some 1,some 1,some 1,some 1,some 1,some 1,some 1,some 1,some 1,some 1,some 1,some 1,some 1,some 1,some 1,some 1,some 1,some 1,some 1,none,some 1,some 1] mixed yc ?_;refine X0 (oFr zcI zal) ?_;refine X0 (zh rfl rfl ty_3) ?_;refine X0 (zg0 rfl (zlp) (us_3) rfl) ?_;refine qcV ?_;refine X0 (oFr zez zbB) ?_;refine qcY ?_;refine X0 (oFr zey zbc) ?_;refine qcY ?_;refine X0 (oFr zfW zcF) ?_;refine qcY ?_;refine X0 (oFr zhw zcZ) ?_;refine qcY ?_;refine qcY ?_;refine X0 (oFr zdg zaX) ?_;refine X0 (zh rfl rfl zbC) ?_;refine X0 (zg0 rfl (zlp) (zqA) rfl) ?_;refine qcV ?_;refine X0 (oFr zgF zcd) ?_;refine X0 (zh rfl rfl za2) ?_;refine X0 (zma (T:=sl u8T) (S:=bsl u8T) (zcT (zu (zla _ 8 yl)) rfl zwq yb3 rfl)) ?_;refine X0 (zW (T:=(bsl u8T)) (xs:=[_,_,_,_,_,_,_,_]) rfl zcK zcQ yah rfl rfl) ?_;refine XK.e (fun fr' hfr kk H=>by exact zao (zg3 [zB (zK (IntL.toI i64T h.height)) 4,h.prev,h.links,h.txs,h.past,zeq h.work,zB (zK (IntL.toI u32T h.bits)) 4,zB h.nonce 8] (by simp[hh1,hh2,hh3,hh4,hbl,hn1,hn2,hn3])) rfl zp3 ⟨(zd ((hfr 36 yc).trans rfl)),trivial⟩ rfl rfl rfl (zD H)) ?_;refine X0 aO ?_;refine X0 aV ?_;refine qe6 ?_;exact zG rfl rfl (zf rfl rfl (by unfold zad;rw[ut (by unfold hOk;rw[uj];omega)];rfl)) (za rfl (by unfold hOk;symm;apply ui;omega))
theorem zoc (h:Head):Tells P 23 [.val zbk h] (.val idT (zaN h)):=by
 refine zc Tryz.func23 rfl rfl rfl (fun ext w hext=>?_);refine ze (d:=0) rfl zk0 (fun hh=>?_);obtain⟨hh1,hh2,hh3,hh4,hh5⟩:=hh;refine qeP ?_;refine qci ?_;refine A0 (oCl (zbi (hput_ok h)) rfl fn_69 yd) ?_;refine qbF ?_;refine qaT ?_;refine zl (p:=¬hOk h=true) rfl (by cases hOk h<;>rfl) (fun ht11=>?_) (fun ht11=>?_)
 .
  refine qeo ?_;exact zE rfl rfl rfl rfl zY (by unfold zaN;rw[ur ht11]<;>rfl)
 refine CSQR ?_;refine qa6 ?_;refine zfi (S:=bsl u8T) (d:=13) rfl ?_;refine qaz ?_;refine zfi (S:=bsl u8T) (d:=14) rfl ?_;refine qbW ?_;refine A0 (oCl (of_ok [[5],zad h] (by unfold zad;split<;>simp[zbQ,hh1,hh2,hh3,hh4,zcE,zF])) rfl fn_70 yd) ?_;refine qbP ?_;exact zE rfl rfl rfl rfl zY (by unfold zaN zad;rw[ut (ua ht11),ut (ua ht11)];simp)
theorem zgk (h:Head):Tells P 123 [.val zbk h] (.val i64T (zaa h)):=by
 refine zc Tryz.func123 rfl rfl rfl (fun ext w hext=>?_);refine qe9 ?_;refine qdG ?_;refine qfi ?_;refine qaL ?_;refine CB ?_;refine qbd ?_;refine A0 oN ?_;refine zX (d:=13) (p:=¬zaV h.bits=true) rfl ybX (fun g13=>?_) (fun g13=>?_)
 .
  refine qad ?_;refine Ct ?_;refine CS ?_;refine Ct ?_;refine qar ?_;exact zb rfl rfl (za rfl (by unfold zaa;rw[ur (by unfold hOk;rw[uj];exact fun h=>g13 h.1)]<;>rfl))
 refine qad ?_;refine Cg ?_;refine CQR ?_;refine qb7 ?_;refine A0 zc4 ?_;refine Sp (d:=16) (p:=h.height<0) (fun g16=>?_) (fun g16=>?_)
 .
  refine qad ?_;refine Ct ?_;refine CS ?_;refine Ct ?_;refine qar ?_;exact zb rfl rfl (za rfl (by unfold zaa;rw[ur (by unfold hOk;rw[uj];omega)]<;>rfl))
 refine qad ?_;refine Cg ?_;refine CR ?_;refine qb7 ?_;refine A0 zcq ?_;refine Sp (d:=19) (p:=1048576<h.height) (fun g19=>?_) (fun g19=>?_)
 .
  refine qad ?_;refine Ct ?_;refine qar ?_;exact zb rfl rfl (za rfl (by unfold zaa;rw[ur (by unfold hOk;rw[uj];omega)]<;>rfl))
 refine qad ?_;refine Cg ?_;refine CQR ?_;refine qb7 ?_;refine A0 zd7 ?_;refine qad ?_;refine Cf (p:=h.height=0) (fun ht20=>?_) (fun ht20=>?_)
 .
  refine qar ?_;exact zb rfl rfl (za rfl (by unfold zaa;rw[ut ⟨ua g13,by unfold hOk;rw[uj];omega⟩,ut ht20]<;>rfl))
 refine qeS ?_;refine qaI ?_;refine G0 (oLs rfl rfl rfl zbZ) ?_;refine G0 (oCl (zoc _) rfl fn_23 yd) ?_;refine G0 (oLs rfl rfl rfl zag) ?_;refine G0 (oCl (levelW_ok _ _) rfl fn_187 ye) ?_;refine qaM ?_;exact zb rfl rfl (za rfl (by unfold zaa;rw[ut ⟨ua g13,by unfold hOk;rw[uj];omega⟩,ur ht20]))
theorem zuw (h:Head):Tells P 184 [.val zbk h] (.val zV (zfy h)):=by
 refine zc Tryz.func184 rfl rfl rfl (fun ext w hext=>?_);refine qeW ?_;refine qdG ?_;refine qfi ?_;refine qfg ?_;refine zl (p:=¬zaV h.bits=true) rfl ybX (fun ht12=>?_) (fun ht12=>?_)
 .
  refine qaO ?_;refine CN ?_;exact zE rfl rfl rfl rfl zag (by unfold zfy;rw[ur ht12]<;>rfl)
 refine CSQR ?_;refine qa5 ?_;refine A0 (oCl (workW_ok _) rfl fn_240 yd) ?_;refine qaf ?_;refine CN ?_;exact zE rfl rfl rfl rfl zag (by unfold zfy;rw[ut (ua ht12)])
theorem zlK (h:Head):Tells P 120 [.val zbk h] (.val zo (zcf h)):=by
 refine zc Tryz.func120 rfl rfl rfl (fun ext w hext=>?_);refine qe9 ?_;refine qci ?_;refine A0 (oCl (zgk _) rfl zwr yd) ?_;refine A0 zd1 ?_;refine qad ?_;exact zb rfl rfl (za rfl rfl)
theorem zuG (l m:List Ab.Id):Tells P 57 [.val (bsl idT) l,.val (bsl idT) m] (.val zo (decide (l=m))):=by
 refine zc Tryz.func57 rfl rfl rfl (fun ext w hext=>?_);refine ze (d:=0) rfl zk (fun hsl0=>?_);refine ze (d:=1) rfl zk (fun hsl1=>?_);refine qcK ?_;refine qbj ?_;refine qaz ?_;refine qbj ?_;refine qaG ?_;refine Cf (p:=¬l.length=m.length) (fun ht10=>?_) (fun ht10=>?_)
 .
  refine qar ?_;exact zb rfl rfl (za rfl (uh (fun e=>ht10 ybI)).symm)
 refine qcb ?_;refine qbj ?_;refine qaF ?_;refine Lp (ι:=Nat) 0 (fun (k:Nat)=>((((Fr.none).set 0 (.val (bsl idT) l)).set 1 (.val (bsl idT) m)).set 12 (.val i64T (l.length:Int))).set 13 (.val i64T (k:Int))) (fun (k:Nat)=>Hp.none) (fun (k:Nat)=>k<=l.length/\l.take k=m.take k) (fun (k:Nat)=>l.length-k) (0) (⟨uf _,by simp⟩) ?_;intro k hinv;refine qap ?_;refine Cf (p:=k<l.length) (fun ht14=>?_) (fun ht14=>?_)
 .
  obtain⟨x,hx⟩:∃x,l[k]?=some x:=⟨_,ub ht14⟩;obtain⟨y,hy⟩:∃y,m[k]?=some y:=yr;refine qbp ?_;refine qc3 ?_;refine qfj ?_;refine qfj ?_;refine G0 (zgY rfl rfl rfl (zix)) ?_;refine GK.nil ?_;refine zl (p:=¬x=y) rfl yw (fun ht24=>?_) (fun ht24=>?_)
  .
   refine qar ?_;exact zb rfl rfl (za rfl (uh (zd8 hx hy ht24)).symm)
  refine qbt ?_;exact Nx (k+1) (⟨by omega,zbN hx hy hinv.2 (by simpa using ht24)⟩) ya
 refine qcs ?_;exact zb rfl rfl (za rfl (ui yI).symm)
theorem equalIn (l m:List In):Tells P 188 [.val (bsl inT) l,.val (bsl inT) m] (.val zo (decide (l=m))):=by
 refine zc Tryz.func188 rfl rfl rfl (fun ext w hext=>?_);refine ze (d:=0) rfl zk (fun hsl0=>?_);refine ze (d:=1) rfl zk (fun hsl1=>?_);refine qcK ?_;refine A0 (zaC rfl rfl zjq) ?_;refine qaz ?_;refine A0 (zaC rfl rfl zjq) ?_;refine qaG ?_;refine Cf (p:=¬l.length=m.length) (fun ht10=>?_) (fun ht10=>?_)
 .
  refine qar ?_;exact zb rfl rfl (za rfl (uh (fun e=>ht10 ybI)).symm)
 refine qcb ?_;refine A0 (zaC rfl rfl zjq) ?_;refine qaF ?_;refine Lp (ι:=Nat) 0 (fun (k:Nat)=>((((Fr.none).set 0 (.val (bsl inT) l)).set 1 (.val (bsl inT) m)).set 12 (.val i64T (l.length:Int))).set 13 (.val i64T (k:Int))) (fun (k:Nat)=>Hp.none) (fun (k:Nat)=>k<=l.length/\l.take k=m.take k) (fun (k:Nat)=>l.length-k) (0) (⟨uf _,by simp⟩) ?_;intro k hinv;refine qap ?_;refine Cf (p:=k<l.length) (fun ht14=>?_) (fun ht14=>?_)
 .
  obtain⟨x,hx⟩:∃x,l[k]?=some x:=⟨_,ub ht14⟩;obtain⟨y,hy⟩:∃y,m[k]?=some y:=yr;refine qbp ?_;refine qc3 ?_;refine qdV ?_;refine qdV ?_;refine G0 (zgY rfl rfl rfl (zuH)) ?_;refine GK.nil ?_;refine zl (p:=¬x=y) rfl yw (fun ht24=>?_) (fun ht24=>?_)
  .
   refine qar ?_;exact zb rfl rfl (za rfl (uh (zd8 hx hy ht24)).symm)
  refine qbt ?_;exact Nx (k+1) (⟨by omega,zbN hx hy hinv.2 (by simpa using ht24)⟩) ya
 refine qcs ?_;exact zb rfl rfl (za rfl (ui yI).symm)
theorem equalOut (l m:List Out):Tells P 189 [.val (bsl outT) l,.val (bsl outT) m] (.val zo (decide (l=m))):=by
 refine zc Tryz.func189 rfl rfl rfl (fun ext w hext=>?_);refine ze (d:=0) rfl zk (fun hsl0=>?_);refine ze (d:=1) rfl zk (fun hsl1=>?_);refine qcK ?_;refine qdz ?_;refine qaz ?_;refine qdz ?_;refine qaG ?_;refine Cf (p:=¬l.length=m.length) (fun ht10=>?_) (fun ht10=>?_)
 .
  refine qar ?_;exact zb rfl rfl (za rfl (uh (fun e=>ht10 ybI)).symm)
 refine qcb ?_;refine qdz ?_;refine qaF ?_;refine Lp (ι:=Nat) 0 (fun (k:Nat)=>((((Fr.none).set 0 (.val (bsl outT) l)).set 1 (.val (bsl outT) m)).set 12 (.val i64T (l.length:Int))).set 13 (.val i64T (k:Int))) (fun (k:Nat)=>Hp.none) (fun (k:Nat)=>k<=l.length/\l.take k=m.take k) (fun (k:Nat)=>l.length-k) (0) (⟨uf _,by simp⟩) ?_;intro k hinv;refine qap ?_;refine Cf (p:=k<l.length) (fun ht14=>?_) (fun ht14=>?_)
 .
  obtain⟨x,hx⟩:∃x,l[k]?=some x:=⟨_,ub ht14⟩;obtain⟨y,hy⟩:∃y,m[k]?=some y:=yr;refine qbp ?_;refine qc3 ?_;refine qbl ?_;refine G0 (zct rfl rfl rfl zua yj) ?_;refine G0 (zh rfl rfl zjl) ?_;refine qbl ?_;refine G0 (zct rfl rfl rfl zua yj) ?_;refine G0 (zh rfl rfl zjl) ?_;refine G0 (zgY rfl rfl rfl (eqt_258)) ?_;refine GK.nil ?_;refine zl (p:=¬x=y) rfl yw (fun ht24=>?_) (fun ht24=>?_)
  .
   refine qar ?_;exact zb rfl rfl (za rfl (uh (zd8 hx hy ht24)).symm)
  refine qbt ?_;exact Nx (k+1) (⟨by omega,zbN hx hy hinv.2 (by simpa using ht24)⟩) ya
 refine qcs ?_;exact zb rfl rfl (za rfl (ui yI).symm)
theorem ziB (l:List Ab.Id) (hl:l.length*32<=140737488355328/\l.length<=9223372036854775807):Tells P 80 [.val (bsl idT) l] (.fresh 49 idT l):=by
 refine zc Tryz.func80 rfl rfl rfl (fun ext w hext=>?_);refine ze (d:=0) rfl zk (fun hsl0=>?_);refine qdK ?_;refine zfB rfl rfl rfl rfl rfl zdn (fun c4 hc4=>?_);refine CN ?_;refine zl (p:=c4=true) rfl yw (fun ht4=>?_) (fun ht4=>?_)
 .
  obtain rfl:=hc4 ht4;refine qfu ?_;exact zb rfl rfl (zs rfl)
 refine CSQR ?_;refine zbg (T:=idT) (xs:=[]) rfl rfl rfl rfl zce zeo trivial rfl rfl ?_;refine qaz ?_;refine zp rfl rfl rfl rfl rfl rfl rfl zeo yaD ?_;refine qbG ?_;exact zb rfl rfl (zf rfl rfl yw)
theorem zqe (l:List Total) (hl:l.length*72<=140737488355328/\l.length<=9223372036854775807):Tells P 182 [.val (bsl zar) l] (.fresh 197 zar l):=by
 refine zc Tryz.func182 rfl rfl rfl (fun ext w hext=>?_);refine ze (d:=0) rfl zk (fun hsl0=>?_);refine qdK ?_;refine zfB rfl rfl rfl rfl rfl zpS (fun c4 hc4=>?_);refine CN ?_;refine zl (p:=c4=true) rfl yw (fun ht4=>?_) (fun ht4=>?_)
 .
  obtain rfl:=hc4 ht4;refine qfu ?_;exact zb rfl rfl (zs rfl)
 refine CSQR ?_;refine zbg (T:=zar) (xs:=[]) rfl rfl rfl rfl zfu zgd trivial rfl rfl ?_;refine qaz ?_;refine zp rfl rfl rfl rfl rfl rfl rfl zgd yaD ?_;refine qbG ?_;exact zb rfl rfl (zf rfl rfl yw)
theorem cloneIn (l:List In) (hl:l.length*40<=140737488355328/\l.length<=9223372036854775807):Tells P 229 [.val (bsl inT) l] (.fresh 256 inT l):=by
 refine zc Tryz.func229 rfl rfl rfl (fun ext w hext=>?_);refine ze (d:=0) rfl zk (fun hsl0=>?_);refine qdK ?_;refine zfB rfl rfl rfl rfl rfl zjq (fun c4 hc4=>?_);refine CN ?_;refine zl (p:=c4=true) rfl yw (fun ht4=>?_) (fun ht4=>?_)
 .
  obtain rfl:=hc4 ht4;refine qfu ?_;exact zb rfl rfl (zs rfl)
 refine CSQR ?_;refine zbg (T:=inT) (xs:=[]) rfl rfl rfl rfl znw row_98 trivial rfl rfl ?_;refine qaz ?_;refine zp rfl rfl rfl rfl rfl rfl rfl row_98 yaD ?_;refine qbG ?_;exact zb rfl rfl (zf rfl rfl yw)
theorem zwH (l:List Out) (hl:l.length*16<=140737488355328/\l.length<=9223372036854775807):Tells P 230 [.val (bsl outT) l] (.fresh 258 outT l):=by
 refine zc Tryz.func230 rfl rfl rfl (fun ext w hext=>?_);refine ze (d:=0) rfl zk (fun hsl0=>?_);refine qdK ?_;refine zfB rfl rfl rfl rfl rfl isl_99 (fun c4 hc4=>?_);refine CN ?_;refine zl (p:=c4=true) rfl yw (fun ht4=>?_) (fun ht4=>?_)
 .
  obtain rfl:=hc4 ht4;refine qfu ?_;exact zb rfl rfl (zs rfl)
 refine CSQR ?_;refine zbg (T:=outT) (xs:=[]) rfl rfl rfl rfl zua row_99 trivial rfl rfl ?_;refine qaz ?_;refine zp rfl rfl rfl rfl rfl rfl rfl row_99 yaD ?_;refine qbG ?_;exact zb rfl rfl (zf rfl rfl yw)
theorem cloneTx (l:List Tx) (hl:l.length*48<=140737488355328/\l.length<=9223372036854775807):Tells P 251 [.val (bsl txT) l] (.fresh 101 txT l):=by
 refine zc Tryz.func251 rfl rfl rfl (fun ext w hext=>?_);refine ze (d:=0) rfl zk (fun hsl0=>?_);refine qdK ?_;refine zfB rfl rfl rfl rfl rfl isl_57 (fun c4 hc4=>?_);refine CN ?_;refine zl (p:=c4=true) rfl yw (fun ht4=>?_) (fun ht4=>?_)
 .
  obtain rfl:=hc4 ht4;refine qfu ?_;exact zb rfl rfl (zs rfl)
 refine CSQR ?_;refine zbg (T:=txT) (xs:=[]) rfl rfl rfl rfl zsk zvB trivial rfl rfl ?_;refine qaz ?_;refine zp rfl rfl rfl rfl rfl rfl rfl zvB yaD ?_;refine qbG ?_;exact zb rfl rfl (zf rfl rfl yw)
theorem indexId (l:List Ab.Id) (v:Ab.Id):Tells P 122 [.val (bsl idT) l,.val idT v] (.val i64T (idx (fun x=>decide (v=x)) l)):=by
 refine zc Tryz.func122 rfl rfl rfl (fun ext w hext=>?_);refine ze (d:=0) rfl zk (fun hsl0=>?_);refine qae ?_;refine qag ?_;refine qbj ?_;refine qaF ?_;refine Lp (ι:=Nat) 1 (fun (k:Nat)=>(((((Fr.none).set 0 (.val (bsl idT) l)).set 3 (.ptr 0 0)).set 6 (.val (bsl idT) l)).set 7 (.val i64T (l.length:Int))).set 8 (.val i64T (k:Int))) (fun (k:Nat)=>(Hp.none).set 0 (.box 49 idT v)) (fun (k:Nat)=>k<=l.length/\idx (fun x=>decide (v=x)) l=shift k (idx (fun x=>decide (v=x)) (l.drop k))) (fun (k:Nat)=>l.length-k) (0) (⟨uf _,zcC _ l⟩) ?_;intro k hinv;refine qap ?_;refine Cf (p:=k<l.length) (fun ht9=>?_) (fun ht9=>?_)
 .
  obtain⟨x,hx⟩:∃x,l[k]?=some x:=yaN;refine qbp ?_;refine qc3 ?_;refine G0 (oLs rfl rfl rfl zY) ?_;refine qfj ?_;refine G0 (zgZ rfl rfl rfl (zix)) ?_;refine GK.nil ?_;refine zl (p:=(decide (v=x))=true) rfl yw (fun ht16=>?_) (fun ht16=>?_)
  .
   refine qd3 ?_;exact zb rfl rfl (za rfl (hinv.2.trans (zgA hx ht16)).symm)
  refine qbt ?_;exact Nx (k+1) (⟨by omega,hinv.2.trans (zjs hx ht16)⟩) ya
 refine qcs ?_;exact zb rfl rfl (za rfl (hinv.2.trans (zfU ya)).symm)
theorem containsId (l:List Ab.Id) (v:Ab.Id):Tells P 185 [.val (bsl idT) l,.val idT v] (.val zo (l.any fun x=>decide (v=x))):=by
 refine zc Tryz.func185 rfl rfl rfl (fun ext w hext=>?_);refine ze (d:=0) rfl zk (fun hsl0=>?_);refine qae ?_;refine qaR ?_;refine qbf ?_;refine A0 (oCl (indexId _ _) rfl fn_122 ye) ?_;refine qfs ?_;exact zb rfl rfl (za rfl (zio _ l))
theorem equalFTx (l m:List Tx):Tells P 125 [.val (bsl txT) l,.val (bsl txT) m,.fn2 P txT txT zo (fun x y=>decide (x=y))] (.val zo (decide (l=m))):=by
 refine zc Tryz.func125 rfl rfl rfl (fun ext w hext=>?_);refine ze (d:=0) rfl zk (fun hsl0=>?_);refine ze (d:=1) rfl zk (fun hsl1=>?_);refine qcK ?_;refine qdH ?_;refine qaz ?_;refine qdH ?_;refine qaG ?_;refine Cf (p:=¬l.length=m.length) (fun ht14=>?_) (fun ht14=>?_)
 .
  refine qar ?_;exact zb rfl rfl (za rfl (uh (fun e=>ht14 ybI)).symm)
 refine qcb ?_;refine qdH ?_;refine qaF ?_;refine Lp (ι:=Nat) 0 (fun (k:Nat)=>((((((Fr.none).set 0 (.val (bsl txT) l)).set 1 (.val (bsl txT) m)).set 2 (.fn2 P txT txT zo (fun x y=>decide (x=y)))).set 15 (.val (bsl txT) l)).set 16 (.val i64T (l.length:Int))).set 17 (.val i64T (k:Int))) (fun (k:Nat)=>Hp.none) (fun (k:Nat)=>k<=l.length/\l.take k=m.take k) (fun (k:Nat)=>l.length-k) (0) (⟨uf _,by simp⟩) ?_;intro k hinv;refine qap ?_;refine Cf (p:=k<l.length) (fun ht18=>?_) (fun ht18=>?_)
 .
  obtain⟨x,hx⟩:∃x,l[k]?=some x:=⟨_,ub ht18⟩;obtain⟨y,hy⟩:∃y,m[k]?=some y:=yr;refine qbp ?_;refine qbz ?_;refine A0 aV ?_;refine qdb ?_;refine CNQR ?_;refine qal ?_;refine qbz ?_;refine qdb ?_;refine CNQR ?_;refine A0 mH ?_;refine qcD ?_;refine qcD ?_;refine A0 (zm6 rfl rfl yk yk) ?_;refine qaT ?_;refine zl (p:=¬x=y) rfl yw (fun ht30=>?_) (fun ht30=>?_)
  .
   refine qar ?_;exact zb rfl rfl (za rfl (uh (zd8 hx hy ht30)).symm)
  refine qbt ?_;exact Nx (k+1) (⟨by omega,zbN hx hy hinv.2 (by simpa using ht30)⟩) ya
 refine qcs ?_;exact zb rfl rfl (za rfl (ui yI).symm)
theorem zoE (a b:Tx):Tells P 126 [.val txT a,.val txT b] (.val zo (decide (a=b))):=by
 refine zc Tryz.func126 rfl rfl rfl (fun ext w hext=>?_);refine qeJ ?_;refine qdQ ?_;refine qdQ ?_;refine A0 (oCl (equalIn _ _) rfl fn_188 ye) ?_;refine Sp (d:=9) (p:=a.ins=b.ins) (fun g9=>?_) (fun g9=>?_)
 .
  refine qaz ?_;refine qc9 ?_;refine qc9 ?_;refine A1 (oCl (equalOut _ _) rfl fn_189 ye) ?_;refine qaE ?_;exact zb rfl rfl (za rfl yaj)
 refine qaz ?_;refine qer ?_;exact zb rfl rfl (za rfl (by symm;apply uh;intro h;exact g9 yaY))
def halfN (n:Nat):Nat:=2^(zam (n-1)-1)
theorem zgl (n:Nat):0<halfN n:=Nat.two_pow_pos _
theorem ziq {n:Nat} (h:2<=n):halfN n<n:=by
  unfold halfN zam;rw[ur ya,Nat.add_sub_cancel]
  have:=Nat.log2_self_le (n:=n-1) ya
  omega
theorem half_eq {n:Nat} (h:2<=n) (hn:n<4398046511104):IntKind.i64.wrap (1*2^(min (IntL.toI i64T (((zam (zK (IntL.toI i64T ((n:Int)-1))).toNat:Nat):Int)-1)).toNat 64))=(halfN n:Nat):=by
  have e1:(zK (IntL.toI i64T ((n:Int)-1))).toNat=n-1:=by
    unfold zK;show(UInt64.ofNat (((n:Int)-1)%18446744073709551616).toNat).toNat=n-1;rw[toNat_ofNat_of_lt' yQ];omega
  have hb:=zg9 (s:=42) (n:=n-1) ya;have hp:2^(zam (n-1)-1)<=2^42:=Nat.pow_le_pow_right yl ya;rw[e1];have e2:(IntL.toI i64T (((zam (n-1):Nat):Int)-1)).toNat=zam (n-1)-1:=by
    show(((zam (n-1):Nat):Int)-1).toNat=_;omega
  rw[e2,min_eq_left ya,Int.one_mul];have e3:(2:Int)^(zam (n-1)-1)=((2^(zam (n-1)-1):Nat):Int):=yw;rw[e3];show _=((2^(zam (n-1)-1):Nat):Int);obtain⟨q,hq⟩:∃q,q=2^(zam (n-1)-1):=⟨_,rfl⟩;rw[<-hq] at hp ⊢;exact z8 ya
theorem bitLen_one {n:Nat} (h:2<=n) (hn:n<4398046511104):1<=zam (zK (IntL.toI i64T ((n:Int)-1))).toNat/\zam (zK (IntL.toI i64T ((n:Int)-1))).toNat<=42:=by
  have e1:(zK (IntL.toI i64T ((n:Int)-1))).toNat=n-1:=by
    unfold zK;show(UInt64.ofNat (((n:Int)-1)%18446744073709551616).toNat).toNat=n-1;rw[toNat_ofNat_of_lt' yQ];omega
  rw[e1];refine⟨?_,zg9 ya⟩;unfold zam;rw[ur ya];omega
theorem half_ok (n:Nat) (h:2<=n) (hn:n<4398046511104):Tells P 102 [.val i64T (n:Int)] (.val i64T (halfN n:Nat)):=by
 obtain⟨hb1,hb2⟩:=bitLen_one h hn;refine zc Tryz.func102 rfl rfl rfl (fun ext w hext=>?_);refine ze (d:=0) rfl zz (fun hin0=>?_);refine qe8 ?_;refine qfv ?_;refine qe0 ?_;refine A0 (oCl (lenU_ok _) rfl fn_169 yd) ?_;refine qfv ?_;refine A0 (g_shlI rfl rfl rfl ybc rfl) ?_;refine qad ?_;exact zb rfl rfl (za rfl (half_eq h hn))
def zpQ (b:List UInt8):Ab.Id:=zfj ([0]++b)
theorem leaf_ok (b:List UInt8) (hb:b.length<=1000000):Tells P 236 [.val (bsl u8T) b] (.val idT (zpQ b)):=by
 refine zc Tryz.func236 rfl rfl rfl (fun ext w hext=>?_);refine ze (d:=0) rfl zk (fun hsl0=>?_);refine qbH ?_;refine qa6 ?_;refine zfi (S:=bsl u8T) (d:=3) rfl ?_;refine qaz ?_;refine qbW ?_;refine A0 (oCl (of_ok [[0],b] yB) rfl fn_70 yd) ?_;refine qbP ?_;exact zE rfl rfl rfl rfl zY (by unfold zpQ;simp)
def zfw (a b:Ab.Id):List UInt8:=[1]++a++b
def zsM (a b:Ab.Id):Ab.Id:=zfj (zfw a b)
theorem zt3 (a b:Ab.Id) (ha:a.length=32) (hb:b.length=32):Tells P 204 [.val (arrT 2 yl idT) [a,b]] (.fresh 5 u8T (zfw a b)):=by
 refine zc Tryz.func204 rfl rfl rfl (fun ext w hext=>?_);refine qbN ?_;refine qdo ?_;have e0:([a,b]:List Ab.Id)[0]?=some a:=rfl;have e1:([a,b]:List Ab.Id)[1]?=some b:=rfl;refine xc ?_;refine qd0 ?_;refine X0 (g_ia_ra (i:=0) rfl rfl rfl yi ziH yj) ?_;refine qcY ?_;refine X0 (g_ia_ra (i:=1) rfl rfl rfl yi ziH yj) ?_;refine qcY ?_;refine qc0 ?_;refine XK.e (fun fr' hfr kk H=>by exact zao (zg3 [[1],a,b] yB) rfl zp3 ⟨(zd ((hfr 8 yc).trans rfl)),trivial⟩ rfl rfl rfl (zD H)) ?_;refine X0 aO ?_;refine qe6 ?_;exact zb rfl rfl (zf rfl rfl (by unfold zfw;simp))
theorem zup (a b:Ab.Id):Tells P 159 [.val idT a,.val idT b] (.val idT (zsM a b)):=by
 refine zc Tryz.func159 rfl rfl rfl (fun ext w hext=>?_);refine ze (d:=0) rfl zhE (fun ha=>?_);refine ze (d:=1) rfl zhE (fun hb=>?_);refine qav ?_;refine qaC ?_;refine CNQR ?_;refine qbf ?_;refine qbf ?_;refine A0 (ziV (T:=idT) (xs:=[_,_]) rfl ziH ze_246 yao rfl) ?_;refine A0 (oCl (zu (zt3 a b ha hb)) rfl fn_204 yd) ?_;refine A0 (oCl (zvo (zfw a b) (by unfold zfw;simp;omega)) rfl fn_25 yd) ?_;refine qbP ?_;exact zE rfl rfl rfl rfl zY (rfl)
def zfm (l:List Ab.Id):Ab.Id:=if l.length=0 then zfj [2] else if h1:l.length<=1 then l.headD zId else zsM (zfm (l.take (halfN l.length))) (zfm (l.drop (halfN l.length)))
termination_by l.length
decreasing_by
  . have:=ziq (n:=l.length) ya;simp;omega
  have:=zgl l.length;simp;omega
theorem zqT (l:List Ab.Id) (hl:l.length<4398046511104):Tells P 103 [.val (bsl idT) l] (.val idT (zfm l)):=by
 refine zc Tryz.func103 rfl rfl rfl (fun ext w hext=>?_);refine ze (d:=0) rfl zk (fun hsl0=>?_);refine CQR ?_;refine qaC ?_;refine qbD ?_;refine qbj ?_;refine CNB ?_;refine CQR ?_;refine A0 zd7 ?_;refine qad ?_;refine Cf (p:=l.length=0) (fun ht6=>?_) (fun ht6=>?_)
 .
  refine CQR ?_;refine qa6 ?_;refine A0 (oCl (zvo [2] yl) rfl fn_25 yd) ?_;refine qbP ?_;exact zE rfl rfl rfl rfl zY (by rw[zfm,ut ht6])
 refine CQR ?_;refine A0 zd7 ?_;refine qad ?_;refine Cf (p:=l.length=1) (fun ht10=>?_) (fun ht10=>?_)
 .
  obtain⟨x,hx⟩:∃x,l[0]?=some x:=yr;refine qb1 ?_;refine A0 (zx (i:=0) rfl rfl rfl ya zce yj) ?_;refine qeQ ?_;refine qbP ?_;exact zE rfl rfl rfl rfl zY ybd
 have hp:=zgl l.length;have hh:=ziq (n:=l.length) ya;refine qeS ?_;refine qb1 ?_;refine qbj ?_;refine A0 (oCl (half_ok l.length ya ya) rfl fn_102 yd) ?_;refine qaL ?_;refine xd ?_;refine qbC ?_;refine qcS ?_;refine X0 (oCl (zqT (l.take (halfN l.length)) yB) rfl zwu yd) ?_;refine qbC ?_;refine X0 (zjt rfl rfl rfl zce yh) ?_;refine X0 (oCl (zqT (l.drop (halfN l.length)) yB) rfl zwu yd) ?_;refine X0 (oCl (zup _ _) rfl fn_159 ye) ?_;refine XK.e (x:=.idk) (fun fr' hfr kk H=>by exact zg rfl rfl rfl ((hfr 2 yc).trans rfl) rfl (Lens.self _) zY ((hfr 26 yc).trans rfl) (zD H)) ?_;refine qe6 ?_;exact zE rfl rfl rfl rfl zY (by conv=>rhs;rw[zfm,ur ht6,dif_neg ya])
termination_by l.length
decreasing_by
  all_goals (simp;omega)
theorem zi1 {t:Total} {ρ:Nat->Value} {B:Nat->Prop} {U N:Nat->Prop} {w:World} {v:Value} (hv:(AV.val zar t).rel ρ B U N w v):t.h.length=32/\t.w.length=4:=by
  obtain⟨cs,⟨_,_,_,h1,_,_,_,h2,_⟩,_⟩:=hv;exact⟨h1.1,h2.1⟩
def zcP (t:Total):List UInt8:=[t.h,zeq t.w,zB (zK (IntL.toI i64T t.n)) 4].flatten
theorem zft {t:Total} (h:t.h.length=32):(zcP t).length=68:=by unfold zcP;simp[h,zcE,zF]
def zkL (a b:Total):Total:=⟨zfj ([3]++zcP a++zcP b),addW a.w b.w,IntKind.i64.wrap (a.n+b.n)⟩
def leafT (id:Ab.Id) (w:Wide):Total:=⟨id,w,1⟩
def zfx (id:Ab.Id):Ab.Id:=zpQ id
def zc5 (l:List Ab.Id):Ab.Id:=zfm (l.map zfx)
def zpp (l:List Tx):Ab.Id:=zfm (l.map idOf)
theorem zlX (t:Total) (hh:t.h.length=32):Tells P 239 [.val zar t] (.fresh 5 u8T (zcP t)):=by
 refine zc Tryz.func239 rfl rfl rfl (fun ext w hext=>?_);refine qbN ?_;refine CNQR ?_;refine qdp ?_;refine A0 (oCl (ztB _) rfl fn_137 yd) ?_;refine qaC ?_;refine qaq ?_;refine qdo ?_;refine zel (d:=3) rfl rfl (Lens.self _) ?_;have hbl:=zcE t.w;have hn:=zF (zK (IntL.toI i64T t.n)) 4;refine xq ?_;refine X0 (oFr zeg zcY) ?_;refine qcY ?_;refine qcY ?_;refine X0 (oFr zef zcX) ?_;refine X0 (zh rfl rfl ty_3) ?_;refine X0 (zg0 rfl (zlp) (us_3) rfl) ?_;refine qcV ?_;refine qc0 ?_;refine XK.e (fun fr' hfr kk H=>by exact zao (zg3 [t.h,zeq t.w,zB (zK (IntL.toI i64T t.n)) 4] (by simp[hh,hbl,hn])) rfl zp3 ⟨(zd ((hfr 14 yc).trans rfl)),trivial⟩ rfl rfl rfl (zD H)) ?_;refine X0 aO ?_;refine qe6 ?_;exact zb rfl rfl (zf rfl rfl rfl)
theorem mleaf_ok (id:Ab.Id) (w:Wide):Tells P 183 [.val idT id,.val zV w] (.val zar (leafT id w)):=by
 refine zc Tryz.func183 rfl rfl rfl (fun ext w hext=>?_);refine qav ?_;refine qcm ?_;refine CNQR ?_;refine qbf ?_;refine qa5 ?_;refine A0 (zJ rfl zlW zql (.cons zeg zcY zY rfl (.cons ziX zhd zag rfl (.cons zef zcX ty_3 rfl .nil))) rfl) ?_;refine qgg ?_;exact zE rfl rfl rfl rfl za9 (rfl)
theorem join_ok (a b:Total):Tells P 181 [.val zar a,.val zar b] (.val zar (zkL a b)):=by
 refine zc Tryz.func181 rfl rfl rfl (fun ext w hext=>?_);refine ze (d:=0) rfl zi1 (fun ha=>?_);refine ze (d:=1) rfl zi1 (fun hb=>?_);refine qav ?_;refine qcm ?_;refine CNQR ?_;refine qdp ?_;refine qdp ?_;refine A0 (oCl (zu5 _ _) rfl fn_238 ye) ?_;refine qcM ?_;refine qaL ?_;refine zA [some 1,some 1,some 1,some 1,some 1,some 1,some 1,some 1,some 1,some 1,some 1,some 1,some 1,some 1,none] mixed yc ?_;refine qd0 ?_;refine X0 (oLs rfl rfl rfl za9) ?_;refine X0 (zma (T:=sl u8T) (S:=bsl u8T) (zcT (zu (zlX a ha.1)) rfl fn_239 yd rfl)) ?_;refine X0 (oLs rfl rfl rfl za9) ?_;refine X0 (zma (T:=sl u8T) (S:=bsl u8T) (zcT (zu (zlX b hb.1)) rfl fn_239 yd rfl)) ?_;refine qc0 ?_;refine X0 (oCl (of_ok [[3],zcP a,zcP b] (by simp[zft ha.1,zft hb.1])) rfl fn_70 yd) ?_;refine qcO ?_;refine qeZ ?_;refine qeZ ?_;refine X0 zhZ ?_;refine X0 (zJ rfl zlW zql (.cons zeg zcY zY rfl (.cons ziX zhd zag rfl (.cons zef zcX ty_3 rfl .nil))) rfl) ?_;refine XK.e (x:=.idk) (fun fr' hfr kk H=>by exact zg rfl rfl rfl ((hfr 4 yc).trans rfl) rfl (Lens.self _) za9 ((hfr 28 yc).trans rfl) (zD H)) ?_;refine qe6 ?_;exact zE rfl rfl rfl rfl za9 (by unfold zkL;simp)
theorem zn6 (id:Ab.Id):Tells P 179 [.val idT id] (.val idT (zfx id)):=by
 refine zc Tryz.func179 rfl rfl rfl (fun ext w hext=>?_);refine ze (d:=0) rfl zhE (fun hid=>?_);refine qae ?_;refine qaC ?_;refine qdo ?_;refine CR ?_;refine qbJ ?_;refine A0 (oCl (leaf_ok id ya) rfl fn_236 yd) ?_;refine qbP ?_;exact zE rfl rfl rfl rfl zY (rfl)
theorem mapped_ok (l:List Ab.Id) (f:Ab.Id->Ab.Id) (hl:l.length<=4000000000000):Tells P 178 [.val (bsl idT) l,.fn1 P idT idT f] (.fresh 49 idT (l.map f)):=by
 refine zc Tryz.func178 rfl rfl rfl (fun ext w hext=>?_);refine ze (d:=0) rfl zk (fun hsl0=>?_);refine qeR ?_;refine qbD ?_;refine qbj ?_;refine qaF ?_;refine za7 (T:=idT) (d:=5) 49 rfl ?_;refine Lp (ι:=Nat) 1 (fun (k:Nat)=>((((((Fr.none).set 0 (.val (bsl idT) l)).set 1 (.fn1 P idT idT f)).set 5 (.own 0)).set 8 (.val (bsl idT) l)).set 9 (.val i64T (l.length:Int))).set 10 (.val i64T (k:Int))) (fun (k:Nat)=>(Hp.none).set 0 (.row 49 idT ((l.take k).map f))) (fun (k:Nat)=>k<=l.length) (fun (k:Nat)=>l.length-k) (0) (uf _) ?_;intro k hinv;refine qap ?_;refine Cf (p:=k<l.length) (fun ht11=>?_) (fun ht11=>?_)
 .
  obtain⟨x,hx⟩:∃x,l[k]?=some x:=ybv;refine qeh ?_;refine A0 (zct rfl rfl rfl zce yj) ?_;refine qeQ ?_;refine qaC ?_;refine qaq ?_;refine qdA ?_;refine A0 mF ?_;refine qbf ?_;refine A0 (zkV rfl rfl yk) ?_;refine qaJ ?_;refine qam ?_;refine zco 2 0 3 rfl rfl rfl rfl rfl rfl ?_;refine zq (n:=0) (y:=(l.take (k+1)).map f) rfl (by rw[un,hx];simp) ?_;exact Nx (k+1) ya ya
 refine qa8 ?_;exact zb rfl rfl (zf rfl rfl yO)
theorem zjO (l:List Ab.Id) (hl:l.length<=4000000000000):Tells P 114 [.val (bsl idT) l] (.val idT (zc5 l)):=by
 refine zc Tryz.func114 rfl rfl rfl (fun ext w hext=>?_);refine ze (d:=0) rfl zk (fun hsl0=>?_);refine qbH ?_;refine qaz ?_;refine A0 (oCl (zu (mapped_ok l zfx hl)) rfl fn_178 ⟨yk,(by first|exact zdO (Cs:=[]) rfl fn_179 yC trivial rfl (fun x=>zn6 x)|exact zdN (Cs:=[]) rfl fn_179 yC trivial rfl (fun x y=>zn6 x)|exact zdP rfl),trivial⟩) ?_;refine A0 (oCl (zqT (l.map zfx) yB) rfl zwu yd) ?_;refine qbP ?_;exact zE rfl rfl rfl rfl zY (rfl)
theorem leads_ok (l:List Ab.Id) (prev id:Ab.Id):Tells P 119 [.val (bsl idT) l,.val idT prev,.val idT id] (.val zo (decide (prev=id)||l.any fun x=>decide (id=x))):=by
 refine zc Tryz.func119 rfl rfl rfl (fun ext w hext=>?_);refine ze (d:=0) rfl zk (fun hsl0=>?_);refine qeJ ?_;refine qfP ?_;refine Sp (d:=9) (p:=prev=id) (fun g9=>?_) (fun g9=>?_)
 .
  refine qf6 ?_;refine qaE ?_;exact zb rfl rfl (za rfl (by simp[g9]))
 refine qaz ?_;refine qfY ?_;refine A1 (oLs rfl rfl rfl zY) ?_;refine A1 (oCl (containsId _ _) rfl fn_185 ye) ?_;refine qaE ?_;exact zb rfl rfl (za rfl (by simp[g9]))
theorem zr3 (l:List Tx) (hl:l.length<=4000000000000):Tells P 115 [.val (bsl txT) l] (.val idT (zpp l)):=by
 refine zc Tryz.func115 rfl rfl rfl (fun ext w hext=>?_);refine ze (d:=0) rfl zk (fun hsl0=>?_);refine qbH ?_;refine A0 aL ?_;refine qbD ?_;refine qdH ?_;refine qaF ?_;refine qfL ?_;refine Lp (ι:=Nat) 2 (fun (k:Nat)=>(((((Fr.none).set 2 (.ptr 0 0)).set 3 (.own 1)).set 6 (.val (bsl txT) l)).set 7 (.val i64T (l.length:Int))).set 8 (.val i64T (k:Int))) (fun (k:Nat)=>((Hp.none).set 0 (.box 49 idT zId)).set 1 (.row 49 idT ((l.take k).map idOf))) (fun (k:Nat)=>k<=l.length) (fun (k:Nat)=>l.length-k) (0) (uf _) ?_;intro k hinv;refine qap ?_;refine Cf (p:=k<l.length) (fun ht9=>?_) (fun ht9=>?_)
 .
  obtain⟨x,hx⟩:∃x,l[k]?=some x:=yaN;refine qeh ?_;refine qbz ?_;refine qdb ?_;refine qdA ?_;refine qcD ?_;refine A0 (oCl (id_ok _) rfl fn_44 yd) ?_;refine qaJ ?_;refine qam ?_;refine qc8 ?_;refine zq (n:=1) (y:=(l.take (k+1)).map idOf) rfl (by rw[un,hx];simp) ?_;exact Nx (k+1) ya ya
 obtain rfl:k=l.length:=ya;refine zhV (d:=3) rfl rfl ?_;refine zj (d:=3) (y:=l.map idOf) rfl (by rw[List.take_length]) ?_;refine qaU ?_;refine qaz ?_;refine A0 (oCl (zqT (l.map idOf) yB) rfl zwu yd) ?_;refine qbP ?_;exact zE rfl rfl rfl rfl zY (rfl)
def zge:List Total->Total->Total
  | [],x=>x
  | y::r,x=>zge r (zkL y x)
def zfb (p:List Total):Total:=match p.reverse with
  | []=>⟨zfj [4],zaG,0⟩
  | x::r=>zge r x
def zmw:List Total->Total->List Total
  | [],x=>[x]
  | y::r,x=>if y.n=x.n then zmw r (zkL y x) else x::y::r
def zb9 (p:List Total) (leaf:Total):List Total:=(zmw p.reverse leaf).reverse
theorem zn2:zfb []=⟨zfj [4],zaG,0⟩:=rfl
theorem zpL {p:List Total} {x:Total} {n:Nat} (hn:p.length=n+1) (hx:p[n]?=some x):zfb p=zge (p.take n).reverse x:=by
  have e:p=p.take n++[x]:=by
    have:=un (l:=p) (i:=n)
    rw[uc ya,hx] at this;simpa using this
  unfold zfb
  conv=>lhs;rw[e]
  simp
theorem zkq {p:List Total} {k:Nat} {x y:Total} (hx:p[k]?=some x):zge (p.take (k+1)).reverse y=zge (p.take k).reverse (zkL x y):=by
  rw[un,hx];simp[zge]
theorem zpK (p:List Total) (hp:p.length<=1000000):Tells P 116 [.val (bsl zar) p] (.val zar (zfb p)):=by
 refine zc Tryz.func116 rfl rfl rfl (fun ext w hext=>?_);refine ze (d:=0) rfl zk (fun hsl0=>?_);refine qfU ?_;refine Cf (p:=p.length=0) (fun ht8=>?_) (fun ht8=>?_)
 .
  obtain rfl:p=[]:=List.length_eq_zero_iff.1 ht8;refine CQR ?_;refine qa6 ?_;refine A0 (oCl (zvo [4] yl) rfl fn_25 yd) ?_;refine A0 (zJ rfl zlW zql (.cons zeg zcY zY rfl .nil) rfl) ?_;refine qgg ?_;exact zE rfl rfl rfl rfl za9 (zn2.symm)
 obtain⟨n,hn⟩:∃n,p.length=n+1:=⟨p.length-1,by omega⟩;obtain⟨x0,hx0⟩:∃x,p[n]?=some x:=yr;have hroot:=zpL hn hx0;refine qej ?_;refine qen ?_;refine qfv ?_;refine A0 (zx (i:=n) rfl rfl rfl ya zfu yj) ?_;refine A0 (zh rfl rfl za9) ?_;refine qcm ?_;refine qbk ?_;refine CNQQR ?_;refine qal ?_;refine qen ?_;refine qfv ?_;refine A0 yaV ?_;refine zj (d:=22) (y:=p.take n) rfl (by congr 1;omega) ?_;refine z6 rfl rfl rfl rfl Tryz.func180 fn_180 rfl rfl (fun ia1 iok1=>?_);refine qbN ?_;refine qcI ?_;refine CNB ?_;refine zi8 rfl rfl rfl Tryz.func237 fn_237 rfl rfl yH (fun fid2 ca2 lN2 DN2 cok2 rc2 hrc2=>?_);refine CQR ?_;refine A0 (oLs rfl rfl rfl zqC) ?_;refine qen ?_;refine qfv ?_;refine qco ?_;refine zj (d:=3) (y:=(n:Int)-1) rfl yB ?_;refine Lp (ι:=Nat×Total) 5 (fun(k,y)=>((Fr.none.set 0 (.lit (.func (.yield lN2) #[] #[]))).set 1 (.ptr 2 0)).set 3 (.val i64T ((k:Int)-1))) (fun(k,y)=>((((Hp.none.set 0 (.box 197 zar zvc)).set 1 (.box 197 zar y)).set 2 (.box 60 (bsl zar) (p.take n))).set 3 (.objAt DN2 (.deferred (some [])))).set 4 (.objAt lN2 (rc2 .ready none))) (fun(k,y)=>k<=n/\zfb p=zge (p.take k).reverse y) (fun(k,y)=>k) ((n,x0)) (⟨ug _,hroot⟩) ?_;intro⟨k,y⟩ hinv;dsimp only at hinv;refine qfR ?_;refine Cf (p:=0<k) (fun ht8=>?_) (fun ht8=>?_)
 .
  obtain⟨x,hx⟩:∃x,(p.take n)[k-1]?=some x:=⟨_,ub yB⟩;have hx2:p[k-1]?=some x:=by rw[List.getElem?_take] at hx;split at hx;exact hx;cases hx
  refine qeh ?_;refine A0 mL ?_;refine qaz ?_;refine A0 (oLs rfl rfl rfl zqC) ?_;refine qaz ?_;refine A0 (zx (i:=k-1) rfl rfl rfl ya zfu yj) ?_;refine A0 (zh rfl rfl za9) ?_;refine zi7 (nL:=4) rfl rfl rfl rfl rfl hrc2 rfl rfl rfl (fun ya3 yok3=>?_);refine CR ?_;refine qcm ?_;refine qgg ?_;refine zjb (nL:=4) hrc2 rfl ?_;refine CB ?_;refine CR ?_;refine A0 (oLs rfl rfl rfl za9) ?_;refine A0 (oLs rfl rfl rfl za9) ?_;refine A0 (oCl (join_ok _ _) rfl fn_181 ye) ?_;refine qgg ?_;refine CI ?_;refine zdV (nL:=4) hrc2 rfl ?_;refine qaT ?_;refine Cg ?_;refine qeX ?_;refine zj (d:=3) (y:=((k-1:Nat):Int)-1) rfl ya ?_;exact Nx ((k-1,zkL x y)) (⟨by omega,by rw[hinv.2,show k=k-1+1 by omega,zkq hx2];rfl⟩) (by show k-1<k;omega)
 obtain rfl:k=0:=ya;refine CE ?_;refine ze2 (nL:=4) rfl hrc2 rfl yl ?_;refine CI ?_;refine CQR ?_;refine A0 (oLs rfl rfl rfl za9) ?_;refine qgg ?_;refine zaA (zcp (nD:=3) rfl rfl rfl ?_);exact zrP rfl rfl rfl rfl za9 (by rw[hinv.2];rfl)
theorem zl9 (p:List Total) (leaf:Total) (hp:p.length<=1000000):Tells P 117 [.val (bsl zar) p,.val zar leaf] (.fresh 197 zar (zb9 p leaf)):=by
 refine zc Tryz.func117 rfl rfl rfl (fun ext w hext=>?_);refine ze (d:=0) rfl zk (fun hsl0=>?_);refine qbN ?_;refine CN ?_;refine zwO (ι:=List Total×Total) 2 0 rfl rfl rfl (fun (i:List Total×Total)=>match i with|(r,x)=>((Fr.none).set 3 (.ptr 0 0)).set 5 (.own 1)) (fun (i:List Total×Total)=>match i with|(r,x)=>((Hp.none).set 0 (.box 197 zar leaf)).set 1 (.row 197 zar (r.reverse++[x]))) (fun (i:List Total×Total)=>match i with|(r,x)=>r.length<=1000000/\zmw r x=zmw p.reverse leaf) (fun (i:List Total×Total)=>match i with|(r,x)=>r.length) ?_ (fun hreach=>?_)
 .
  intro⟨r,x⟩ hinv;dsimp only at hinv;refine qdP ?_;refine A0 (zbS rfl rfl rfl zpS) ?_;refine zj (d:=13) (y:=((r.length+1:Nat):Int)) rfl yw ?_;refine qaL ?_;refine qdO ?_;refine G0 zc4 ?_;refine zaj (d:=15) (p:=r=[]) rfl (by rw[uo];show((r.length+1:Nat):Int)<2↔_;rw[<-List.length_eq_zero_iff];omega) (fun g15=>?_) (fun g15=>?_)
  .
   refine G0 mV ?_;refine qac ?_;refine qdN ?_;refine qaY ?_;refine Ct ?_;refine qdP ?_;refine qbG ?_;exact zb rfl rfl (zf rfl rfl (by unfold zb9;rw[<-hinv.2,g15];rfl))
  obtain⟨y,s,hr⟩:∃y s,r=y::s:=by cases r with|nil=>exact absurd rfl g15|cons y s=>exact⟨y,s,rfl⟩
  have hrl:r.length=s.length+1:=by rw[hr];rfl
  have hx1:(r.reverse++[x])[s.length]?=some y:=by rw[hr];simp
  have hx2:(r.reverse++[x])[s.length+1]?=some x:=by rw[List.getElem?_append_right (by simp[hrl])];simp[hrl]
  refine G0 mV ?_;refine G1 mO ?_;refine G1 mV ?_;refine G1 zc3 ?_;refine G1 (zau (i:=s.length) rfl rfl rfl rfl yi zfu yh) ?_;refine G1 (zoo rfl rfl zef rfl) ?_;refine G1 (zc8 rfl rfl rfl rfl yj zcX ty_3) ?_;refine G1 mO ?_;refine G1 mV ?_;refine G1 zc3 ?_;refine G1 (zau (i:=s.length+1) rfl rfl rfl rfl yi zfu yh) ?_;refine G1 (zoo rfl rfl zef rfl) ?_;refine G1 (zc8 rfl rfl rfl rfl yj zcX ty_3) ?_;refine G1 zd1 ?_;refine qaY ?_;refine zl (p:=¬y.n=x.n) rfl yx (fun ht30=>?_) (fun ht30=>?_)
  .
   refine qdP ?_;refine qbG ?_;exact zb rfl rfl (zf rfl rfl (by unfold zb9;rw[<-hinv.2,hr,zmw,ur ht30];simp))
  refine qfE ?_;refine zA [some 1,some 1,some 1,some 1,some 1,some 1,some 1,some 1,some 1,some 1,some 1,some 1,some 1,some 1,some 1,some 1,none,some 1] mixed yc ?_;refine qdm ?_;refine X0 zc3 ?_;refine X0 (zpZ (q:=s.length) rfl rfl rfl rfl zfu yi yh) ?_;refine qdm ?_;refine X0 zc3 ?_;refine X0 (zau (i:=s.length) rfl rfl rfl rfl yi zfu yh) ?_;refine X0 (zc8 rfl rfl rfl rfl yj (Lens.self _) za9) ?_;refine qdm ?_;refine X0 zc3 ?_;refine X0 (zau (i:=s.length+1) rfl rfl rfl rfl yi zfu yh) ?_;refine X0 (zc8 rfl rfl rfl rfl yj (Lens.self _) za9) ?_;refine X0 (oCl (join_ok _ _) rfl fn_181 ye) ?_;refine X0 (zW (T:=zar) (xs:=[_]) rfl zfu zgd yA rfl rfl) ?_;refine XK.e (fun fr' hfr kk H=>by exact zrO rfl rfl rfl rfl ((hfr 35 yc).trans rfl) ((hfr 47 yc).trans rfl) rfl zgd yB (zD H)) ?_;refine X0 aS ?_;refine qe6 ?_;refine ztI (d:=5) rfl rfl rfl yB ?_;refine qc7 ?_;refine zq (n:=1) (y:=s.reverse++[zkL y x]) rfl (by simp[hr,List.take_append];exact uc yw) ?_;exact aw_goto ((s,zkL y x)) rfl (⟨by omega,by rw[<-hinv.2,hr,zmw,ut (ua ht30)]⟩) (by show s.length<r.length;omega) rfl (by (repeat refine Fr.le_set ?_ yaM);exact Fr.le_none _) (by (repeat refine Hp.le_set ?_ rfl);exact Hp.le_none _) (by (repeat refine Fr.below_setB ?_ rfl);exact Fr.below_none _) (by (repeat refine Hp.below_set ?_ yl);exact Hp.below_none _)
 refine CQ ?_;refine zA [some 1,none,some 2,some 2,none,some 1] mixed yc ?_;refine X0 mV ?_;refine XK.e (fun fr' hfr kk H=>by exact zao (zqe p yV) rfl fn_182 ⟨(zd ((hfr 7 yc).trans rfl)),trivial⟩ rfl rfl rfl (zD H)) ?_;refine XK.gb (t:=3) rfl rfl (fun _ he=>zr rfl rfl he (Lens.self _) za9) rfl yA rfl rfl rfl ?_;refine XK.g2 (zW (T:=zar) (xs:=[_]) rfl zfu zgd yA rfl rfl) (zW (T:=zar) (xs:=[_]) rfl zfu zgd yA rfl rfl) rfl rfl rfl ?_;refine XK.e (fun fr' hfr kk H=>by exact zp rfl rfl rfl rfl ((hfr 8 yc).trans rfl) rfl ((hfr 10 yc).trans rfl) zgd yB (zD H)) ?_;refine X0 aO ?_;refine qe6 ?_;refine CQR ?_;refine qaL ?_;refine qc7 ?_;refine zq (n:=1) (y:=p.reverse.reverse++[leaf]) rfl yw ?_;exact zwQ hreach ((p.reverse,leaf)) rfl (⟨by simp;omega,rfl⟩) rfl (by (repeat refine Fr.le_set ?_ yaM);exact Fr.le_none _) (by (repeat refine Hp.le_set ?_ rfl);exact Hp.le_none _) (by (repeat refine Fr.below_setB ?_ rfl);exact Fr.below_none _) (by (repeat refine Hp.below_set ?_ yl);exact Hp.below_none _)
theorem growNilId (n:Nat) (hn:n<=1000000):Tells P 327 [.lit (.slice none 0 0),.val i64T (n:Int)] (.fresh 49 idT []):=by
 refine zc Tryz.func327 rfl rfl rfl (fun ext w hext=>?_);refine ze (d:=1) rfl zz (fun hin1=>?_);refine qdK ?_;refine qa7 ?_;refine zgH rfl (uh (by show ¬((n:Int)<0);omega)) ?_;refine qcb ?_;refine A0 mL ?_;refine A0 (zkU rfl rfl zdn) ?_;refine A0 mL ?_;refine qc5 ?_;refine qfv ?_;refine qfv ?_;refine qaR ?_;refine qc2 ?_;refine zl (p:=0<n) rfl yax (fun ht16=>?_) (fun ht16=>?_)
 .
  refine CR ?_;refine A0 mL ?_;refine A0 mL ?_;refine A0 (zkU rfl rfl zdn) ?_;refine A0 yaW ?_;refine qaz ?_;refine zqr (T:=idT) (n:=n) rfl rfl rfl rfl rfl rfl yaP zeo ze_49 (ui_3) (⟨by assumption,by omega,by omega⟩) ?_;refine A0 mL ?_;refine qc5 ?_;refine A0 (zpZ (q:=0) rfl rfl rfl rfl zce yi yh) ?_;refine A0 aS ?_;refine CNQR ?_;refine A0 mS ?_;refine A0 aS ?_;refine CN ?_;exact zb rfl rfl (znO rfl rfl yB rfl)
 refine CSQR ?_;refine A0 mL ?_;refine A0 aL ?_;refine CN ?_;exact zb rfl rfl (zs rfl)
theorem concatId (ls:List (List Ab.Id)) (hl:ls.flatten.length<=1000000):Tells P 280 [.val (bsl (bsl idT)) ls] (.fresh 49 idT ls.flatten):=by
 refine zc Tryz.func280 rfl rfl rfl (fun ext w hext=>?_);refine ze (d:=0) rfl zk (fun hsl0=>?_);refine qbQ ?_;refine qag ?_;refine A0 (zaC rfl rfl isl_391) ?_;refine qaF ?_;refine Lp (ι:=Nat) 0 (fun (k:Nat)=>(((((Fr.none).set 0 (.val (bsl (bsl idT)) ls)).set 3 (.val i64T ((ls.take k).flatten.length:Int))).set 9 (.val (bsl (bsl idT)) ls)).set 10 (.val i64T (ls.length:Int))).set 11 (.val i64T (k:Int))) (fun (k:Nat)=>Hp.none) (fun (k:Nat)=>k<=ls.length) (fun (k:Nat)=>ls.length-k) (0) (uf _) ?_;intro k hinv;refine qap ?_;refine Cf (p:=k<ls.length) (fun ht12=>?_) (fun ht12=>?_)
 .
  obtain⟨x,hx⟩:∃x,ls[k]?=some x:=⟨_,ub ht12⟩;have hle:=zgo ls (k+1);rw[zbL hx,ue] at hle;refine qeh ?_;refine A0 (zct rfl rfl rfl sl_391 yj) ?_;refine A0 (zh rfl rfl zcl) ?_;refine qcR ?_;refine qaz ?_;refine A0 mX ?_;refine qc5 ?_;refine qfX ?_;refine qaR ?_;refine qa7 ?_;refine zgH rfl (uh ybi) ?_;refine qbt ?_;refine zj (d:=3) (y:=((ls.take (k+1)).flatten.length:Int)) rfl (by rw[zbL hx,ue];omega) ?_;exact Nx (k+1) ya ya
 refine zj (d:=3) (y:=((ls.flatten.length:Nat):Int)) rfl yO ?_;refine qaU ?_;refine qaz ?_;refine zao (growNilId ls.flatten.length hl) rfl fn_327 yb3 rfl rfl rfl ?_;refine A0 aO ?_;refine qbD ?_;refine A0 (zaC rfl rfl isl_391) ?_;refine qaF ?_;refine Lp (ι:=Nat) 1 (fun k=>(((Fr.none.set 6 (.own 0)).set 25 (.val (bsl (bsl idT)) ls)).set 26 (.val i64T (ls.length:Int))).set 27 (.val i64T (k:Int))) (fun k=>Hp.none.set 0 (.row 49 idT (ls.take k).flatten)) (fun k=>k<=ls.length) (fun k=>ls.length-k) (0) (uf _) ?_;intro k hinv;refine qap ?_;refine Cf (p:=k<ls.length) (fun ht28=>?_) (fun ht28=>?_)
 .
  obtain⟨x,hx⟩:∃x,ls[k]?=some x:=⟨_,ub ht28⟩;have hle:=zgo ls (k+1);rw[zbL hx,ue] at hle;refine qeh ?_;refine A0 (zct rfl rfl rfl sl_391 yj) ?_;refine A0 (zh rfl rfl zcl) ?_;refine A0 aX ?_;refine qdA ?_;refine A0 mX ?_;refine zp rfl rfl rfl rfl rfl rfl rfl zeo ya ?_;refine qem ?_;refine qbI ?_;refine zq (n:=0) rfl (zbL hx).symm ?_;exact Nx (k+1) ya ya
 refine qa8 ?_;exact zb rfl rfl (zf rfl rfl yO)
def mulM (x y:UInt64):UInt64:=zax x 32*(y&&&4294967295)+zax ((x&&&4294967295)*(y&&&4294967295)) 32
def mulHi (x y:UInt64):UInt64:=zax x 32*zax y 32+zax (mulM x y) 32+zax ((mulM x y&&&4294967295)+(x&&&4294967295)*zax y 32) 32
theorem mul64_ok (x y:UInt64):Tells P 361 [.val u64T x,.val u64T y] (.tup2 (.val u64T (mulHi x y)) (.val u64T (x*y))):=by
 refine zc Tryz.func361 rfl rfl rfl (fun ext w hext=>?_);refine CQR ?_;refine qfx ?_;refine A0 (zrr rfl rfl rfl) ?_;refine qaR ?_;refine xb ?_;refine qaR ?_;refine A0 (zrr rfl rfl rfl) ?_;refine qaR ?_;refine xb ?_;refine qbL ?_;refine qeH ?_;refine qbL ?_;refine qeH ?_;refine qaz ?_;refine xb ?_;refine qeI ?_;refine qaR ?_;refine A0 (zrr rfl rfl rfl) ?_;refine qaR ?_;refine xb ?_;refine qbL ?_;refine qaz ?_;refine qeH ?_;refine qeI ?_;refine qbL ?_;refine qeH ?_;refine qaz ?_;refine qeI ?_;refine qaz ?_;refine xb ?_;refine qeI ?_;refine qbL ?_;refine qeH ?_;refine qad ?_;exact zG rfl rfl (za rfl rfl) (za rfl rfl)
theorem mulU_ok (x y:UInt64):Tells P 328 [.val u64T x,.val u64T y] (.tup2 (.val u64T (mulHi x y)) (.val u64T (x*y))):=by
 refine zc Tryz.func328 rfl rfl rfl (fun ext w hext=>?_);refine CQR ?_;refine A0 aV ?_;refine qaL ?_;refine Cg ?_;refine qej ?_;refine A0 (oCl (mul64_ok _ _) rfl fn_361 ye) ?_;refine qaA ?_;refine A0 aV ?_;refine qbL ?_;refine qb2 ?_;exact zG rfl rfl (za rfl rfl) (za rfl rfl)
theorem mulHi_one {n:Nat} (h:n<=1000000):mulHi 1 (zK (IntL.toI i64T (n:Int)))=0:=by
  have e:(zK (IntL.toI i64T (n:Int))).toNat=n:=by
    unfold zK;show(UInt64.ofNat ((n:Int)%18446744073709551616).toNat).toNat=n;rw[toNat_ofNat_of_lt' yQ];omega
  obtain⟨y,hy⟩:∃y,y=zK (IntL.toI i64T (n:Int)):=⟨_,rfl⟩;rw[<-hy] at e ⊢;have a1:zax (1:UInt64) 32=0:=yl;have a2:zax y 32=0:=by
    apply toNat_inj.1;rw[zbr y yl,e];show n/4294967296=0;omega
  have a3:y&&&4294967295=y:=by
    apply toNat_inj.1;rw[UInt64.toNat_and,e];show n&&&(2^32-1)=n;rw[Nat.and_two_pow_sub_one_eq_mod];omega
  have a4:(1:UInt64)&&&4294967295=1:=yl;unfold mulHi mulM;rw[a1,a2,a3,a4,one_mul,a2];simp;rfl
theorem mulLo_one {n:Nat} (h:n<=1000000):IntKind.i64.wrap (IntL.toI u64T (1*zK (IntL.toI i64T (n:Int))))=(n:Int):=by
  have e:(zK (IntL.toI i64T (n:Int))).toNat=n:=by
    unfold zK;show(UInt64.ofNat ((n:Int)%18446744073709551616).toNat).toNat=n;rw[toNat_ofNat_of_lt' yQ];omega
  rw[one_mul];show IntKind.i64.wrap (((zK (IntL.toI i64T (n:Int))).toNat:Nat):Int)=n;rw[e,z8 ya]
theorem u64_small {n:Nat} (h:n<=1000000):(zK (IntL.toI i64T (n:Int))).toNat=n:=by
  unfold zK;show(UInt64.ofNat ((n:Int)%18446744073709551616).toNat).toNat=n;rw[toNat_ofNat_of_lt' yQ];omega
theorem rep_step {x:Ab.Id} {l:List Ab.Id} {i m N:Nat} (hl:l.length=N) (hi:i+m<=N) (hm:m<=i) (h:l.take i=List.replicate i x):(l.take i++(l.take i).take m++l.drop (i+m)).take (i+m)=List.replicate (i+m) x:=by
  rw[h,List.take_replicate,min_eq_left hm,<-List.replicate_append_replicate,List.take_append_of_le_length yw,uc yw]
theorem repeatId (x:Ab.Id) (n:Nat) (hn:1<=n/\n<=1000):Tells P 281 [.val (bsl idT) [x],.val i64T (n:Int)] (.fresh 49 idT (List.replicate n x)):=by
 refine zc Tryz.func281 rfl rfl rfl (fun ext w hext=>?_);refine ze (d:=0) rfl zk (fun hsl0=>?_);refine ze (d:=1) rfl zz (fun hin1=>?_);refine qdK ?_;refine qa7 ?_;refine zgH rfl (uh ybi) ?_;refine qbY ?_;refine qbj ?_;refine qe0 ?_;refine qaz ?_;refine qe0 ?_;refine A0 (oCl (mulU_ok 1 (zK (IntL.toI i64T (n:Int)))) rfl fn_328 ye) ?_;refine A0 mX ?_;refine qbO ?_;refine zj (d:=19) (y:=(0:UInt64)) rfl (mulHi_one ya) ?_;refine qcg ?_;refine A0 aV ?_;refine qag ?_;refine A0 zcq ?_;refine zlc (d:=22) rfl (rfl) ?_;refine qaz ?_;refine qca ?_;refine zlc (d:=25) rfl (uh (by rw[one_mul];show ¬((9223372036854775807:Int)<(((zK (IntL.toI i64T (n:Int))).toNat:Nat):Int));rw[u64_small ya];omega)) ?_;refine qat ?_;refine Cg ?_;refine qbY ?_;refine A0 (zhs rfl (ui_3) (us_234) rfl (mulLo_one ya)) ?_;refine zwR (T:=idT) (n:=n) rfl rfl rfl rfl rfl rfl yi yi zeo ze_49 ⟨by omega,by omega,(show(n)*32<=16777216 by omega)⟩ ?_;refine qby ?_;refine qaz ?_;refine aw_copy_o rfl rfl rfl rfl rfl rfl rfl zeo (m:=1) yB yB ?_;refine A0 aX ?_;refine CNQ ?_;refine CB ?_;refine Lp (ι:=Nat×List Ab.Id) 1 (fun (i:Nat×List Ab.Id)=>match i with|(i,l)=>((Fr.none).set 7 (.own 0)).set 8 (.val i64T (i:Int))) (fun (i:Nat×List Ab.Id)=>match i with|(i,l)=>(Hp.none).set 0 (.row 49 idT l)) (fun (i:Nat×List Ab.Id)=>match i with|(i,l)=>l.length=n/\1<=i/\i<=n/\l.take i=List.replicate i x) (fun (i:Nat×List Ab.Id)=>match i with|(i,l)=>n-i) ((1,[x]++(List.replicate n zId).drop 1)) (⟨by simp;omega,by omega,by omega,by simp⟩) ?_;intro⟨i,l⟩ hinv;dsimp only at hinv;refine qbd ?_;refine A0 mO ?_;refine A0 (zbS rfl rfl rfl zdn) ?_;refine qa7 ?_;refine zl (p:=i<n) rfl (by rw[uo];simp only[IntL.toI,id_eq,hinv.1];omega) (fun ht37=>?_) (fun ht37=>?_)
 .
  refine CS ?_;refine CB ?_;refine zA [some 1000001,some 1,some 1,some 1,some 1,some 1,some 1,none,some 1,some 1] mixed yc ?_;refine XK.ga (fun _=>g_mv (.inl rfl) rfl) rfl rfl rfl ?_;refine qdm ?_;refine X0 (g_os_l (p:=i) rfl rfl rfl rfl zce yi yh) ?_;refine qdm ?_;refine X0 (zpZ (q:=i) rfl rfl rfl rfl zce yi yh) ?_;refine XK.e (fun fr' hfr kk H=>by exact aw_copy_in rfl rfl rfl rfl ((hfr 41 yc).trans rfl) ((hfr 44 yc).trans rfl) rfl zeo (m:=min i (n-i)) ya ya (zD H)) ?_;refine X0 zhZ ?_;refine X0 aV ?_;refine qe6 ?_;refine CI ?_;exact Nx ((i+min i (n-i),l.take i++(l.take i).take (min i (n-i))++l.drop (i+min i (n-i)))) (⟨by simp;omega,by omega,by omega,rep_step hinv.1 ya ya hinv.2.2.2⟩) (by show n-(i+min i (n-i))<n-i;omega)
 refine qa8 ?_;exact zb rfl rfl (zf rfl rfl (by have h:=hinv.2.2.2;rw[uc ya] at h;rw[h];congr 1;omega))
def zd9 (l:List Ab.Id) (id:Ab.Id) (level:Int):List Ab.Id:=if 32<l.length then [] else if l.length=0 then [id] else if level<1 then l else l.take 1++List.replicate (min level 31).toNat id++l.drop ((min level 31).toNat+1)
theorem zus (l:List Ab.Id) (id:Ab.Id) (level:Int):Tells P 245 [.val (bsl idT) l,.val idT id,.val i64T level] (.fresh 49 idT (zd9 l id level)):=by
 refine zc Tryz.func245 rfl rfl rfl (fun ext w hext=>?_);refine ze (d:=0) rfl zk (fun hsl0=>?_);refine ze (d:=2) rfl zz (fun hin2=>?_);refine qbN ?_;refine CNQ ?_;refine CB ?_;refine qb1 ?_;refine qbj ?_;refine A0 zcq ?_;refine Sp (d:=12) (p:=32<l.length) (fun g12=>?_) (fun g12=>?_)
 .
  refine qad ?_;refine Ct ?_;refine qfu ?_;exact zb rfl rfl (by unfold zd9;rw[ut g12];exact zs rfl)
 refine qad ?_;refine Cg ?_;refine qb1 ?_;refine qbj ?_;refine A0 zd7 ?_;refine Sp (d:=16) (p:=l.length=0) (fun g16=>?_) (fun g16=>?_)
 .
  refine qad ?_;refine Ct ?_;refine CQR ?_;refine qbf ?_;refine zbg (T:=idT) (xs:=[_]) rfl rfl rfl rfl zce zeo yA rfl rfl ?_;refine qbG ?_;exact zb rfl rfl (zf rfl rfl (by unfold zd9;rw[ur g12,ut g16]))
 refine qad ?_;refine Cg ?_;refine qb1 ?_;refine A0 zc4 ?_;refine Sp (d:=21) (p:=level<1) (fun g21=>?_) (fun g21=>?_)
 .
  refine qad ?_;refine Ct ?_;refine qb1 ?_;refine zao (ziB l yV) rfl zs9 yd rfl rfl rfl ?_;refine qbG ?_;exact zb rfl rfl (zf rfl rfl (by unfold zd9;rw[ur g12,ur g16,ut g21]))
 refine qad ?_;refine Cg ?_;refine qeS ?_;refine qb1 ?_;refine A0 (g_min rfl rfl rfl) ?_;refine A0 (zuz rfl rfl rfl (show _=((((min level 31).toNat+1:Nat):Int):Int) from(z8 ya).trans ya)) ?_;refine qaL ?_;refine xq ?_;refine X0 mV ?_;refine qcS ?_;refine qfN ?_;refine qdv ?_;refine X0 mV ?_;refine X0 (zgC rfl rfl rfl (show _=(((min level 31).toNat:Int):Int) from(z8 ya).trans ya)) ?_;refine X0 (zma (T:=sl idT) (S:=bsl idT) (zcT (zu (repeatId id (min level 31).toNat ya)) rfl fn_281 ye rfl)) ?_;refine X0 (zW (T:=(bsl idT)) (xs:=[_,_]) rfl sl_391 row_391 yao rfl rfl) ?_;refine XK.e (fun fr' hfr kk H=>by exact zao (concatId [l.take 1,List.replicate (min level 31).toNat id] yB) rfl fn_280 ⟨(zd ((hfr 34 yc).trans rfl)),trivial⟩ rfl rfl rfl (zD H)) ?_;refine X0 aO ?_;refine qe6 ?_;refine qbd ?_;refine qbj ?_;refine qaz ?_;refine qc2 ?_;refine Cf (p:=(min level 31).toNat+1<l.length) (fun ht39=>?_) (fun ht39=>?_)
 .
  refine qcU ?_;refine qal ?_;refine A0 (zjt rfl rfl rfl zce yh) ?_;refine zp rfl rfl rfl rfl rfl rfl rfl zeo yB ?_;refine qby ?_;refine qbG ?_;exact zb rfl rfl (zf rfl rfl (by unfold zd9;rw[ur g12,ur g16,ur g21];simp;omega))
 refine qee ?_;refine qbG ?_;exact zb rfl rfl (zf rfl rfl (by unfold zd9;rw[ur g12,ur g16,ur g21,List.drop_of_length_le ya];simp))
def zgj:Nat->Head->Option Head
  | 0,_=>none
  | n+1,h=>if zcf h=true then some h else zgj n { h with nonce:=h.nonce+1 }
def zik (h:Head) (tries:Int):Option Head:=zgj (min tries 200).toNat h
theorem zkH {n:Nat} {h:Head} (hn:0<n) (hm:¬zcf h=true):zgj n h=zgj (n-1) { h with nonce:=h.nonce+1 }:=by
  obtain⟨m,rfl⟩:∃m,n=m+1:=⟨n-1,by omega⟩;rw[zgj,ur hm];rfl
theorem zil {n:Nat} {h:Head} (hn:0<n) (hm:zcf h=true):zgj n h=some h:=by
  obtain⟨m,rfl⟩:∃m,n=m+1:=⟨n-1,by omega⟩;rw[zgj,ut hm]
theorem mine_ok (h:Head) (tries:Int):Tells P 231 [.val zbk h,.val i64T tries] (.tup2 (.val zbk ((zik h tries).getD h)) (.val zo (zik h tries).isSome)):=by
 refine zc Tryz.func231 rfl rfl rfl (fun ext w hext=>?_);refine ze (d:=1) rfl zz (fun hin1=>?_);refine qae ?_;refine qce ?_;refine zN ze_4 rfl rfl rfl rfl ?_;refine CNQQR ?_;refine qci ?_;refine qaz ?_;refine z6 rfl rfl rfl rfl Tryz.func272 fn_272 rfl rfl (fun ia1 iok1=>?_);refine qav ?_;refine A0 aL ?_;refine CNQR ?_;refine qfK ?_;refine A0 aC ?_;refine CN ?_;refine zcx rfl ?_;refine CNB ?_;refine zi8 rfl rfl rfl Tryz.func322 fn_322 rfl rfl y5 (fun fid2 ca2 lN2 DN2 cok2 rc2 hrc2=>?_);refine CQR ?_;refine A0 (oLs rfl rfl rfl ty_3) ?_;refine A0 (g_min rfl rfl rfl) ?_;refine qaF ?_;refine Lp (ι:=Nat×Head) 7 (fun(k,g)=>((((Fr.none.set 0 (.lit (.func (.yield lN2) #[] #[]))).set 1 (.ptr 4 0)).set 2 (.ptr 3 0)).set 5 (.val i64T (min tries 200))).set 6 (.val i64T (k:Int))) (fun(k,g)=>((((((Hp.none.set 0 (.box 55 zbk h)).set 1 (.box 55 zbk zlm)).set 2 (.box 4 zo false)).set 3 (.box 55 zbk g)).set 4 (.box 3 i64T tries)).set 5 (.objAt DN2 (.deferred (some [])))).set 6 (.objAt lN2 (rc2 .ready none))) (fun(k,g)=>k<=(min tries 200).toNat/\zik h tries=zgj ((min tries 200).toNat-k) g) (fun(k,g)=>(min tries 200).toNat-k) ((0,h)) (⟨uf _,rfl⟩) ?_;intro⟨k,g⟩ hinv;dsimp only at hinv;refine qap ?_;refine Cf (p:=(k:Int)<min tries 200) (fun ht7=>?_) (fun ht7=>?_)
 .
  refine qaS ?_;refine CQQR ?_;refine A0 mL ?_;refine qci ?_;refine zi7 (nL:=6) rfl rfl rfl rfl rfl hrc2 rfl rfl rfl (fun ya3 yok3=>?_);refine CR ?_;refine qce ?_;refine qaK ?_;refine CN ?_;refine zjb (nL:=6) hrc2 rfl ?_;refine qgf ?_;refine qci ?_;refine A0 (oCl (zlK _) rfl fn_120 yd) ?_;refine CN ?_;refine zl (p:=zcf g=true) rfl yw (fun ht12=>?_) (fun ht12=>?_)
  .
   refine CQR ?_;refine qci ?_;refine qaK ?_;refine zg rfl rfl rfl rfl rfl (Lens.self _) ty_4 rfl ?_;refine CN ?_;refine zml (nL:=6) hrc2 rfl ?_;refine qaT ?_;refine Ct ?_;refine zhJ (nL:=6) rfl hrc2 rfl yl ?_;refine zaA (zcp (nD:=5) rfl rfl rfl ?_);exact zld rfl rfl (zm rfl rfl zbZ (by rw[hinv.2,zil ya ht12];rfl)) (zm rfl rfl ty_4 (by rw[hinv.2,zil ya ht12];rfl))
  refine qeS ?_;refine zdV (nL:=6) hrc2 rfl ?_;refine qaT ?_;refine Cg ?_;refine CS ?_;refine CR ?_;refine A0 (oFp zgF) ?_;refine A0 (oLb zcd za2) ?_;refine qeI ?_;refine A0 (oFp zgF) ?_;refine zg rfl rfl rfl rfl rfl zcd za2 rfl ?_;refine qb8 ?_;exact Nx ((k+1,{ g with nonce:=g.nonce+1 })) (⟨by omega,by rw[hinv.2,zkH ya ht12];rfl⟩) (by show(min tries 200).toNat-(k+1)<(min tries 200).toNat-k;omega)
 refine CE ?_;refine ze2 (nL:=6) rfl hrc2 rfl yl ?_;refine CI ?_;refine CQR ?_;refine qci ?_;refine qaK ?_;refine zg rfl rfl rfl rfl rfl (Lens.self _) ty_4 rfl ?_;refine CN ?_;refine zaA (zcp (nD:=5) rfl rfl rfl ?_);exact zld rfl rfl (zm rfl rfl zbZ (by rw[hinv.2,show(min tries 200).toNat-k=0 by omega];rfl)) (zm rfl rfl ty_4 (by rw[hinv.2,show(min tries 200).toNat-k=0 by omega];rfl))
end Go.Proofs.YtikaeepohlkjdaaGreat
