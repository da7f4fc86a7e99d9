/- Parts of the proof: the layer that reads Go values as data, and what the functions of the program tell. -/
import Derived.Laws.CopyRow
import Derived.RangeFuncRecord
import Derived.Shelf.SlSortCmp.NoneTotal
import Derived.WideKeyArgs
import Derived.ChangeOld
import Derived.Handed
import Derived.JoinedOf
import Derived.Carry
import Derived.RowKit
import Derived.MapKept
import Derived.Maps.RangeRun
import Derived.Shelf.Sort.Plain
import Derived.Shelf.Slices.In.SortNone
import Derived.Laws.IdiomStrings
import Derived.Lib.BufferRead
import Derived.RecoverIn
import Derived.TacticsIn
import Derived.Test.YtikaeepohlkjdaaGreatK2
open Array (getD_eq_getD_getElem? length_toList toList_append toList_map)
open List (all_append all_cons append_nil drop_drop drop_left' ext_getElem? flatMap_cons length_drop mapM_cons map_cons map_nil mem_append mem_append_left mem_append_right mem_cons mem_cons_of_mem mem_cons_self mem_map mem_singleton size_toArray take_left' toList_toArray)
open Nat (add_mul le_add_right le_succ lt_succ_self min_eq_left mul_le_mul_right mul_one not_lt_zero one_pos sub_zero zero_add)
open Option (bind_eq_some_iff map_eq_some_iff map_some)
set_option linter.unusedVariables false
set_option linter.unusedSimpArgs false
namespace Go.Ab
open Go.RowKit
theorem run_copyG {P:Program} {w:World} {dT sT ty elem:TypeId} {i:TypeInfo} {g off dLen dCap:Nat} {a:Addr} {sLen sCap:Nat} {cur:Array Value} {t:TypeId} {cs:List Value}
    (hu:P.underlying dT=some (.slice elem)) (hi:P.info? elem=some i) (hg:w.heap[g]?=some (.cells cur t (0,0))) (hn:cs.length=Nat.min sLen dLen*i.size)
    (hsrc:∀j v,cs[j]?=some v->w.cell? (a.add j)=some v) (hfit:off+cs.length<=cur.size) (h1:∀v∈cs,v.oneCell'=true) :
    (Builtin.copy_ #[dT,sT] ty #[.slice (some ⟨g,off,none⟩) dLen dCap,.slice (some a) sLen sCap]).run P w =
      .ok (goInt (Nat.min sLen dLen)) (w.setRow g (cur.toList.take off++cs++cur.toList.drop (off+cs.length)).toArray):=by
  have hl:=run_loadCells_list (P:=P) w a cs hsrc;have hst:=run_storeCells_at P g off t cs 0 cur w hg (by simpa using hfit) h1;simp[Builtin.copy_,run_underlying hu,Builtin.lenOf,Builtin.firstCells,sizeOf,typeInfo,hi,<-hn,hl,hst]
section
variable {J:Job} {nx:Nat} {fr:Fr} {hp:Hp} {k:List It} {ops:Array Oper} {rest:List Oper} {o:Oper} {α:Type} {T:GoT α}
theorem ztK {x y : Operand} {t e n d bytes lo len m : Nat} {l ys : List α} (ho : o.op = .call { callee := .builtin .copy, args := #[x, y], argTypes := #[t, t] }) (hd : o.dst = some d) (hg : o.guard = none) (hlt : Nat.blt d J.nt = true)
    (hx:∀{nx ρ w v g cap},SimH J nx ρ hp w->ρ n = .slice (some ⟨g,0,none⟩) l.length cap->l.length<=cap->(fr.ev x).rel ρ J.B (Uu J ρ hp) (Nn ρ hp) w v->∃c,v = .slice (some ⟨g,lo*T.size,none⟩) len c)
    (hy:∀{nx ρ w v},SimH J nx ρ hp w->(fr.ev y).rel ρ J.B (Uu J ρ hp) (Nn ρ hp) w v->∃ad c ds,v = .slice (some ad) ys.length c/\zai T (Uu J ρ hp) (Nn ρ hp) w ys ds/\∀j u,ds[j]?=some u->w.cell? (ad.add j)=some u)
    (hn:hp n = .row e T l) (ht:rowB J.P t e T.size bytes=true) (hm:m=min ys.length len) (hlen:0<l.length/\lo+len<=l.length/\m<=9223372036854775807)
    (H:AW J nx (fr.set d (.val i64T (m:Int))) (hp.set n (.row e T (l.take lo++ys.take m++l.drop (lo+m)))) (.ops ops rest::k)):AW J nx fr hp (.ops ops (o::rest)::k):=by
  intro a w ⟨ρ,h⟩;refine zU hg yq fun K hK=>?_
  have hxv:=zak h x;have hyv:=zak h y;obtain⟨g,cap,cur,xs,e1,hgc,hle,hmx,hcs,hxs,hr,hxl⟩:=zcL h.toSimH hn hlen.1;obtain⟨hu,i,z,hi,hz,hsz,hby,hzs⟩:=zdk ht;have hTpos:=T.pos;obtain⟨c1,e2⟩:=hx h.toSimH e1 hle hxv;obtain⟨ad,c2,ds,e3,hds,hcell⟩:=hy h.toSimH hyv;have hml:m<=ys.length:=ya;have hmd:m<=len:=ya;have hdl:ds.length=ys.length*T.size:=hds.len;have hmm:m*T.size<=ys.length*T.size:=mul_le_mul_right _ hml;have htl:(ds.take (m*T.size)).length=m*T.size:=by rw[um,hdl];omega
  have hlc:l.length*T.size<=cap*T.size:=mul_le_mul_right _ hle;have hmul:lo*T.size+m*T.size<=l.length*T.size:=by rw[<-add_mul];exact mul_le_mul_right _ ya
  have hone:∀v∈ds.take (m*T.size),v.oneCell'=true:=fun v hv=>hds.one v (List.mem_of_mem_take hv)
  have hrun:(Builtin.copy_ #[t,t] o.type #[a.eval x,a.eval y]).run J.P w = .ok (.int .i64 m) (w.setRow g (cur.toList.take (lo*T.size)++ds.take (m*T.size)++cur.toList.drop (lo*T.size+m*T.size)).toArray):=by
    have:=run_copyG (P:=J.P) (w:=w) (dT:=t) (sT:=t) (ty:=o.type) (dLen:=len) (dCap:=c1) (a:=ad) (sLen:=ys.length) (sCap:=c2) (off:=lo*T.size) (cs:=ds.take (m*T.size)) hu hi hgc (by rw[htl,hsz,hm]) (fun j v hj=>hcell j v (by
      rw[List.getElem?_take] at hj;split at hj
      . exact hj
      cases hj)) (by rw[htl,hcs];omega) hone
    rw[htl] at this;rw[e2,e3,this,hm];rfl
  unfold Oper.wp;have hex:(execOp a.eval o).run J.P w = .ok (.value (.int .i64 m)) (w.setRow g (cur.toList.take (lo*T.size)++ds.take (m*T.size)++cur.toList.drop (lo*T.size+m*T.size)).toArray):=by
    unfold execOp;simp only[ho,resolve,invoke,builtin,Sem.run_bind,Sem.run_pure,Result.andThen_ok,List.map_toArray,map_cons,map_nil,hrun]
  rw[hex,Oper.upon_value,hd];have hll:(l.take lo++ys.take m++l.drop (lo+m)).length=l.length:=yB;refine hK _ _ (H _ _ ⟨ρ,SimR.put (x:=.val i64T (m:Int)) (h.modify (w':=w.setRow g (cur.toList.take (lo*T.size)++ds.take (m*T.size)++cur.toList.drop (lo*T.size+m*T.size)).toArray) (x:=.row e T (l.take lo++ys.take m++l.drop (lo+m))) hn trivial trivial yw rfl rfl rfl (fun b hb=>setRow_other w g b _ (fun e=>hb yaq)) fun kp=>?_) yK (zO.2 ⟨rfl,by rw[zdo];omega⟩) trivial⟩);have e5:(lo+m)*T.size=lo*T.size+m*T.size:=add_mul ..;refine⟨xs.take (lo*T.size)++ds.take (m*T.size)++xs.drop ((lo+m)*T.size),⟨?_,.inr ⟨g,cap,_,by rw[e1,hll],uf _,setRow_heap w g cur _ e _ hgc,by rw[hll];exact hle,hmx,?_,?_⟩⟩,(((hr.take lo).append (hds.take m)).append (hr.drop (lo+m))).mono kp⟩
  . rw[hll];simp only[ue,um,length_drop,hxl,hdl];rw[e5];omega
  . simp only[size_toArray,ue,um,length_toList,length_drop,hdl,hxl]
    omega
  rw[hll];rw[<-hxs,e5];apply ext_getElem?;intro j;obtain⟨es,hes⟩:∃es,es=ds.take (m*T.size):=⟨_,rfl⟩;rw[<-hes] at htl ⊢;simp only[List.getElem?_append,List.getElem?_take,List.getElem?_drop,ue,um,length_drop,length_toList];rw[hcs,min_eq_left (show lo*T.size<=cap*T.size by omega),min_eq_left (show l.length*T.size<=cap*T.size by omega),min_eq_left (show lo*T.size<=l.length*T.size by omega)];rw[htl];by_cases c1:j<l.length*T.size
  . rw[ut c1]
    by_cases c2:j<lo*T.size
    . rw[ut ya,ut c2,ut c2,ut ya,ut c2,ut c2,ut c1]
    by_cases c3:j<lo*T.size+m*T.size
    . rw[ut c3,ur c2,ut c3,ur c2]
    rw[ur c3,ur c3,ut ya]
  rw[ur c1,ur ya,ur ya]
theorem aw_copy_o {x y : Operand} {t e n d bytes m : Nat} {b : Bool} {l ys : List α} (ho : o.op = .call { callee := .builtin .copy, args := #[x, y], argTypes := #[t, t] }) (hd : o.dst = some d) (hg : o.guard = none) (hlt : Nat.blt d J.nt = true)
    (hx:fr.ev x = .own n) (hy:fr.ev y = .val (slT b T) ys) (hn:hp n = .row e T l) (ht:rowB J.P t e T.size bytes=true) (hm:m=min ys.length l.length) (hlen:0<l.length/\0<ys.length/\m<=9223372036854775807)
    (H:AW J nx (fr.set d (.val i64T (m:Int))) (hp.set n (.row e T (l.take 0++ys.take m++l.drop (0+m)))) (.ops ops rest::k)):AW J nx fr hp (.ops ops (o::rest)::k) :=
  ztK (lo:=0) (len:=l.length) (ys:=ys) ho hd hg hlt (fun _ e1 _ hv=>by
    rw[hx] at hv;exact⟨_,by rw[show _=_ from hv,e1,Nat.zero_mul]⟩) (fun _ hv=>by
    rw[hy] at hv;rcases zke hv with ⟨c,h0,_⟩|⟨ad,c,ds,h1,h2,h3⟩
    . rw[h0] at hlen;simp at hlen
    exact⟨ad,c,ds,h1,h2,h3⟩) hn ht hm ⟨hlen.1,by omega,hlen.2.2⟩ H
theorem aw_copy_in {x y : Operand} {t e n d bytes m lo len q : Nat} {l : List α} (ho : o.op = .call { callee := .builtin .copy, args := #[x, y], argTypes := #[t, t] }) (hd : o.dst = some d) (hg : o.guard = none) (hlt : Nat.blt d J.nt = true)
    (hx:fr.ev x = .osub n T.size lo len) (hy:fr.ev y = .osub n T.size 0 q) (hn:hp n = .row e T l) (ht:rowB J.P t e T.size bytes=true) (hm:m=min q len) (hlen:lo<l.length/\lo+len<=l.length/\q<=l.length/\m<=9223372036854775807)
    (H:AW J nx (fr.set d (.val i64T (m:Int))) (hp.set n (.row e T (l.take lo++(l.take q).take m++l.drop (lo+m)))) (.ops ops rest::k)):AW J nx fr hp (.ops ops (o::rest)::k) :=
  ztK (lo:=lo) (len:=len) (ys:=l.take q) ho hd hg hlt (fun _ e1 hle hv=>by
    rw[hx] at hv;obtain⟨g2,L2,c2,k1,k2,k3⟩:=hv;rw[e1] at k1;injection k1 with k1 k4 k5;injection k1 with k1;injection k1 with k1;subst k1;subst k4;subst k5;rw[ur ya,zgz] at k3;exact⟨_,k3⟩) (fun {_ _ w _} s hv=>by
    rw[hy] at hv;obtain⟨g,cap,cur,xs,e1,hgc,hle,hmx,hcs,hxs,hr,hxl⟩:=zcL s hn ya;obtain⟨g2,L2,c2,k1,k2,k3⟩:=hv;rw[e1] at k1;injection k1 with k1 k4 k5;injection k1 with k1;injection k1 with k1;subst k1;subst k4;subst k5;rw[ur ya,Nat.zero_mul,add_zero] at k3;refine⟨_,_,xs.take (q*T.size),by rw[um,min_eq_left hlen.2.2.1];exact k3,hr.take q,fun j u hj=>?_⟩;rw[List.getElem?_take] at hj
    split at hj
    . rw[zgz,cell_of_row w g _ cur e (0,0) hgc]
      rw[<-hxs,List.getElem?_take] at hj
      split at hj
      . simpa using hj
      cases hj
    cases hj) hn ht (by rw[um,min_eq_left hlen.2.2.1];exact hm) ⟨by omega,hlen.2.1,hlen.2.2.2⟩ H
end
end Go.Ab
namespace Go.Ab
open Go.RowKit
section
variable {J:Job} {nx:Nat} {ρ:Nat->Value} {fr:Fr} {hp:Hp} {a:Act} {w w':World} {k:List It} {ops:Array Oper} {rest:List Oper} {o:Oper}
variable {α Z γ:Type} {T:GoT α}
theorem zbI {n ty:Nat} {x:α} (hn:hp n = .box ty T x):zgI J hp (.ptr n 0) (.rptr T x):=zeG rfl hn (Lens.self T)
theorem zdD {n ty:Nat} {X:AV} {x:α} (h:X = .ptr n 0) (hn:hp n = .box ty T x):zgI J hp X (.rptr T x):=h▸zbI hn
theorem run_clo {x : Operand} {f : FuncId} {caps : List Nat} {xs : Array Operand} {ts : Array TypeId} {As Cs : List AV} {X : AV} (hc : Tells J.P f (As ++ Cs) X) (ho : o.op = .call { callee := .value x, args := xs, argTypes := ts }) (hx : fr.ev x = .clo f caps) (hf : fnB J.P f = true) (ha : zhY J fr hp xs.toList As)
    (hb:∀n∈caps,∃ty,∃(γ:Type) (T:GoT γ) (x:γ),hp n = .box ty T x) (hcs:zmp J hp caps Cs) (s:SimR J nx ρ fr hp a w) :
    (execOp a.eval o).run J.P w = .ok (.enter f (xs.map a.eval++(caps.map ρ).toArray)) w/\Calls J.P f (xs.map a.eval++(caps.map ρ).toArray) w (znh (Uu J ρ hp) w X):=by
  obtain⟨fn,h1,h2,h3⟩:=zbG hf;have hv:=zak s x;rw[hx] at hv;have hv:a.eval x=_:=hv;refine⟨zgQ ho hv h1 h2 h3,?_⟩;have hargs:=zgs (s:=s.toSimH) (a:=a) (fun y _=>zak s y) ha;have hcaps:=zk8 s.toSimH hcs fun n hn=>by
    obtain⟨ty,γ,T,x,e⟩:=hb n hn
    have:=s.hrel n
    rw[e] at this;obtain⟨g,_,e,_⟩:=this;exact⟨g,e⟩
  have e:(xs.toList.map a.eval++caps.map ρ).toArray=xs.map a.eval++(caps.map ρ).toArray:=yca
  have:=hc (Uu J ρ hp) w _ (fun b hb=>s.uu_lt hb) (zbJ.append hargs hcaps)
  rw[e] at this;exact this
theorem ze3 {x : Operand} {f : FuncId} {caps : List Nat} {xs : Array Operand} {ts : Array TypeId} {As Cs : List AV} {d e : Nat} {l : List α} {X : AV} (hc : Tells J.P f (As ++ Cs) (.tup2 (.fresh e T l) X)) (ho : o.op = .call { callee := .value x, args := xs, argTypes := ts }) (hx : fr.ev x = .clo f caps) (hf : fnB J.P f = true) (ha : zhY J fr hp xs.toList As)
    (hb:∀n∈caps,∃ty,∃(γ:Type) (T:GoT γ) (x:γ),hp n = .box ty T x) (hcs:zmp J hp caps Cs) (hX:Flat X)
    (hd:o.dst=some d) (hg:o.guard=none) (hlt:Nat.blt d J.nt=true) (H:AW J (nx+1) (fr.set d (.tup2 (.own nx) X)) (hp.set nx (.row e T l)) (.ops ops rest::k)):AW J nx fr hp (.ops ops (o::rest)::k):=by
  intro a w ⟨ρ,s⟩;refine zU hg yq fun K hK=>?_
  obtain⟨hr,hcall⟩:=run_clo hc ho hx hf ha hb hcs s;unfold Oper.wp;rw[hr,Oper.upon_enter];refine Calls.mono hcall fun en w' he=>?_
  cases en with
  | returned v =>
    obtain⟨hb,x,y,rfl,hx,hy⟩:=he;rw[hd];exact hK _ _ (H _ _ ⟨_,(zi6 s hb hx).put yK ⟨x,y,rfl,yU,hX.2 _ _ _ _ _ _ _ _ _ _ _ hy⟩ ⟨lt_succ_self nx,AV.under_mono (uf _) (AV.under0_spec hX.1)⟩⟩)
  | panicked c=>exact he.elim
  | outgrown=>exact he.elim
theorem zf7 {x : Operand} {f : FuncId} {caps : List Nat} {xs : Array Operand} {ts : Array TypeId} {As Cs : List AV} {d e : Nat} {l : List α} {X Y : AV} (hc : Tells J.P f (As ++ Cs) (.tup3 (.fresh e T l) X Y)) (ho : o.op = .call { callee := .value x, args := xs, argTypes := ts }) (hx : fr.ev x = .clo f caps) (hf : fnB J.P f = true) (ha : zhY J fr hp xs.toList As)
    (hb:∀n∈caps,∃ty,∃(γ:Type) (T:GoT γ) (x:γ),hp n = .box ty T x) (hcs:zmp J hp caps Cs) (hX:Flat X) (hY:Flat Y)
    (hd:o.dst=some d) (hg:o.guard=none) (hlt:Nat.blt d J.nt=true) (H:AW J (nx+1) (fr.set d (.tup3 (.own nx) X Y)) (hp.set nx (.row e T l)) (.ops ops rest::k)):AW J nx fr hp (.ops ops (o::rest)::k):=by
  intro a w ⟨ρ,s⟩;refine zU hg yq fun K hK=>?_
  obtain⟨hr,hcall⟩:=run_clo hc ho hx hf ha hb hcs s;unfold Oper.wp;rw[hr,Oper.upon_enter];refine Calls.mono hcall fun en w' he=>?_
  cases en with
  | returned v =>
    obtain⟨hb,x,y,z,rfl,hx,hy,hz⟩:=he;rw[hd];exact hK _ _ (H _ _ ⟨_,(zi6 s hb hx).put yK ⟨x,y,z,rfl,yU,hX.2 _ _ _ _ _ _ _ _ _ _ _ hy,hY.2 _ _ _ _ _ _ _ _ _ _ _ hz⟩ ⟨lt_succ_self nx,AV.under_mono (uf _) (AV.under0_spec hX.1),AV.under_mono (uf _) (AV.under0_spec hY.1)⟩⟩)
  | panicked c=>exact he.elim
  | outgrown=>exact he.elim
end
end Go.Ab
namespace Go.Ab
open Go.RowKit
def fnoT:GoT (Option Nat):=scT (fun f=>match f with|none=>.nilFunc|some f=>.func (.func f) #[] #[]) (fun _=>True) (fun x=>by cases x<;>rfl)
instance:Strict fnoT:=zfF _ _ _
theorem zqu:Zero fnoT none [.nilFunc]:=fun _ _ _=>⟨rfl,trivial⟩
def FnOp (y:Operand) (x:Option Nat):Prop:=∃f,y = .func f/\x=some f
section
variable {J:Job} {nx:Nat} {fr:Fr} {hp:Hp} {k:List It} {ops:Array Oper} {rest:List Oper} {o:Oper}
theorem zwj {fr:Fr} {ρ:Nat->Value} {B U N:Nat->Prop} {w:World} {y:Operand} {x:Option Nat} {v:Value} (h:FnOp y x) (hv:(fr.ev y).rel ρ B U N w v):fnoT.val U N w x v:=by
  obtain⟨f,rfl,rfl⟩:=h;have hv:v = .func (.func f) #[] #[]:=hv;exact znn.2 ⟨hv,trivial⟩
theorem g_bslF {t e n:Nat} {ps:List (Nat×Operand)} {xs:List (Option Nat)} (ho:o.op = .buildSlice t n ps.toArray) (hs:sliceB J.P t e fnoT.size=true) {bytes:Nat} (hrow:rowB J.P t e fnoT.size bytes=true) (hv:zrR FnOp 0 ps xs) (hn:n=xs.length) (hb:Nat.ble (n*fnoT.size) 16777216=true):OpG J o fr hp (.val (sl fnoT) xs) :=
  zs8 (R:=FnOp) ho hs hrow hv zwj hn hb
theorem zrq {t e m:Nat} {hm:0<m} {ps:List (Nat×Operand)} {xs x0:List (Option Nat)} (ho:o.op = .build t ps.toArray) (ha:arrB J.P t m e fnoT.size=true) (hz:zaw J.P t (arrT m hm fnoT) x0) (hv:zrR FnOp 0 ps xs) (hl:Nat.beq ps.length m=true):OpG J o fr hp (.val (arrT m hm fnoT) xs) :=
  zwg (R:=FnOp) ho ha hz hv zwj hl
theorem zdC {d f:Nat} (hd:fr d = .val fnoT (some f)) (H:AW J nx (fr.set d (.clo f [])) hp k):AW J nx fr hp k:=fun a w ⟨ρ,s⟩=>by
  have h:=s.frel d;rw[hd] at h;refine H a w ⟨ρ,{ s.toSimH with size:=s.size,defers:=s.defers,frel:=fun t=>?_,fnx:=fun t=>?_,brel:=s.brel }⟩
  . rw[zan]
    by_cases c:t=d
    . rw[ut c,c];exact(znn.1 h).1
    rw[ur c];exact s.frel t
  rw[zan];by_cases c:t=d
  . rw[ut c];intro c hc;cases hc
  rw[ur c];exact s.fnx t
theorem zep {α:Type} {T:GoT α} {x:Operand} {y:α} (ho:o.op = .nilCheck x) (hx:fr.ev x = .rptr T y):OpG J o fr hp (.rptr T y):=by
  refine .of_run (fun {_ _ _ w} s hr _=>?_) (fun h hn=>trivial);have h:=hr x ym;rw[hx] at h;refine⟨_,?_,h⟩;obtain⟨g,e1,e2⟩:=h;unfold execOp;rw[ho];simp[e1]
theorem aw_calluv {x : Operand} {f : FuncId} {n : Nat} {xs : Array Operand} {ts : Array TypeId} {As : List AV} {X : AV} {h0 h' : HE} {d : Nat} (hc : zfp J.P f h0 As X h') (ho : o.op = .call { callee := .value x, args := xs, argTypes := ts }) (hx : fr.ev x = .clo f []) (hf : fnB J.P f = true) (hn : hp n = h0) (hl : h0.live) (hl' : h'.live) (hX : X.under0 = true)
    (ha:zj6 J fr hp n xs.toList As) (hd:o.dst=some d) (hg:o.guard=none) (hlt:Nat.blt d J.nt=true) (H:AW J nx (fr.set d X) (hp.set n h') (.ops ops rest::k)) (hu0:h0.under 0:=by exact trivial) (hu1:h'.under 0:=by exact trivial):AW J nx fr hp (.ops ops (o::rest)::k):=by
  intro a w ⟨ρ,s⟩;refine zU hg yq fun K hK=>?_
  obtain⟨fn,h1,h2,h3⟩:=zbG hf;have hxv:=zak s x;rw[hx] at hxv;have hxv:a.eval x = .func (.func f) #[] #[]:=hxv;unfold Oper.wp;rw[zgQ ho hxv h1 h2 h3,Oper.upon_enter,Array.append_empty];have hlive:(hp n).live:=ycg;have e:=zod s.toSimH hlive;refine Calls.mono (zkn (fn:=fn) (ts:=ts) hc hf hn hl ha s hu0) fun en w' he=>?_
  have hbU:bU (fun b=>Uu J ρ hp b/\¬gN (ρ n) b) (ρ n) h'=Uu J ρ hp:=by
    refine Eq.trans ?_ e;funext b;unfold bU gU;exact propext ⟨fun h=>h.imp id (fun h=>h.2),fun h=>h.imp id (fun h=>⟨hl',h⟩)⟩
  cases en with
  | returned v =>
    obtain⟨hb,hr,hv⟩:=he;rw[hbU] at hr hv;rw[hd];have s':=s.given hlive hl' hb (HE.rel_B hu1 (HE.rel_ren (ρ:=ρ0) (nx:=0) (fun n hn=>by omega) hu1 hr)) (HE.under_mono (uf _) hu1);have hu:=AV.under0_spec hX;refine hK _ _ (H _ _ ⟨ρ,s'.put yK ?_ (AV.under_mono (uf _) hu)⟩);have hle:∀b,Uu J ρ (hp.set n h') b->Uu J ρ hp b:=fun b hb=>hb.imp id fun ⟨m,h1,h2⟩=>by
      rw[zn] at h1;by_cases c:m=n
      . exact⟨n,hlive,by rw[<-c];exact h2⟩
      rw[ur c] at h1;exact⟨m,h1,h2⟩
    exact AV.rel_mono (nx:=0) ⟨fun _ h=>h,ug _,fun _ _ _=>rfl,fun b _ h=>hle b h,fun b _ h=>hle b (.inr h)⟩ hu (AV.rel_ren (ρ:=ρ0) (ρ':=ρ) (fun n hn=>by omega) hu (AV.rel_B (B':=J.B) hu hv))
  | panicked c=>exact he.elim
  | outgrown=>exact he.elim
end
end Go.Ab
namespace Go.Ab
open Go.RowKit
def Job.withDs (J:Job) (ds:List Deferred):Job:={ J with ds:=ds }
theorem zin (J:Job) (ds:List Deferred):∀k,Kont (J.withDs ds) k=Kont J k
  | []=>rfl
  | .code c::k=>by show Exit.then _ _=Exit.then _ _;rw[zin J ds k];rfl
  | .ops ops l::k=>by show Exit.then _ _=Exit.then _ _;rw[zin J ds k];rfl
  | .inBlock id::k=>by show Exit.inBlock id _=Exit.inBlock id _;rw[zin J ds k]
  | .again T::k=>by show Exit.then _ _=Exit.then _ _;rw[zin J ds k]
  | .inScope l T::k=>by show Exit.jump l _ _=Exit.jump l _ _;rw[zin J ds k]
structure JobEq (J' J:Job):Prop where
  w0:J'.w0=J.w0
  ext:J'.ext=J.ext
  gr:J'.gr=J.gr
  kg:J'.kg=J.kg
  ρg:J'.ρg=J.ρg
section
variable {J J':Job} {nx:Nat} {ρ:Nat->Value} {fr fr':Fr} {hp:Hp} {a a':Act} {w w':World} {k:List It} {ops:Array Oper} {rest:List Oper} {o:Oper}
theorem JobEq.B (e:JobEq J' J):J'.B=J.B:=by funext b;unfold Job.B;rw[e.w0,e.gr]
theorem JobEq.Uu (e:JobEq J' J):Uu J' ρ hp=Uu J ρ hp:=by funext b;unfold Ab.Uu;rw[e.ext]
theorem SimH.job (s:SimH J nx ρ hp w) (e:JobEq J' J) (hb:J'.bn<=nx):SimH J' nx ρ hp w where
  kle:=by rw[e.kg];exact s.kle
  ble:=hb
  named n hn:=by rw[e.ρg];exact s.named n (by rw[<-e.kg];exact hn)
  below:=by rw[e.gr,e.w0];exact s.below
  hrel n:=by rw[e.B,e.Uu];exact s.hrel n
  hun:=s.hun
  hnx:=s.hnx
  new n b hl hb:=by rw[e.gr,e.w0];exact s.new n b hl hb
  inj:=s.inj
theorem SimR.job (s:SimH J nx ρ hp w) (e:JobEq J' J) (hb:J'.bn<=nx) (hsz:a'.tmps.size=J'.nt) (hds:a'.defers=J'.ds)
    (hfr:∀t,(fr' t).rel ρ J.B (Uu J ρ hp) (Nn ρ hp) w (a'.tmps.getD t undef)) (hfx:∀t,(fr' t).under nx) (hbg:∀p∈J'.bg,∀t,(p.1 t).rel ρ J.B (Uu J ρ hp) (Nn ρ hp) w (p.2.tmps.getD t undef)):SimR J' nx ρ fr' hp a' w :=
  { s.job e hb with
    size:=hsz
    defers:=hds
    frel:=fun t=>by rw[e.B,e.Uu];exact hfr t
    fnx:=hfx
    brel:=fun p hp t=>by rw[e.B,e.Uu];exact hbg p hp t }
def HE.isBox:HE->Bool
  | .box .. | .parts ..=>true
  | _=>false
theorem SimH.ptr_of_box (s:SimH J nx ρ hp w) {n:Nat} (h:(hp n).isBox=true):(∃g,ρ n = .pointer (some ⟨g,0,none⟩))/\n<nx:=by
  refine⟨?_,Nat.lt_of_not_le fun hle=>by rw[s.hnx n hle] at h;cases h⟩;have hr:=s.hrel n;revert hr h;generalize hp n=x;cases x with
  | box ty T x=>intro _ ⟨g,_,e,_⟩;exact⟨g,e⟩
  | parts ty xs=>intro _ ⟨g,_,e,_⟩;exact⟨g,e⟩
  | none_=>intro h;cases h
  | row=>intro h;cases h
  | objAt=>intro h;cases h
theorem SimR.putObj (s:SimR J nx ρ fr hp a w) {n b:Nat} {o o':Obj} (hn:hp n = .objAt b o):w.heap[b]?=some o/\SimR J nx ρ fr (hp.set n (.objAt b o')) a (w.putObj b o'):=by
  have hh:=s.hrel n;rw[hn] at hh;obtain⟨e,hb⟩:=hh;refine⟨hb,s.modify hn trivial trivial yw rfl rfl rfl (fun c hc=>World.putObj_heap_other (fun e'=>hc (by rw[e,e'];rfl))) fun _=>⟨e,World.putObj_heap_same (Array.getElem?_eq_some_iff.1 hb).1⟩⟩
theorem SimR.getObj (s:SimR J nx ρ fr hp a w) {n b:Nat} {o:Obj} (hn:hp n = .objAt b o):w.heap[b]?=some o:=by
  have hh:=s.hrel n;rw[hn] at hh;exact hh.2
theorem zcp {nD D:Nat} (hds:J.ds=[{ target:=.collected D,args:=#[] }]) (hrd:J.rd=none) (hD:hp nD = .objAt D (.deferred (some []))) (H:AR (J.withDs []) nx fr (hp.set nD (.objAt D (.deferred none)))):AR J nx fr hp:=by
  intro a w ⟨ρ,s⟩;obtain⟨h1,h2⟩:=s.putObj (o':=.deferred none) hD;refine J.mark hrd a w _ D (s.defers.trans hds) (run_takeDeferred h1) (H { a with defers:=[] } _ ⟨ρ,?_⟩);exact SimR.job h2.toSimH yac h2.ble h2.size rfl h2.frel h2.fnx h2.brel
structure LoopOk (J:Job) (nx:Nat) (fr:Fr) (a:Act):Prop where
  hsz:a.tmps.size=J.nt
  had:a.defers=[]
  hrd:J.rd=none
  hfr:∀t,(fr t).under nx
  hbn:J.bn<=nx
structure LoopC where
  J:Job
  nx:Nat
  fr:Fr
  a:Act
  k:List It
  fid:FuncId
  ps:Array Tmp
  asg:Code
  body:Code
  l:Nat
  D:Nat
  ok:LoopOk J nx fr a
def LoopC.mark (C:LoopC):List Deferred:=[{ target:=.collected C.D,args:=#[] }]
def LoopC.act (C:LoopC):Act:={ C.a with defers:=C.mark }
def LoopC.record (C:LoopC) (st:LoopState) (pe:Option Code):Loop:={ state:=st,pending:=pe,fn:=C.fid,tmps:=C.a.tmps,params:=C.ps,assign:=C.asg,body:=C.body,defers:=C.D }
def LoopC.rc (C:LoopC) (st:LoopState) (pe:Option Code):Obj:=.loop (C.record st pe)
def LoopC.R (C:LoopC) (e:Ending) (w:World):Prop:=(∃v,e = .returned v)/\rangePost Fence.wide 0 C.J.P C.l (Kont C.J C.k) C.act e w
def LoopC.iter (C:LoopC) (fni:Func):Job :=
  { C.J with
    fn:=fni,nt:=fni.ntmps,R:=C.R,rd:=none,ds:=[],bg:=(C.fr,C.a)::C.J.bg,bn:=C.nx
    bgb:=fun p hp t=>by
      rcases mem_cons.1 hp with e|hp
      . rw[e];exact C.ok.hfr t
      exact AV.under_mono C.ok.hbn (C.J.bgb p hp t)
    post:=bodyPostM Fence.wide 0 C.J.P fni C.R
    nrm:=fun _ _ _ h=>h
    fin:=fun _ _ _ _ h1 h2 _ h3=>zcA h1 h2 h3
    mark:=fun _ _ _ _ _ h1 h2 h3=>zg8 h1 h2 h3 }
theorem LoopC.eq (C:LoopC) (fni:Func):JobEq (C.iter fni) C.J:=yac
theorem J_wide (h:J.rd=none):J.F=Fence.wide:=by unfold Job.F;rw[h];rfl
theorem zi8 {g:Operand} {ps:Array Tmp} {asg body:Code} {f:FuncId} {caps:List Nat} {fni:Func} {c:Code}
    (hrd:J.rd=none) (hds:J.ds=[]) (hg:fr.ev g = .clo f caps) (hf:J.P.funcs[f]?=some fni) (hfb:fnB J.P f=true) (hb:fni.body=some c) (hn:Nat.ble (caps.length+1) fni.ntmps=true) (hcb:∀n∈caps,(hp n).isBox=true)
    (H:∀(fid:FuncId) (a:Act) (l D:Nat) (ok:LoopOk J nx fr a) (rc:LoopState->Option Code->Obj) (hrc:rc=LoopC.rc ⟨J,nx,fr,a,k,fid,ps,asg,body,l,D,ok⟩),
      AW (LoopC.iter ⟨J,nx,fr,a,k,fid,ps,asg,body,l,D,ok⟩ fni) (nx+2) (Fr.args 0 (.lit (.func (.yield l) #[] #[])::caps.map fun n=>.ptr n 0) Fr.none)
        ((hp.set nx (.objAt D (.deferred (some [])))).set (nx+1) (.objAt l (rc .ready none))) [.code c]) :
    AW J nx fr hp (.code (.rangeFunc g ps asg body)::k):=by
  intro a w ⟨ρ,s⟩;have hv:a.eval g = .func (.func f) #[] (caps.map ρ).toArray:=by
    have:=zak s g
    rw[hg] at this;exact this
  have had:a.defers=[]:=s.defers.trans hds;have hn:caps.length+1<=fni.ntmps:=ycc;show(Code.rangeFunc g ps asg body).wpIn J.F 0 J.P (Kont J k) a w;rw[J_wide hrd];refine wpIn_rangeFunc ?_;intro fid hfid;obtain⟨C,hC⟩:∃C:LoopC,C=⟨J,nx,fr,a,k,fid,ps,asg,body,w.heap.size+1,w.heap.size,⟨s.size,had,hrd,s.fnx,s.ble⟩⟩:=⟨_,rfl⟩;have H:=H fid a (w.heap.size+1) w.heap.size ⟨s.size,had,hrd,s.fnx,s.ble⟩ _ rfl;rw[<-hC] at H;have hrec:C.record .ready none = { state:=.ready,pending:=none,fn:=fid,tmps:=a.tmps,params:=ps,assign:=asg,body:=body,defers:=w.heap.size }:=by rw[hC];rfl
  obtain⟨W1,hW1⟩:∃W1,(w.alloc (.deferred (some []))).alloc (.loop (C.record .ready none))=W1:=⟨_,rfl⟩
  refine⟨w.heap.size+1,[{ target:=.collected w.heap.size,args:=#[] }],W1,{ target:=.fn (.func f) (caps.map ρ).toArray,args:=#[.func (.yield (w.heap.size+1)) #[] #[]] },W1,f,
    #[.func (.yield (w.heap.size+1)) #[] #[]]++(caps.map ρ).toArray,W1,?_,?_,fun _ _=>trivial,?_,(fun h=>by cases h),?_⟩
  . rw[<-hW1,hrec];exact run_enterLoop_outer _ _ _ _ _
  . simp only[resolve,hv]
    simp[go_sem]
  . obtain⟨fn',h1,h2,h3⟩:=zbG hfb
    have hne : fn'.name ≠ "runtime.NumGoroutine" := by simpa using h3
    have hbn:fn'.body≠none:=yci;simp[invoke,callFunc,h1,hne,hbn,Sem.run_bind]
  have h1:=s.bind (p:=.pointer (some ⟨w.heap.size,0,none⟩)) (x:=.objAt w.heap.size (.deferred (some []))) (zbl w _) (fun b e=>by simp only[zaH,Option.some.injEq] at e;subst e;exact⟨ug _,by simp⟩) fun _=>⟨rfl,heap_alloc_new w _⟩
  have h2:=h1.bind (p:=.pointer (some ⟨(w.alloc (.deferred (some []))).heap.size,0,none⟩)) (x:=.objAt (w.heap.size+1) (C.rc .ready none)) (zbl _ (.loop (C.record .ready none))) (fun b e=>by simp only[zaH,Option.some.injEq] at e;subst e;exact⟨ug _,by simp⟩)
    fun _=>⟨by rw[World.size_alloc],by have:=heap_alloc_new (w.alloc (.deferred (some []))) (.loop (C.record .ready none));rwa [World.size_alloc] at this⟩
  rw[hW1] at h2;generalize hρ2:ren (ren ρ nx _) (nx+1) _=ρ2 at h2;have hren:∀n,n<nx->ρ2 n=ρ n:=fun n hn=>by rw[<-hρ2];unfold ren;rw[ur ya,ur ya]
  have hcap:∀n∈caps,(∃g,ρ2 n = .pointer (some ⟨g,0,none⟩))/\n<nx:=fun n hm=>by
    obtain⟨⟨g,e⟩,hlt⟩:=s.toSimH.ptr_of_box (hcb n hm);exact⟨⟨g,by rw[hren n hlt,e]⟩,hlt⟩
  have hmap:caps.map ρ=caps.map ρ2:=List.map_congr_left fun n hm=>(hren n (hcap n hm).2).symm
  refine CallsIn.mono (R:=C.R) (callsIn_of_wp_marks hf hb trivial ?_) (fun e w' h=>by have h:=h.2;rw[hC] at h;simpa [LoopC.act,LoopC.mark,had] using h);generalize hp2:(hp.set nx _).set (nx+1) _=hp2' at h2 H
  have hfr:=zeF (P:=fun _ A v=>A.rel ρ2 C.J.B (Uu C.J ρ2 hp2') (Nn ρ2 hp2') W1 v/\A.under (nx+2)) (fun _ _=>⟨trivial,trivial⟩) (i:=0) (f:=Fr.none) (g:=fun _=>undef)
    (As:=.lit (.func (.yield (w.heap.size+1)) #[] #[])::caps.map fun n=>.ptr n 0) (vs:=.func (.yield (w.heap.size+1)) #[] #[]::caps.map ρ2) yw
    (fun j A v e1 e2 _=>by
      cases j with
      | zero=>simp at e1 e2;subst e1;subst e2;exact⟨rfl,trivial⟩
      | succ j =>
        simp only[List.getElem?_cons_succ,List.getElem?_map,map_eq_some_iff] at e1 e2;obtain⟨n,hn1,rfl⟩:=e1;obtain⟨m,hm1,rfl⟩:=e2;obtain rfl:n=m:=ycj;obtain⟨⟨g,e⟩,hlt⟩:=hcap n (ud hn1);exact⟨⟨g,e,e⟩,Nat.lt_of_lt_of_le hlt (le_add_right _ _)⟩) (fun t=>⟨trivial,trivial⟩) (fun _ _=>rfl)
  have hJ:C.J=J:=by rw[hC]
  have harr:#[Value.func (.yield (w.heap.size+1)) #[] #[]]++(caps.map ρ).toArray=(Value.func (.yield (w.heap.size+1)) #[] #[]::caps.map ρ2).toArray:=by rw[hmap];simp
  rw[harr,show J.P=C.J.P by rw[hJ]];show Kont (C.iter fni) [.code c] .normal _ W1;refine H { tmps:=(Value.func (.yield (w.heap.size+1)) #[] #[]::caps.map ρ2).toArray++Array.replicate (fni.ntmps-(Value.func (.yield (w.heap.size+1)) #[] #[]::caps.map ρ2).toArray.size) undef,defers:=[] } W1 ⟨ρ2,SimR.job (J:=C.J) (hJ▸h2.toSimH) (C.eq fni) (by show C.nx<=nx+2;rw[hC];exact le_add_right _ _) ?_ rfl (fun t=>?_) (fun t=>(hfr t).2) (fun p hp t=>?_)⟩
  . show((_:List Value).toArray++_).size=fni.ntmps
    simp;omega
  . have e : ((Value.func (.yield (w.heap.size + 1)) #[] #[] :: caps.map ρ2).toArray ++ Array.replicate (fni.ntmps - (Value.func (.yield (w.heap.size + 1)) #[] #[] :: caps.map ρ2).toArray.size) undef).getD t undef = ((Value.func (.yield (w.heap.size + 1)) #[] #[] :: caps.map ρ2)[t]?).getD undef := by
      generalize (Value.func (.yield (w.heap.size+1)) #[] #[]::caps.map ρ2)=vs;rw[getD_eq_getD_getElem?,Array.getElem?_append];by_cases c:t<vs.toArray.size
      . rw[ut c];simp
      rw[ur c];have hv:vs[t]?=none:=ybP;rw[hv,Array.getElem?_replicate]
      split<;>rfl
    rw[e];have h1:=(hfr t).1;rw[ur (not_lt_zero t),sub_zero] at h1;exact h1
  have hp:p=(C.fr,C.a)\/p∈C.J.bg:=mem_cons.1 hp;rw[hC] at hp ⊢;rcases hp with e|hp
  . rw[e];exact h2.frel t
  exact h2.brel p hp t
theorem sim_back {C:LoopC} {fni:Func} {ds:List Deferred} (s:SimR (C.iter fni) nx ρ fr hp a w) (hds:ds=C.mark):SimR (C.J.withDs ds) nx ρ C.fr hp C.act w :=
  SimR.job s.toSimH yac (Nat.le_trans C.ok.hbn s.ble) C.ok.hsz hds.symm (s.brel (C.fr,C.a) (mem_cons_self ..)) (fun t=>AV.under_mono s.ble (C.ok.hfr t)) fun p hp t=>s.brel p (mem_cons_of_mem _ hp) t
theorem zv5 {C:LoopC} {fni:Func} {nL:Nat} {st:LoopState} {pe:Option Code} (hres:fni.results = #[]) {rc:LoopState->Option Code->Obj} (hrc:rc=C.rc) (hL:hp nL = .objAt C.l (rc st pe)) (hst:st≠.busy)
    (H:AW (C.J.withDs C.mark) nx C.fr (hp.set nL .none_) (match pe with|none=>C.k|some c=>.code c::C.k)) (s:SimR (C.iter fni) nx ρ fr hp a w):bodyPostM Fence.wide 0 C.J.P fni C.R .ret a w:=by
  subst hrc;obtain⟨h1,h2⟩:=s.putObj (o':=.loop (C.record .exhausted pe)) hL;refine zcA s.defers (results_none hres _ _ _) ⟨⟨_,rfl⟩,pe,_,run_endLoop h1 hst,?_⟩;have s2:=sim_back (h2.drop nL) (rfl:C.mark=C.mark);have e:(hp.set nL (.objAt C.l (.loop (C.record .exhausted pe)))).set nL .none_=hp.set nL .none_:=by
    funext t
    rw[zn,zn,zn];by_cases c:t=nL
    . rw[ut c,ut c]
    rw[ur c,ur c,ur c]
  rw[e] at s2
  have:=H _ _ ⟨ρ,s2⟩
  cases pe with
  | none=>rw[zin] at this;exact this
  | some c =>
    have hk:Kont (C.J.withDs C.mark) (.code c::C.k)=Kont C.J (.code c::C.k):=zin _ _ _;rw[hk] at this;have h3:c.wpIn C.J.F 0 C.J.P (Kont C.J C.k) C.act _:=this;rw[J_wide C.ok.hrd] at h3;exact h3
theorem zhJ {C:LoopC} {fni:Func} {nL:Nat} {st:LoopState} {pe:Option Code} (hres:fni.results = #[]) {rc:LoopState->Option Code->Obj} (hrc:rc=C.rc) (hL:hp nL = .objAt C.l (rc st pe)) (hst:st≠.busy)
    (H:AW (C.J.withDs C.mark) nx C.fr (hp.set nL .none_) (match pe with|none=>C.k|some c=>.code c::C.k)):AW (C.iter fni) nx fr hp (.code .ret::k) :=
  zaA fun a w ⟨ρ,s⟩=>zv5 hres hrc hL hst H s
theorem ze2 {C:LoopC} {fni:Func} {nL:Nat} {st:LoopState} {pe:Option Code} (hres:fni.results = #[]) {rc:LoopState->Option Code->Obj} (hrc:rc=C.rc) (hL:hp nL = .objAt C.l (rc st pe)) (hst:st≠.busy)
    (H:AW (C.J.withDs C.mark) nx C.fr (hp.set nL .none_) (match pe with|none=>C.k|some c=>.code c::C.k)):AW (C.iter fni) nx fr hp [] :=
  fun _ _ ⟨_,s⟩=>zv5 hres hrc hL hst H s
structure YieldOk (C:LoopC) (fni:Func) (nx:Nat) (fr:Fr) (a:Act) (d:Nat):Prop where
  hsz:a.tmps.size=fni.ntmps
  had:a.defers=[]
  hlt:d<fni.ntmps
  hfr:∀t,(fr t).under nx
  hbn:C.nx<=nx
structure YieldC where
  C:LoopC
  fni:Func
  nx:Nat
  fr:Fr
  a:Act
  d:Nat
  k:List It
  ok:YieldOk C fni nx fr a d
def YieldC.next (Y:YieldC) (v:Value) (w:World):Prop:=Kont (Y.C.iter Y.fni) Y.k .normal (Y.a.put (some Y.d) v) w
def YieldC.R (Y:YieldC):Ending->World->Prop
  | .returned v,w=>Y.next v w
  | _,_=>False
def YieldC.round (Y:YieldC):Job :=
  { Y.C.J with
    rd:=some Y.C.l,ds:=[],bg:=(Y.fr,Y.a)::(Y.C.fr,Y.C.a)::Y.C.J.bg,bn:=Y.nx
    bgb:=fun p hp t=>by
      rcases mem_cons.1 hp with e|hp
      . rw[e];exact Y.ok.hfr t
      rcases mem_cons.1 hp with e|hp
      . rw[e];exact AV.under_mono Y.ok.hbn (Y.C.ok.hfr t)
      exact AV.under_mono (Nat.le_trans Y.C.ok.hbn Y.ok.hbn) (Y.C.J.bgb p hp t)
    post:=roundPost Y.C.J.P Y.C.l Y.R
    nrm:=fun h=>by cases h
    fin:=fun h=>by cases h
    mark:=fun h=>by cases h }
def YieldC.asg (Y:YieldC):Job :=
  { Y.round with
    post:=fun e a w=>match e with
      | .normal=>∃w2,(Instr.beginRound Y.C.l).run Y.C.J.P w = .ok () w2/\Kont Y.round [.code Y.C.body] .normal a w2
      | _=>False
    nrm:=fun h=>by cases h
    fin:=fun h=>by cases h
    mark:=fun h=>by cases h }
def Fr.setL:Fr->List Tmp->List AV->Fr
  | f,t::ts,x::xs=>Fr.setL (f.set t x) ts xs
  | f,_,_=>f
theorem zvu {P:AV->Value->Prop} (nt:Nat):∀{ps:List Tmp} {xs:List AV} {vs:List Value} {f:Fr} {tm:Array Value},tm.size=nt->(∀p∈ps,p<nt)->(∀(j:Nat) x v,xs[j]?=some x->vs[j]?=some v->P x v)->xs.length=vs.length->(∀t,P (f t) (tm.getD t undef))->
    ∀t,P (Fr.setL f ps xs t) (((ps.zip vs).foldl (fun tm (p:Tmp×Value)=>tm.setIfInBounds p.1 p.2) tm).getD t undef)
  | [],xs,vs,f,tm,_,_,_,_,hf,t=>hf t
  | p::ps,[],[],f,tm,_,_,_,_,hf,t=>hf t
  | p::ps,x::xs,[],f,tm,_,_,_,hl,_,_=>by simp at hl
  | p::ps,[],v::vs,f,tm,_,_,_,hl,_,_=>by simp at hl
  | p::ps,x::xs,v::vs,f,tm,hsz,hps,hx,hl,hf,t=>by
    refine zvu nt (ps:=ps) (xs:=xs) (vs:=vs) (f:=f.set p x) (tm:=tm.setIfInBounds p v) (by simpa using hsz) (fun q hq=>hps q (by simp[hq])) (fun j y u h1 h2=>hx (j+1) y u (by simpa using h1) (by simpa using h2)) yaD (fun t=>?_) t;rw[zan];by_cases e:t=p
    . subst e
      have hp:t<tm.size:=by rw[hsz];exact hps t yw
      rw[ut rfl]
      have:(tm.setIfInBounds t v).getD t undef=v:=by simp[Array.getD,hp]
      rw[this];exact hx 0 x v rfl rfl
    rw[ur e];have hne:p≠t:=fun h=>e h.symm
    have:(tm.setIfInBounds p v).getD t undef=tm.getD t undef:=by simp[getD_eq_getD_getElem?,Array.getElem?_setIfInBounds,hne]
    rw[this];exact hf t
theorem setL_size {ps:List Tmp}:∀{vs:List Value} {tm:Array Value},((ps.zip vs).foldl (fun tm (p:Tmp×Value)=>tm.setIfInBounds p.1 p.2) tm).size=tm.size:=by
  induction ps with
  | nil=>intro vs tm;rfl
  | cons p ps ih =>
    intro vs tm;cases vs with
    | nil=>rfl
    | cons v vs=>rw[List.zip_cons_cons,List.foldl_cons,ih];simp
theorem zpw {nx:Nat}:∀{ps:List Tmp} {xs:List AV} {f:Fr},(∀t,(f t).under nx)->(∀x∈xs,x.under nx)->∀t,(Fr.setL f ps xs t).under nx
  | [],_,_,hf,_,t=>hf t
  | _::_,[],_,hf,_,t=>hf t
  | p::ps,x::xs,f,hf,hx,t=>zpw (ps:=ps) (xs:=xs) (f:=f.set p x) (fun t=>by
    rw[zan];by_cases e:t=p
    . rw[ut e];exact hx x yw
    rw[ur e];exact hf t) (fun y hy=>hx y ybt) t
theorem zo5 {x : Operand} {xs : Array Operand} {ts : Array TypeId} {P : Program} {l : Nat} {r : Loop} (ho : o.op = .call { callee := .value x, args := xs, argTypes := ts }) (hx : a.eval x = .func (.yield l) #[] #[]) (h : w.heap[l]? = some (.loop r)) (hs : xs.size = r.params.size) :
    (execOp a.eval o).run P w = .ok (.round l r.fn ((r.params.zip (xs.map a.eval)).foldl (fun tmps (t,a)=>tmps.setIfInBounds t a) r.tmps) r.assign r.body) w:=by
  have:=run_yield (P:=P) (args:=xs.map a.eval) h (by simpa using hs)
  unfold execOp;rw[ho];simp only[resolve,hx,Deferred.ofValue,Sem.run_bind,Sem.run_pure,Result.andThen_ok,invoke,Array.empty_append,Array.append_empty];simpa using this
theorem zo7 {P:Program} {l:Nat} {R R':Ending->World->Prop} (h:∀v w,R (.returned v) w->R' (.returned v) w):∀{e:Exit} {a:Act} {w:World},roundPost P l R e a w->roundPost P l R' e a w
  | .normal,_,_,⟨v,w',h1,h2⟩=>⟨v,w',h1,h _ _ h2⟩
  | .ret,_,_,⟨v,w',h1,h2⟩=>⟨v,w',h1,h _ _ h2⟩
  | .exit _,_,_,⟨v,w',h1,h2⟩=>⟨v,w',h1,h _ _ h2⟩
  | .goto _,_,_,⟨v,w',h1,h2⟩=>⟨v,w',h1,h _ _ h2⟩
  | .panic _,_,_,h'=>h'.elim
  | .outgrown,_,_,h'=>h'.elim
theorem zi7 {C : LoopC} {fni : Func} {x : Operand} {xs : Array Operand} {ts : Array TypeId} {d nL : Nat} (ho : o.op = .call { callee := .value x, args := xs, argTypes := ts }) (hd : o.dst = some d) (hg : o.guard = none) (hlt : Nat.blt d fni.ntmps = true) (hx : fr.ev x = .lit (.func (.yield C.l) #[] #[]))
    {rc:LoopState->Option Code->Obj} (hrc:rc=C.rc) (hL:hp nL = .objAt C.l (rc .ready none)) (hps:xs.size=C.ps.size) (hpl:C.ps.toList.all (fun p=>Nat.blt p C.J.nt)=true)
    (H:∀(a:Act) (ok:YieldOk C fni nx fr a d),
      AW (YieldC.asg ⟨C,fni,nx,fr,a,d,.ops ops rest::k,ok⟩) nx (Fr.setL C.fr C.ps.toList (xs.toList.map fr.ev)) hp [.code C.asg]) :
    AW (C.iter fni) nx fr hp (.ops ops (o::rest)::k):=by
  subst hrc;intro a w ⟨ρ,s⟩;have hlt:d<fni.ntmps:=yK;refine wpListIn_plain hg fun K hK=>?_
  have hxv:=zak s x;rw[hx] at hxv;have hxv:a.eval x=_:=hxv;have hl:=s.getObj hL;have hry:=zo5 (P:=C.J.P) ho hxv hl hps;have H:=H a ⟨s.size,s.defers,hlt,s.fnx,s.ble⟩;generalize hY:YieldC.mk C fni nx fr a d (.ops ops rest::k) ⟨s.size,s.defers,hlt,s.fnx,s.ble⟩=Y at H;have hYC:Y.C=C:=by rw[<-hY]
  refine⟨fun _ _=>trivial,?_⟩;show o.uponIn Fence.wide 0 C.J.P a K _ ((o.semAt none a.eval).run C.J.P w);rw[Oper.semAt_none,hry,Oper.uponIn_round];refine⟨(fun h=>by cases h),?_⟩
  have key:=H { tmps:=(C.ps.toList.zip (xs.toList.map a.eval)).foldl (fun tm (p:Tmp×Value)=>tm.setIfInBounds p.1 p.2) C.a.tmps,defers:=[] } w ⟨ρ,SimR.job s.toSimH (by subst hY;exact yac) (by subst hY;exact ug _)
    (by rw[setL_size];subst hY;exact C.ok.hsz) (by subst hY;rfl)
    (fun t=>zvu (P:=fun A v=>A.rel ρ (C.iter fni).B (Uu (C.iter fni) ρ hp) (Nn ρ hp) w v) C.J.nt C.ok.hsz (fun p hp=>by have:=List.all_eq_true.1 hpl p hp;simpa using this) (fun j A v h1 h2=>by
      rw[List.getElem?_map,map_eq_some_iff] at h1 h2;obtain⟨y,hy,rfl⟩:=h1;obtain⟨z,hz,rfl⟩:=h2;obtain rfl:y=z:=by rw[hy] at hz;exact Option.some.inj hz
      exact zak s y) yw (fun t=>s.brel (C.fr,C.a) (mem_cons_self ..) t) t)
    (zpw (fun t=>AV.under_mono s.ble (C.ok.hfr t)) (fun A hA=>by
      obtain⟨y,_,rfl⟩:=mem_map.1 hA;exact zbH s.fnx y))
    (fun p hp t=>by
      have hp:p∈(fr,a)::(C.fr,C.a)::C.J.bg:=by subst hY;exact hp
      rcases mem_cons.1 hp with e|hp
      . rw[e];exact s.frel t
      exact s.brel p hp t)⟩
  have hrt:(C.ps.toList.zip (xs.toList.map a.eval)).foldl (fun tm (p:Tmp×Value)=>tm.setIfInBounds p.1 p.2) C.a.tmps=((C.record .ready none).params.zip (xs.map a.eval)).foldl (fun tmps (t,a)=>tmps.setIfInBounds t a) (C.record .ready none).tmps:=by
    show _=(C.ps.zip (xs.map a.eval)).foldl _ C.a.tmps;rw[<-Array.foldl_toList,Array.toList_zip,toList_map]
  rw[hrt] at key;have hgo:∀ar,Kont Y.asg [.code C.asg] .normal ar w->C.asg.wpIn (Fence.wide.inRound C.l) 0 C.J.P (Kont Y.asg []) ar w:=fun ar hk=>by subst hY;exact hk
  refine roundIn_of_wpIn trivial (wpIn_mono (Q:=Kont Y.asg []) (hgo _ key) ?_);intro e a1 w1 hq;cases e with
  | normal =>
    obtain⟨w2,h1,h2⟩:=hq;refine⟨w2,by rw[<-hYC];exact h1,?_⟩;have h3:C.body.wpIn (Fence.wide.inRound C.l) 0 C.J.P (roundPost C.J.P C.l Y.R) a1 w2:=by subst hY;exact h2
    refine wpIn_mono h3 fun e a w h=>zo7 (fun v w h=>hK _ _ ?_) h
    rw[hd];subst hY;exact h
  | _=>exact hq.elim
theorem zjb {Y:YieldC} {nL:Nat} {rc:LoopState->Option Code->Obj} (hrc:rc=Y.C.rc) (hL:hp nL = .objAt Y.C.l (rc .ready none)) (H:AW Y.round nx fr (hp.set nL (.objAt Y.C.l (rc .busy none))) [.code Y.C.body]):AW Y.asg nx fr hp []:=by
  subst hrc;intro a w ⟨ρ,s⟩;obtain⟨h1,h2⟩:=s.putObj (o':=.loop (Y.C.record .busy none)) hL;refine⟨_,run_beginRound h1 rfl,H _ _ ⟨ρ,?_⟩⟩;exact SimR.job h2.toSimH yac h2.ble h2.size h2.defers h2.frel h2.fnx h2.brel
theorem sim_iter {Y:YieldC} {v:Value} {b:Bool} (s:SimR Y.round nx ρ fr hp a w) (hv:v = .bool b):SimR (Y.C.iter Y.fni) nx ρ (Y.fr.set Y.d (.val zo b)) hp (Y.a.put (some Y.d) v) w :=
  (SimR.job (J':=Y.C.iter Y.fni) s.toSimH yac (Nat.le_trans Y.ok.hbn s.ble) Y.ok.hsz Y.ok.had (s.brel (Y.fr,Y.a) (mem_cons_self ..)) (fun t=>AV.under_mono s.ble (Y.ok.hfr t)) fun p hp t=>s.brel p (mem_cons_of_mem _ hp) t).put Y.ok.hlt (zbo.2 hv) trivial
theorem znL {Y:YieldC} {nL:Nat} (j:Option Code) {rc:LoopState->Option Code->Obj} (hrc:rc=Y.C.rc) (hL:hp nL = .objAt Y.C.l (rc .busy none))
    (H:AW (Y.C.iter Y.fni) nx (Y.fr.set Y.d (.val zo j.isNone)) (hp.set nL (.objAt Y.C.l (rc (if j.isNone then .ready else .done) j))) Y.k) (s:SimR Y.round nx ρ fr hp a w):∃v w',(Instr.endRound Y.C.l j).run Y.C.J.P w = .ok v w'/\Y.R (.returned v) w':=by
  subst hrc;obtain⟨h1,h2⟩:=s.putObj (o':=.loop (Y.C.record (if j.isNone then .ready else .done) j)) hL;exact⟨_,_,run_endRound j h1,H _ _ ⟨ρ,sim_iter h2 rfl⟩⟩
theorem zdV {Y:YieldC} {nL:Nat} {rc:LoopState->Option Code->Obj} (hrc:rc=Y.C.rc) (hL:hp nL = .objAt Y.C.l (rc .busy none))
    (H:AW (Y.C.iter Y.fni) nx (Y.fr.set Y.d (.val zo true)) (hp.set nL (.objAt Y.C.l (rc .ready none))) Y.k):AW Y.round nx fr hp [] :=
  fun _ _ ⟨_,s⟩=>znL none hrc hL H s
theorem zml {Y:YieldC} {nL:Nat} {rc:LoopState->Option Code->Obj} (hrc:rc=Y.C.rc) (hL:hp nL = .objAt Y.C.l (rc .busy none))
    (H:AW (Y.C.iter Y.fni) nx (Y.fr.set Y.d (.val zo false)) (hp.set nL (.objAt Y.C.l (rc .done (some .ret)))) Y.k):AW Y.round nx fr hp (.code .ret::k) :=
  zaA fun _ _ ⟨_,s⟩=>znL (some .ret) hrc hL H s
theorem Kont.out (J:Job) {id:Nat}:∀{k:List It} {a:Act} {w:World},zo9 id k=none->J.post (.exit id) a w->Kont J k (.exit id) a w
  | [],_,_,_,h'=>h'
  | .code _::k,_,_,h,h'=>Kont.out J (k:=k) h h'
  | .ops ..::k,_,_,h,h'=>Kont.out J (k:=k) h h'
  | .again _::k,_,_,h,h'=>Kont.out J (k:=k) h h'
  | .inScope ..::k,_,_,h,h'=>Kont.out J (k:=k) h h'
  | .inBlock i::k,a,w,h,h'=>by
    simp only[zo9] at h;show(if id=i then Kont J k .normal a w else Kont J k (.exit id) a w);by_cases e:id=i
    . have:Nat.beq i id=true:=by rw[e];simp
      rw[this] at h;simp at h
    rw[ur e]
    have:Nat.beq i id=false:=by
      cases e':Nat.beq i id
      . rfl
      exact absurd (Nat.eq_of_beq_eq_true e').symm e
    rw[this] at h;exact Kont.out J (k:=k) h h'
theorem zrK {Y:YieldC} {nL id:Nat} (hk:zo9 id k=none) {rc:LoopState->Option Code->Obj} (hrc:rc=Y.C.rc) (hL:hp nL = .objAt Y.C.l (rc .busy none))
    (H:AW (Y.C.iter Y.fni) nx (Y.fr.set Y.d (.val zo false)) (hp.set nL (.objAt Y.C.l (rc .done (some (.exit id))))) Y.k):AW Y.round nx fr hp (.code (.exit id)::k) :=
  fun _ _ ⟨_,s⟩=>wpIn_exit (Kont.out _ hk (znL (some (.exit id)) hrc hL H s))
structure CallOk (J:Job) (nx:Nat) (fr:Fr) (a:Act) (d:Nat):Prop where
  hsz:a.tmps.size=J.nt
  had:a.defers=J.ds
  hlt:d<J.nt
  hfr:∀t,(fr t).under nx
  hbn:J.bn<=nx
structure CallC where
  J:Job
  nx:Nat
  fr:Fr
  a:Act
  d:Nat
  k:List It
  ok:CallOk J nx fr a d
def CallC.R (C:CallC):Ending->World->Prop
  | .returned v,w=>Kont C.J C.k .normal (C.a.put (some C.d) v) w
  | .panicked ch,w=>Kont C.J C.k (.panic ch) C.a w
  | _,_=>False
def CallC.job (C:CallC) (fni:Func):Job :=
  { C.J with
    fn:=fni,nt:=fni.ntmps,R:=C.R,rd:=none,ds:=[],bg:=(C.fr,C.a)::C.J.bg,bn:=C.nx
    bgb:=fun p hp t=>by
      rcases mem_cons.1 hp with e|hp
      . rw[e];exact C.ok.hfr t
      exact AV.under_mono C.ok.hbn (C.J.bgb p hp t)
    post:=bodyPostM Fence.wide 0 C.J.P fni C.R
    nrm:=fun _ _ _ h=>h
    fin:=fun _ _ _ _ h1 h2 _ h3=>zcA h1 h2 h3
    mark:=fun _ _ _ _ _ h1 h2 h3=>zg8 h1 h2 h3 }
theorem ztR {vs:List Value} {n t:Nat}:(vs.toArray++Array.replicate (n-vs.toArray.size) undef).getD t undef=(vs[t]?).getD undef:=by
  rw[getD_eq_getD_getElem?,Array.getElem?_append];by_cases c:t<vs.toArray.size
  . rw[ut c];simp
  rw[ur c];have hv:vs[t]?=none:=ybP;rw[hv,Array.getElem?_replicate]
  split<;>rfl
theorem z6 {f : FuncId} {fni : Func} {c : Code} {xs : Array Operand} {ts : Array TypeId} {d : Nat} (ho : o.op = .call { callee := .value (.func f), args := xs, argTypes := ts }) (hd : o.dst = some d) (hg : o.guard = none) (hlt : Nat.blt d J.nt = true)
    (hf:J.P.funcs[f]?=some fni) (hfb:fnB J.P f=true) (hb:fni.body=some c) (hn:Nat.ble xs.size fni.ntmps=true)
    (H:∀(a:Act) (ok:CallOk J nx fr a d),
      AW (CallC.job ⟨J,nx,fr,a,d,.ops ops rest::k,ok⟩ fni) nx (Fr.args 0 (xs.toList.map fr.ev) Fr.none) hp [.code c]) :
    AW J nx fr hp (.ops ops (o::rest)::k):=by
  intro a w ⟨ρ,s⟩;have hlt:d<J.nt:=yK;have hn:xs.size<=fni.ntmps:=ycc;refine zU hg yq fun K hK=>?_
  obtain⟨fn',h1,h2,h3⟩:=zbG hfb;unfold Oper.wp;rw[zfv ho h1 h2 h3,Oper.upon_enter];have H:=H a ⟨s.size,s.defers,hlt,s.fnx,s.ble⟩;generalize hC:CallC.mk J nx fr a d (.ops ops rest::k) ⟨s.size,s.defers,hlt,s.fnx,s.ble⟩=C at H
  have hfr:=zeF (P:=fun _ A v=>A.rel ρ J.B (Uu J ρ hp) (Nn ρ hp) w v/\A.under nx) (fun _ _=>⟨trivial,trivial⟩) (i:=0) (f:=Fr.none) (g:=fun _=>undef)
    (As:=xs.toList.map fr.ev) (vs:=xs.toList.map a.eval) yw
    (fun j A v e1 e2 _=>by
      simp only[List.getElem?_map,map_eq_some_iff] at e1 e2;obtain⟨n,hn1,rfl⟩:=e1;obtain⟨m,hm1,rfl⟩:=e2;obtain rfl:n=m:=ycj;exact⟨zak s n,zbH s.fnx n⟩) (fun t=>⟨trivial,trivial⟩) (fun _ _=>rfl)
  have key:Calls J.P f (xs.toList.map a.eval).toArray w C.R:=by
    refine ze0 hf hb ?_;have h4:=H { tmps:=(xs.toList.map a.eval).toArray++Array.replicate (fni.ntmps-(xs.toList.map a.eval).toArray.size) undef,defers:=[] } w ⟨ρ,SimR.job s.toSimH (by subst hC;exact yac) (by subst hC;exact ug _) (by
      have e:(C.job fni).nt=fni.ntmps:=by subst hC;rfl
      rw[e];simp;omega) (by subst hC;rfl) (fun t=>by
        rw[ztR];have h1:=(hfr t).1;rw[ur (not_lt_zero t),sub_zero] at h1;exact h1) (fun t=>(hfr t).2) (fun p hp t=>by
        have hp:p∈(fr,a)::J.bg:=by subst hC;exact hp
        rcases mem_cons.1 hp with e|hp
        . rw[e];exact s.frel t
        exact s.brel p hp t)⟩
    subst hC;exact h4
  have e:(xs.toList.map a.eval).toArray=xs.map a.eval:=yca;rw[e] at key;refine Calls.mono key fun en w' he=>?_
  cases en with
  | returned v =>
    rw[hd];subst hC;exact hK _ _ he
  | panicked c=>subst hC;exact he
  | outgrown=>exact he.elim
theorem zet {C:CallC} {fni:Func} (s:SimR (C.job fni) nx ρ fr hp a w):SimR C.J nx ρ C.fr hp C.a w :=
  SimR.job s.toSimH yac (Nat.le_trans C.ok.hbn s.ble) C.ok.hsz C.ok.had (s.brel (C.fr,C.a) (mem_cons_self ..)) (fun t=>AV.under_mono s.ble (C.ok.hfr t)) fun p hp t=>s.brel p (mem_cons_of_mem _ hp) t
theorem zcx {C:CallC} {fni:Func} {t:Tmp} (hres:fni.results = #[.tmp t]) (H:AW C.J nx (C.fr.set C.d (fr t)) hp C.k):AW (C.job fni) nx fr hp (.code .ret::k) :=
  zaA fun _ _ ⟨ρ,s⟩=>zcA s.defers (results_tmp hres _ _ _) (H _ _ ⟨ρ,(zet s).put C.ok.hlt (s.frel t) (s.fnx t)⟩)
theorem zhK {C:CallC} {fni:Func} {t u:Tmp} (hres:fni.results = #[.tmp t,.tmp u]) (H:AW C.J nx (C.fr.set C.d (.tup2 (fr t) (fr u))) hp C.k):AW (C.job fni) nx fr hp (.code .ret::k) :=
  zaA fun _ _ ⟨ρ,s⟩=>zcA s.defers (results_tmp2 hres _ _ _) (H _ _ ⟨ρ,(zet s).put C.ok.hlt ⟨_,_,rfl,s.frel t,s.frel u⟩ ⟨s.fnx t,s.fnx u⟩⟩)
end
end Go.Ab
namespace Go.Ab
open Go.RowKit
def zii:Nat->List AV->Option AV
  | _,[]=>none
  | off,x::xs=>bif Nat.beq off 0 then some x else bif Nat.ble x.cells off then zii (off-x.cells) xs else none
def ze9:Nat->AV->List AV->List AV
  | _,_,[]=>[]
  | off,y,x::xs=>bif Nat.beq off 0 then y::xs else bif Nat.ble x.cells off then x::ze9 (off-x.cells) y xs else x::xs
abbrev flatV (vs:List Value):List Value:=vs.flatMap fun v=>v.cells.toList
def AV.isOne (hp:Hp):AV->Bool
  | .lit v=>v.oneCell'&&Nat.beq v.cells.size 1
  | .ptr .. | .eptr .. | .rptr .. | .clo .. | .bnd .. | .fn1 .. | .fn2 .. | .vw .. | .osub ..=>true
  | .own n=>match hp n with
    | .none_=>false
    | _=>true
  | .val T _=>!T.agg
  | _=>false
section
variable {J:Job} {nx:Nat} {ρ:Nat->Value} {fr:Fr} {hp:Hp} {a:Act} {w w':World} {k:List It} {ops:Array Oper} {rest:List Oper} {o:Oper}
variable {α Z:Type} {T:GoT α} {S:GoT Z} {get:α->Z} {set:α->Z->α} {B U N:Nat->Prop}
theorem zlG (p:Option Addr):(Value.pointer p).oneCell'=true/\(Value.pointer p).cells.size=1:=⟨rfl,rfl⟩
theorem zn1 (p:Option Addr) (l c:Nat):(Value.slice p l c).oneCell'=true/\(Value.slice p l c).cells.size=1:=⟨rfl,rfl⟩
theorem zq4 (f:Fn) (b c:Array Value):(Value.func f b c).oneCell'=true/\(Value.func f b c).cells.size=1:=⟨rfl,rfl⟩
theorem zg6 {v:Value} (h:v.oneCell'=true) (hs:v.cells.size=1):v.cells.toList=[v]:=yb7
theorem zo1.one {v:Value} {C:World->(Nat->Prop)->FuncId->Array Value->Prop} (h:zo1 U N w v C):v.oneCell'=true/\v.cells.size=1:=by
  obtain⟨_,_,_,_,e,_⟩:=h;rw[e];exact zq4 _ _ _
theorem one_of (s:SimH J nx ρ hp w):∀{x:AV} {v:Value},x.isOne hp=true->x.rel ρ J.B (Uu J ρ hp) (Nn ρ hp) w v->v.oneCell'=true/\v.cells.size=1
  | .lit v,_,h,(e:_=_)=>by
    rw[e];unfold AV.isOne at h;simpa using h
  | .ptr ..,_,_,⟨_,_,e⟩=>by rw[e];exact zlG _
  | .eptr ..,_,_,⟨_,_,_,_,e⟩=>by rw[e];exact zlG _
  | .rptr ..,_,_,⟨_,e,_⟩=>by rw[e];exact zlG _
  | .clo ..,_,_,(e:_=_)=>by rw[e];exact zq4 _ _ _
  | .bnd ..,_,_,⟨_,_,e⟩=>by rw[e];exact zq4 _ _ _
  | .fn1 ..,_,_,h=>zo1.one h
  | .fn2 ..,_,_,h=>zo1.one h
  | .vw ..,_,_,⟨_,_,_,e,_⟩=>by rw[e];exact zn1 _ _ _
  | .osub ..,_,_,⟨_,_,_,_,_,e⟩=>by rw[e];exact zn1 _ _ _
  | .val T x,v,h,hv=>by
    have hag:T.agg=false:=by unfold AV.isOne at h;simpa using h
    have hr:=GoT.val_cells hv;have h1:=T.len hr;rw[T.sc hag] at h1;obtain⟨cs,_,h2|h2⟩:=hv
    . rw[hag] at h2;exact absurd h2.1 yl
    have:=T.one yj v (by rw[h2.2];simp)
    exact⟨this,by simpa using h1⟩
  | .own n,v,h,(e:_=_)=>by
    have hr:=s.hrel n;have h':(match hp n with | .none_=>false|_=>true)=true:=h;rw[e];generalize hp n=x at hr h';cases x with
    | none_=>cases h'
    | box ty T x=>obtain⟨g,_,e,_⟩:=hr;rw[e];exact zlG _
    | parts ty xs=>obtain⟨g,_,e,_⟩:=hr;rw[e];exact zlG _
    | objAt b o=>obtain⟨e,_⟩:=hr;rw[e];exact zlG _
    | row e T l =>
      obtain⟨xs,ho,_⟩:=hr;rcases ho.2 with ⟨h,_⟩|⟨g,cap,cur,h,_⟩<;>(rw[h];exact zn1 _ _ _)
theorem relL_at:∀{xs:List AV} {vs:List Value} {off:Nat} {X:AV},AV.relL ρ B U N w xs vs->zii off xs=some X->
    ∃pre v post,vs=pre++v::post/\X.rel ρ B U N w v/\(flatV pre).length=off/\v.cells.size=X.cells/\(∀u∈v.cells.toList,u.oneCell'=true)/\
      ∀(Y:AV) (v':Value),Y.rel ρ B U N w v'->v'.cells.size=Y.cells->(∀u∈v'.cells.toList,u.oneCell'=true)->AV.relL ρ B U N w (ze9 off Y xs) (pre++v'::post)
  | [],_,_,_,_,h=>by cases h
  | x::xs,vs,off,X,⟨v,us,e,h1,h2,h3,h4⟩,h=>by
    unfold zii at h;cases c:Nat.beq off 0 with
    | true =>
      rw[c] at h;simp only[cond_true,Option.some.injEq] at h;subst h;obtain rfl:off=0:=Nat.eq_of_beq_eq_true c;exact⟨[],v,us,e,h1,rfl,h2,h3,fun Y v' g1 g2 g3=>⟨v',us,rfl,g1,g2,g3,h4⟩⟩
    | false =>
      rw[c] at h;simp only[cond_false] at h;cases c2:Nat.ble x.cells off with
      | false=>rw[c2] at h;cases h
      | true =>
        rw[c2] at h;simp only[cond_true] at h;obtain⟨pre,u,post,e1,g1,g2,g3,g4,g5⟩:=relL_at h4 h;have hle:=Nat.le_of_ble_eq_true c2;refine⟨v::pre,u,post,by rw[e,e1];rfl,g1,?_,g3,g4,fun Y v' a1 a2 a3=>?_⟩
        . rw[flatV,flatMap_cons,ue]
          have:v.cells.toList.length=x.cells:=by simpa using h2
          rw[this,g2];omega
        unfold ze9;rw[c,c2];exact⟨v,_,rfl,h1,h2,h3,g5 Y v' a1 a2 a3⟩
theorem zhl:∀{xs:List AV} {off:Nat} {Y:AV},(∀x∈xs,x.under nx)->Y.under nx->∀x∈ze9 off Y xs,x.under nx
  | [],_,_,_,_,x,hx=>by cases hx
  | z::xs,off,Y,hx,hY,x,hm=>by
    unfold ze9 at hm;cases c:Nat.beq off 0 with
    | true =>
      rw[c] at hm;rcases mem_cons.1 hm with e|hm
      . rw[e];exact hY
      exact hx x (by simp[hm])
    | false =>
      rw[c] at hm;cases c2:Nat.ble z.cells off with
      | false =>
        rw[c2] at hm;exact hx x hm
      | true =>
        rw[c2] at hm;rcases mem_cons.1 hm with e|hm
        . rw[e];exact hx z yw
        exact zhl (fun y hy=>hx y ybt) hY x hm
theorem zpJ:∀{xs:List AV} {off:Nat} {X:AV},zii off xs=some X->X∈xs
  | [],_,_,h=>by cases h
  | x::xs,off,X,h=>by
    unfold zii at h;cases c:Nat.beq off 0 with
    | true=>rw[c] at h;simp at h;simp[h]
    | false =>
      rw[c] at h;cases c2:Nat.ble x.cells off with
      | false=>rw[c2] at h;cases h
      | true=>rw[c2] at h;exact mem_cons_of_mem _ (zpJ h)
theorem zrM {ty d:Nat} {y:Operand} {Y:AV} (ho:o.op = .box ty y) (hd:o.dst=some d) (hg:o.guard=none) (hlt:Nat.blt d J.nt=true) (hy:fr.ev y=Y) (h1:Y.isOne hp=true) (hc:Y.cells=1)
    (H:AW J (nx+1) (fr.set d (.ptr nx 0)) (hp.set nx (.parts ty [Y])) (.ops ops rest::k)):AW J nx fr hp (.ops ops (o::rest)::k):=by
  intro a w ⟨ρ,s⟩;refine zU hg yq fun K hK=>?_
  have h:=zak s y;have hu:=zbH s.fnx y;rw[hy] at h hu;obtain⟨g1,g2⟩:=one_of s.toSimH h1 h;have hrun:(execOp a.eval o).run J.P w = .ok (.value (.pointer (some ⟨w.heap.size,0,none⟩))) (w.alloc (.cells (a.eval y).cells ty)):=by
    unfold execOp;rw[ho];simp[Instr.box,Sem.run_bind,newVar,newRow,newObj,Sem.run]
  unfold Oper.wp;rw[hrun,Oper.upon_value,hd];have hcs:(a.eval y).cells=(flatV [a.eval y]).toArray:=yw
  refine hK _ _ (H _ _ ⟨_,(s.bind (p:=.pointer (some ⟨w.heap.size,0,none⟩)) (x:=.parts ty [Y]) (zbl _ _) (fun b e=>by simp only[zaH,Option.some.injEq] at e;subst e;exact⟨ug _,by simp⟩)
    (fun kp=>⟨w.heap.size,[a.eval y],rfl,by rw[<-hcs];exact heap_alloc_new w _,a.eval y,[],rfl,AV.rel_ren (nx:=nx) (fun n hn=>by unfold ren;rw[ur ya]) hu (AV.rel_mono kp hu h),g2.trans hc.symm,(fun u hu=>by rw[zg6 g1 g2] at hu;simp at hu;rw[hu];exact g1),rfl⟩)
    (fun x hx=>by simp only[mem_singleton] at hx;subst hx;exact AV.under_mono (le_succ nx) hu)).put yK ⟨w.heap.size,by unfold ren;simp,rfl⟩ (lt_succ_self nx)⟩)
theorem zjc {ty d:Nat} {v:Value} (hz:(J.P.info? ty).bind (·.zero)=some v) (h1:v.oneCell'=true) (h2:v.cells.size=1) (ho:o.op = .alloc ty) (hd:o.dst=some d) (hg:o.guard=none) (hlt:Nat.blt d J.nt=true)
    (H:AW J (nx+1) (fr.set d (.ptr nx 0)) (hp.set nx (.parts ty [.lit v])) (.ops ops rest::k)):AW J nx fr hp (.ops ops (o::rest)::k):=by
  intro a w ⟨ρ,s⟩;refine zU hg yq fun K hK=>?_
  obtain⟨i,h3,h4⟩:=bind_eq_some_iff.1 hz;have hrun:(execOp a.eval o).run J.P w = .ok (.value (.pointer (some ⟨w.heap.size,0,none⟩))) (w.alloc (.cells v.cells ty)):=by
    unfold execOp;rw[ho];simp[Instr.alloc,zeroValue,typeInfo,Sem.run_bind,h3,h4,newVar,newRow,newObj,Sem.run]
  unfold Oper.wp;rw[hrun,Oper.upon_value,hd];have hcs:v.cells=(flatV [v]).toArray:=yw
  refine hK _ _ (H _ _ ⟨_,(s.bind (p:=.pointer (some ⟨w.heap.size,0,none⟩)) (x:=.parts ty [.lit v]) (zbl _ _) (fun b e=>by simp only[zaH,Option.some.injEq] at e;subst e;exact⟨ug _,by simp⟩)
    (fun kp=>⟨w.heap.size,[v],rfl,by rw[<-hcs];exact heap_alloc_new w _,v,[],rfl,rfl,h2,(fun u hu=>by rw[zg6 h1 h2] at hu;simp at hu;rw[hu];exact h1),rfl⟩)
    (fun x hx=>by simp only[mem_singleton] at hx;subst hx;trivial)).put yK ⟨w.heap.size,by unfold ren;simp,rfl⟩ (lt_succ_self nx)⟩)
theorem znW (s:SimH J nx ρ hp w) {n off ty:Nat} {xs:List AV} {X:AV} {v:Value} (hn:hp n = .parts ty xs) (hX:zii off xs=some X) (hv:(AV.ptr n off).rel ρ J.B (Uu J ρ hp) (Nn ρ hp) w v) :
    ∃g pre u post,ρ n = .pointer (some ⟨g,0,none⟩)/\v = .pointer (some ((⟨g,0,none⟩:Addr).add off))/\w.heap[g]?=some (.cells (flatV (pre++u::post)).toArray ty (0,0))/\(flatV pre).length=off/\X.rel ρ J.B (Uu J ρ hp) (Nn ρ hp) w u/\u.cells.size=X.cells/\(∀z∈u.cells.toList,z.oneCell'=true)/\
      (∀(Y:AV) (v':Value),Y.rel ρ J.B (Uu J ρ hp) (Nn ρ hp) w v'->v'.cells.size=Y.cells->(∀u∈v'.cells.toList,u.oneCell'=true)->AV.relL ρ J.B (Uu J ρ hp) (Nn ρ hp) w (ze9 off Y xs) (pre++v'::post))/\
      ∀(j:Nat) z,u.cells[j]?=some z->w.cell? (((⟨g,0,none⟩:Addr).add off).add j)=some z:=by
  obtain⟨g,e1,e2⟩:=hv;have hh:=s.hrel n;rw[hn] at hh;obtain⟨g',vs,e3,hg,hr⟩:=hh;obtain rfl:g=g':=yb8;obtain⟨pre,u,post,e4,h1,h2,h3,h4,h5⟩:=relL_at hr hX;refine⟨g,pre,u,post,e1,e2,by rw[<-e4];exact hg,h2,h1,h3,h4,h5,fun j z hz=>?_⟩;rw[zbO,zgz,cell_of_row w g _ _ ty (0,0) hg,e4]
  have:flatV (pre++u::post)=flatV pre++(u.cells.toList++flatV post):=by simp[flatV]
  simp only[this,List.getElem?_toArray];have hj:=(Array.getElem?_eq_some_iff.1 hz).1;rw[List.getElem?_append_right (by rw[h2];exact le_add_right _ _),h2,Nat.add_sub_cancel_left,List.getElem?_append_left (by simpa using hj)];simpa using hz
theorem zaf {t ty n off:Nat} {x:Operand} {xs:List AV} {X:AV} (ho:o.op = .load t x) (hx:fr.ev x = .ptr n off) (hn:hp n = .parts ty xs) (hX:zii off xs=some X) (h1:X.isOne hp=true) (ht:tyB J.P t 1 false=true):OpG J o fr hp X where
  run {nx ρ a w} s hr hu K Q hK:=by
    have h:=hr x ym;rw[hx] at h;obtain⟨g,pre,u,post,e1,e2,hg,h2,h3,h4,h5,_,h6⟩:=znW s hn hX h;obtain⟨g1,g2⟩:=one_of s h1 h3;have hc:=h6 0 u (by have:=zg6 g1 g2;rw[<-Array.getElem?_toList,this];rfl);rw[add_zero] at hc;obtain⟨_,t1,t2⟩:=zfs ht w;have hrun:(execOp a.eval o).run J.P w = .ok (.value u) w:=by
      unfold execOp;rw[ho];simp[Instr.loadAt,Instr.sureAddr,Sem.run_bind,e2,loadVar,t1,load,Sem.run,hc]
    unfold Oper.wp;rw[hrun];exact hK u w (Below.refl _ _) h3
  und {nx} hb _:=by
    have:=(hb n).2
    rw[hn] at this;exact this X (zpJ hX)
  nd c hc:=ycb
theorem part_val (s:SimH J nx ρ hp w) {n off ty:Nat} {xs:List AV} {x:α} {v:Value} (hn:hp n = .parts ty xs) (hX:zii off xs=some (.val T x)) (hv:(AV.ptr n off).rel ρ J.B (Uu J ρ hp) (Nn ρ hp) w v) :
    ∃g,ρ n = .pointer (some ⟨g,0,none⟩)/\v = .pointer (some ((⟨g,0,none⟩:Addr).add off))/\T.at_ (Uu J ρ hp) (Nn ρ hp) w ((⟨g,0,none⟩:Addr).add off) x:=by
  obtain⟨g,pre,u,post,e1,e2,_,_,h3,_,_,_,h6⟩:=znW s hn hX hv;exact⟨g,e1,e2,_,GoT.val_cells h3,fun j z hz=>h6 j z (by simpa using hz)⟩
theorem zon {t ty n off:Nat} {x:Operand} {xs:List AV} {c:α} (ho:o.op = .load t x) (hx:fr.ev x = .ptr n off) (hn:hp n = .parts ty xs) (hX:zii off xs=some (.val T c)) (ht:tyB J.P t T.size T.agg=true):OpG J o fr hp (.val T c):=by
  refine .of_run (fun s hr _=>?_) (fun _ _=>trivial);have h:=hr x ym;rw[hx] at h;obtain⟨g,_,e,hat⟩:=part_val s hn hX h;obtain⟨v,h1,h2⟩:=zcD ht hat
  refine⟨v,?_,h2⟩;unfold execOp;rw[ho];simp[Instr.loadAt,Instr.sureAddr,Sem.run_bind,e,h1]
theorem zay {t ty:TypeId} {x y:Operand} {n off:Nat} {xs:List AV} {X Y:AV} {ag:Bool} (ho:o.op = .store t x y) (hd:o.dst=none) (hg:o.guard=none) (hx:fr.ev x = .ptr n off) (hn:hp n = .parts ty xs) (hX:zii off xs=some X)
    (hy:fr.ev y=Y) (h1:Y.isOne hp=true) (hc:Y.cells=1) (hcX:X.cells=1) (ht:tyB J.P t 1 ag=true) (H:AW J nx fr (hp.set n (.parts ty (ze9 off Y xs))) (.ops ops rest::k)):AW J nx fr hp (.ops ops (o::rest)::k):=by
  intro a w ⟨ρ,s⟩;refine zU hg yq fun K hK=>?_
  have h:=zak s x;have h':=zak s y;have hu:=zbH s.fnx y;rw[hx] at h;rw[hy] at h' hu;obtain⟨g1,g2⟩:=one_of s.toSimH h1 h';obtain⟨g,pre,u,post,e1,e2,hgc,h2,h3,h4,h5,h6,_⟩:=znW s.toSimH hn hX h;have hu1:u.cells.size=1:=h4.trans hcX;have hrun:=zb5 (w:=w) (P:=J.P) (off:=off) (v:=a.eval y) ht g2 (fun z hz=>by rw[zg6 g1 g2] at hz;simp at hz;rw[hz];exact g1) hgc (by
    have:(flatV (pre++u::post)).length=(flatV pre).length+(u.cells.size+(flatV post).length):=yck
    rw[size_toArray,this,h2,hu1];omega)
  have hnew:(flatV (pre++u::post)).toArray.toList.take off++(a.eval y).cells.toList++(flatV (pre++u::post)).toArray.toList.drop (off+1)=flatV (pre++a.eval y::post):=by
    have e3:flatV (pre++u::post)=flatV pre++(u.cells.toList++flatV post):=ycl;have e4:flatV (pre++a.eval y::post)=flatV pre++((a.eval y).cells.toList++flatV post):=ycl;rw[toList_toArray,e3,e4,<-h2,take_left' rfl,<-drop_drop,drop_left' rfl,drop_left' (by simpa using hu1),List.append_assoc]
  rw[hnew] at hrun;have hex:(execOp a.eval o).run J.P w = .ok .skip (w.setRow g (flatV (pre++a.eval y::post)).toArray):=by
    unfold execOp;rw[ho];simp only[e2,Instr.storeAt,Instr.sureAddr,Sem.run_bind,Sem.run_pure,Result.andThen_ok,hrun]
  unfold Oper.wp;rw[hex,Oper.upon_skip,hd];refine hK _ _ ?_;have hux:∀x∈ze9 off Y xs,x.under nx:=zhl ybA hu
  exact H _ _ ⟨ρ,s.modify (x:=.parts ty (ze9 off Y xs)) hn trivial trivial yw rfl rfl rfl (fun b hb=>setRow_other w g b _ (fun e=>hb yaq))
    (fun kp=>⟨g,pre++a.eval y::post,e1,setRow_heap w g _ _ ty (0,0) hgc,AV.relL_mono kp hux (h6 Y _ h' (g2.trans hc.symm) (fun z hz=>by rw[zg6 g1 g2] at hz;simp at hz;rw[hz];exact g1))⟩) (ug _) hux⟩
end
theorem hpB {x y:HE} {ty:TypeId} {α:Type} {T:GoT α} {v:α} (h1:x = .box ty T v) (h2:y = .box ty T v):x=y:=h1.trans h2.symm
end Go.Ab
namespace Go.Ab
open Go.RowKit
section
variable {J:Job} {nx:Nat} {fr:Fr} {hp:Hp} {k:List It} {ops:Array Oper} {rest:List Oper} {o oj:Oper} {id:Nat} {l:List Oper} {c y z:Code}
theorem CN (h:AW J nx fr hp (k)):AW J nx fr hp (.ops ops []::k):=zD h
theorem CQ (h:AW J nx fr hp (.code c :: .code y::k)):AW J nx fr hp (.code (c.seq y)::k):=zgr h
theorem CR (h:AW J nx fr hp (.ops l.toArray l::k)):AW J nx fr hp (.code (.region id l.toArray false)::k):=zcW h
theorem CS (h:AW J nx fr hp (k)):AW J nx fr hp (.code .skip::k):=zlT h
theorem CB (h:AW J nx fr hp (.code c :: .inBlock id::k)):AW J nx fr hp (.code (.block id c)::k):=zrN h
theorem CI (h:AW J nx fr hp (k)):AW J nx fr hp (.inBlock id::k):=zlU h
theorem CQR (h:AW J nx fr hp (.ops l.toArray l :: .code y::k)):AW J nx fr hp (.code ((Code.region id l.toArray false).seq y)::k):=zgr (zcW h)
theorem CNQ (h:AW J nx fr hp (.code c :: .code y::k)):AW J nx fr hp (.ops ops [] :: .code (c.seq y)::k):=zD (zgr h)
theorem CNR (h:AW J nx fr hp (.ops l.toArray l::k)):AW J nx fr hp (.ops ops [] :: .code (.region id l.toArray false)::k):=zD (zcW h)
theorem CNQR (h:AW J nx fr hp (.ops l.toArray l :: .code y::k)):AW J nx fr hp (.ops ops [] :: .code ((Code.region id l.toArray false).seq y)::k):=zD (zgr (zcW h))
theorem CQQR (h:AW J nx fr hp (.ops l.toArray l :: .code z :: .code y::k)):AW J nx fr hp (.code (((Code.region id l.toArray false).seq z).seq y)::k):=zgr (zgr (zcW h))
theorem CNQQR (h:AW J nx fr hp (.ops l.toArray l :: .code z :: .code y::k)):AW J nx fr hp (.ops ops [] :: .code (((Code.region id l.toArray false).seq z).seq y)::k):=zD (zgr (zgr (zcW h)))
theorem CSQR (h:AW J nx fr hp (.ops l.toArray l :: .code y::k)):AW J nx fr hp (.code .skip :: .code ((Code.region id l.toArray false).seq y)::k):=zlT (zgr (zcW h))
theorem CSQQR (h:AW J nx fr hp (.ops l.toArray l :: .code z :: .code y::k)):AW J nx fr hp (.code .skip :: .code (((Code.region id l.toArray false).seq z).seq y)::k):=zlT (zgr (zgr (zcW h)))
theorem CNB (h:AW J nx fr hp (.code c :: .inBlock id::k)):AW J nx fr hp (.ops ops [] :: .code (.block id c)::k):=zD (zrN h)
theorem CSQBQR {i:Nat} (h:AW J nx fr hp (.ops l.toArray l :: .code z :: .inBlock i :: .code y::k)):AW J nx fr hp (.code .skip :: .code ((Code.block i ((Code.region id l.toArray false).seq z)).seq y)::k):=zlT (zgr (zrN (zgr (zcW h))))
theorem CNIR {i:Nat} (h:AW J nx fr hp (.ops l.toArray l::k)):AW J nx fr hp (.ops ops [] :: .inBlock i :: .code (.region id l.toArray false)::k):=zD (zlU (zcW h))
theorem CSIR {i:Nat} (h:AW J nx fr hp (.ops l.toArray l::k)):AW J nx fr hp (.code .skip :: .inBlock i :: .code (.region id l.toArray false)::k):=zlT (zlU (zcW h))
theorem CE {k':List It} (h:AW J nx fr hp k') (e:zo9 id k=some k':=by exact rfl):AW J nx fr hp (.code (.exit id)::k):=aw_exit e h
theorem CD (hm:J.P.follows .mixedOrders=true) (h:GK J nx hp l.toArray k l fr) (hB:Region.lexB .any l.toArray=true:=by decide +kernel):AW J nx fr hp (.code (.region id l.toArray true)::k):=aw_draw hm hB h
variable {x:AV} {d j t:Nat} {b want:Bool}
theorem A0 (h:OpG J o fr hp x) (H:AW J nx (fr.set d x) hp (.ops ops rest::k)) (hd:o.dst=some d:=by exact rfl) (hg:o.guard=none:=by exact rfl) (hl:Nat.blt d J.nt=true:=by exact rfl):AW J nx fr hp (.ops ops (o::rest)::k):=aw_g h hd hg hl H
theorem A1 (h:OpG J o fr hp x) (H:AW J nx (fr.set d x) hp (.ops ops rest::k)) (hd:o.dst=some d:=by exact rfl) (hg:o.guard=some (j,want):=by exact rfl) (ho:ops[j]?=some oj:=by exact rfl) (hj:oj.dst=some t:=by exact rfl) (hv:fr t = .val zo b:=by exact rfl) (ht:Nat.blt t J.nt=true:=by exact rfl) (hw:b=want:=by exact rfl) (hl:Nat.blt d J.nt=true:=by exact rfl):AW J nx fr hp (.ops ops (o::rest)::k):=aw_gi h hd hg ho hj hv ht hw hl H
theorem A2 (H:AW J nx (fr.set d (.lit undef)) hp (.ops ops rest::k)) (hd:o.dst=some d:=by exact rfl) (hg:o.guard=some (j,want):=by exact rfl) (ho:ops[j]?=some oj:=by exact rfl) (hj:oj.dst=some t:=by exact rfl) (hv:fr t = .val zo b:=by exact rfl) (ht:Nat.blt t J.nt=true:=by exact rfl) (hw:(b==want)=false:=by exact rfl) (hl:Nat.blt d J.nt=true:=by exact rfl):AW J nx fr hp (.ops ops (o::rest)::k):=aw_gn hd hg ho hj hv ht hw hl H
theorem A3 (H:AW J nx (fr.set d (.lit undef)) hp (.ops ops rest::k)) (hd:o.dst=some d:=by exact rfl) (hg:o.guard=some (j,want):=by exact rfl) (ho:ops[j]?=some oj:=by exact rfl) (hj:oj.dst=some t:=by exact rfl) (hv:fr t = .lit undef:=by exact rfl) (ht:Nat.blt t J.nt=true:=by exact rfl) (hl:Nat.blt d J.nt=true:=by exact rfl):AW J nx fr hp (.ops ops (o::rest)::k):=aw_gu hd hg ho hj hv ht hl H
theorem G0 (h:OpG J o fr hp x) (H:GK J nx hp ops k rest (fr.set d x)) (hd:o.dst=some d:=by exact rfl) (hg:o.guard=none:=by exact rfl) (hl:Nat.blt d J.nt=true:=by exact rfl):GK J nx hp ops k (o::rest) fr:=GK.g h hd hg hl H
theorem G1 (h:OpG J o fr hp x) (H:GK J nx hp ops k rest (fr.set d x)) (hd:o.dst=some d:=by exact rfl) (hg:o.guard=some (j,want):=by exact rfl) (ho:ops[j]?=some oj:=by exact rfl) (hj:oj.dst=some t:=by exact rfl) (hv:fr t = .val zo b:=by exact rfl) (ht:Nat.blt t J.nt=true:=by exact rfl) (hw:b=want:=by exact rfl) (hl:Nat.blt d J.nt=true:=by exact rfl):GK J nx hp ops k (o::rest) fr:=GK.gi h hd hg ho hj hv ht hw hl H
theorem G2 (H:GK J nx hp ops k rest (fr.set d (.lit undef))) (hd:o.dst=some d:=by exact rfl) (hg:o.guard=some (j,want):=by exact rfl) (ho:ops[j]?=some oj:=by exact rfl) (hj:oj.dst=some t:=by exact rfl) (hv:fr t = .val zo b:=by exact rfl) (ht:Nat.blt t J.nt=true:=by exact rfl) (hw:(b==want)=false:=by exact rfl) (hl:Nat.blt d J.nt=true:=by exact rfl):GK J nx hp ops k (o::rest) fr:=GK.gn hd hg ho hj hv ht hw hl H
theorem G3 (H:GK J nx hp ops k rest (fr.set d (.lit undef))) (hd:o.dst=some d:=by exact rfl) (hg:o.guard=some (j,want):=by exact rfl) (ho:ops[j]?=some oj:=by exact rfl) (hj:oj.dst=some t:=by exact rfl) (hv:fr t = .lit undef:=by exact rfl) (ht:Nat.blt t J.nt=true:=by exact rfl) (hl:Nat.blt d J.nt=true:=by exact rfl):GK J nx hp ops k (o::rest) fr:=GK.gu hd hg ho hj hv ht hl H
theorem X0 {info:List (Option Nat)} {s:XS} {S:List XS} {pd:List (Nat×HE×Nat)} (h:OpG J o fr s.hp x) (H:XK J ops k info rest (s::S) (fr.set d x) pd) (hd:o.dst=some d:=by exact rfl) (hg:o.guard=none:=by exact rfl) (hl:Nat.blt d J.nt=true:=by exact rfl):XK J ops k (some 1::info) (o::rest) (s::S) fr pd:=XK.g h hd hg hl H
theorem mV {y:Operand} {α:Type} {T:GoT α} {x:α} (ho:o.op = .move y:=by exact rfl) (hx:fr.ev y = .val T x:=by exact rfl):OpG J o fr hp (.val T x):=g_mv (.inl ho) hx
theorem aV {y:Operand} {α:Type} {T:GoT α} {x:α} (ho:o.op = .assign y:=by exact rfl) (hx:fr.ev y = .val T x:=by exact rfl):OpG J o fr hp (.val T x):=g_mv (.inr ho) hx
theorem mP {y:Operand} {n off:Nat} (ho:o.op = .move y:=by exact rfl) (hx:fr.ev y = .ptr n off:=by exact rfl):OpG J o fr hp (.ptr n off):=g_mp (.inl ho) hx
theorem aP {y:Operand} {n off:Nat} (ho:o.op = .assign y:=by exact rfl) (hx:fr.ev y = .ptr n off:=by exact rfl):OpG J o fr hp (.ptr n off):=g_mp (.inr ho) hx
theorem mO {y:Operand} {n:Nat} (ho:o.op = .move y:=by exact rfl) (hx:fr.ev y = .own n:=by exact rfl):OpG J o fr hp (.own n):=g_mo (.inl ho) hx
theorem aO {y:Operand} {n:Nat} (ho:o.op = .assign y:=by exact rfl) (hx:fr.ev y = .own n:=by exact rfl):OpG J o fr hp (.own n):=g_mo (.inr ho) hx
theorem mL {y:Operand} {v:Value} (ho:o.op = .move y:=by exact rfl) (hx:fr.ev y = .lit v:=by exact rfl):OpG J o fr hp (.lit v):=g_ml (.inl ho) hx
theorem aL {y:Operand} {v:Value} (ho:o.op = .assign y:=by exact rfl) (hx:fr.ev y = .lit v:=by exact rfl):OpG J o fr hp (.lit v):=g_ml (.inr ho) hx
theorem mC {y:Operand} {f:FuncId} {l:List Nat} (ho:o.op = .move y:=by exact rfl) (hx:fr.ev y = .clo f l:=by exact rfl):OpG J o fr hp (.clo f l):=g_mc (.inl ho) hx
theorem aC {y:Operand} {f:FuncId} {l:List Nat} (ho:o.op = .assign y:=by exact rfl) (hx:fr.ev y = .clo f l:=by exact rfl):OpG J o fr hp (.clo f l):=g_mc (.inr ho) hx
theorem mR {y:Operand} {α:Type} {T:GoT α} {x:α} (ho:o.op = .move y:=by exact rfl) (hx:fr.ev y = .rptr T x:=by exact rfl):OpG J o fr hp (.rptr T x):=g_mr (.inl ho) hx
theorem mS {y:Operand} {n sz lo len:Nat} (ho:o.op = .move y:=by exact rfl) (hx:fr.ev y = .osub n sz lo len:=by exact rfl):OpG J o fr hp (.osub n sz lo len):=g_ms (.inl ho) hx
theorem aS {y:Operand} {n sz lo len:Nat} (ho:o.op = .assign y:=by exact rfl) (hx:fr.ev y = .osub n sz lo len:=by exact rfl):OpG J o fr hp (.osub n sz lo len):=g_ms (.inr ho) hx
theorem mF {y:Operand} {P:Program} {α W:Type} {A:GoT α} {B:GoT W} {f:α->W} (ho:o.op = .move y:=by exact rfl) (hx:fr.ev y = .fn1 P A B f:=by exact rfl):OpG J o fr hp (.fn1 P A B f):=zmD (.inl ho) hx
theorem mH {y:Operand} {P:Program} {α W γ:Type} {A:GoT α} {A':GoT W} {B:GoT γ} {f:α->W->γ} (ho:o.op = .move y:=by exact rfl) (hx:fr.ev y = .fn2 P A A' B f:=by exact rfl):OpG J o fr hp (.fn2 P A A' B f):=zmC (.inl ho) hx
theorem mX {y:Operand} {x:AV} (ho:o.op = .move y:=by exact rfl) (h:(o.op = .move y\/o.op = .assign y)->OpG J o fr hp x:=by intro k;first|exact g_mv k rfl|exact g_mp k rfl|exact g_mo k rfl|exact g_ml k rfl|exact g_mr k rfl|exact zew k rfl|exact g_mc k rfl|exact g_me k rfl|exact g_ms k rfl|exact zev k rfl|exact zmD k rfl|exact zmC k rfl|exact g_mw k rfl|exact g_mi k rfl):OpG J o fr hp x:=h (.inl ho)
theorem aX {y:Operand} {x:AV} (ho:o.op = .assign y:=by exact rfl) (h:(o.op = .move y\/o.op = .assign y)->OpG J o fr hp x:=by intro k;first|exact g_mv k rfl|exact g_mp k rfl|exact g_mo k rfl|exact g_ml k rfl|exact g_mr k rfl|exact zew k rfl|exact g_mc k rfl|exact g_me k rfl|exact g_ms k rfl|exact zev k rfl|exact zmD k rfl|exact zmC k rfl|exact g_mw k rfl|exact g_mi k rfl):OpG J o fr hp x:=h (.inr ho)
theorem oK {c x y:Operand} {b:Bool} {z:AV} (ho:o.op = .pick c x y:=by exact rfl) (hc:fr.ev c = .val zo b:=by exact rfl) (hz:(bif b then fr.ev x else fr.ev y)=z:=by exact rfl):OpG J o fr hp z:=g_pick ho hc hz
theorem e30 {x:Operand} {X Y Z:AV} (ho:o.op = .extract x 0:=by exact rfl) (hx:fr.ev x = .tup3 X Y Z:=by exact rfl):OpG J o fr hp X:=zmB ho hx
theorem e32 {x:Operand} {X Y Z:AV} (ho:o.op = .extract x 2:=by exact rfl) (hx:fr.ev x = .tup3 X Y Z:=by exact rfl):OpG J o fr hp Z:=g_x32 ho hx
theorem oN {x:Operand} {t:TypeId} {b:Bool} (ho:o.op = .unOp .not t x:=by exact rfl) (hx:fr.ev x = .val zo b:=by exact rfl):OpG J o fr hp (.val zo (!b)):=g_not ho hx
variable {α W:Type} {T:GoT α} {S:GoT W} {t':TypeId} {y z:Operand}
theorem zc4 {X:AV} (h:OpG J o fr hp X:=by exact g_lss rfl rfl rfl rfl):OpG J o fr hp X:=h
theorem zfR {X:AV} (h:OpG J o fr hp X:=by exact g_leq rfl rfl rfl rfl):OpG J o fr hp X:=h
theorem zcq {X:AV} (h:OpG J o fr hp X:=by exact g_gtr rfl rfl rfl rfl):OpG J o fr hp X:=h
theorem zgb {X:AV} (h:OpG J o fr hp X:=by exact g_geq rfl rfl rfl rfl):OpG J o fr hp X:=h
theorem zd7 {X:AV} (h:OpG J o fr hp X:=by exact g_eql rfl rfl rfl rfl):OpG J o fr hp X:=h
theorem zd1 {X:AV} (h:OpG J o fr hp X:=by exact g_neq rfl rfl rfl rfl):OpG J o fr hp X:=h
theorem zhZ {X:AV} (h:OpG J o fr hp X:=by first|exact zuz rfl rfl rfl (z8 yM)|exact zuz rfl rfl rfl rfl):OpG J o fr hp X:=h
theorem zc3 {X:AV} (h:OpG J o fr hp X:=by first|exact zgC rfl rfl rfl (z8 yM)|exact zgC rfl rfl rfl rfl):OpG J o fr hp X:=h
theorem zkD {X:AV} (h:OpG J o fr hp X:=by first|exact zkT rfl rfl rfl (z8 yM)|exact zkT rfl rfl rfl rfl):OpG J o fr hp X:=h
variable {get:α->W} {set:α->W->α} {ty n off ft f:Nat} {v:α}
theorem oLb (L:Lens T off S get set) (ht:tyB J.P t S.size S.agg=true) (ho:o.op = .load t y:=by exact rfl) (hx:fr.ev y = .ptr n off:=by exact rfl) (hn:hp n = .box ty T v:=by exact rfl):OpG J o fr hp (.val S (get v)):=zr ho hx hn L ht
theorem oLs (ho:o.op = .load t y) (hx:fr.ev y = .ptr n 0) (hn:hp n = .box ty T v) (ht:tyB J.P t T.size T.agg=true):OpG J o fr hp (.val T v):=zr ho hx hn (Lens.self T) ht
theorem oFp {off':Nat} (hf:fieldB J.P ty f d ft=true) (ho:o.op = .fieldAddr ty y f:=by exact rfl) (hx:fr.ev y = .ptr n off:=by exact rfl) (e:off+d=off':=by exact rfl):OpG J o fr hp (.ptr n off'):=zdp ho hx hf e
theorem oFr (hf:fieldB J.P ty f off ft=true) (L:Lens T off S get set) (ho:o.op = .fieldAddr ty y f:=by exact rfl) (hx:fr.ev y = .rptr T v:=by exact rfl):OpG J o fr hp (.rptr S (get v)):=zhR ho hx hf L
theorem oCl {g:FuncId} {xs:Array Operand} {ts:Array TypeId} {As:List AV} {X:AV} (hc:Tells J.P g As X) (ho:o.op = .call { callee:=.value (.func g),args:=xs,argTypes:=ts }) (hf:fnB J.P g=true) (ha:zhY J fr hp xs.toList As) (hX:X.under0=true:=by exact rfl):OpG J o fr hp X:=zcT hc ho hf ha hX
variable {x y:Code} {c:Operand}
theorem Cf {p:Prop} [Decidable p] (ht:p->AW J nx fr hp (.code x::k)) (hf:¬p->AW J nx fr hp (.code y::k)) (hc:fr.ev c = .val zo b:=by exact rfl) (hp':b=decide p:=by first|rfl|(rw[uo];simp only[IntL.toI,id_eq];omega)|(simp[IntL.toI];done)|(simp[IntL.toI];omega)):AW J nx fr hp (.code (.cond c x y)::k):=zl hc hp' ht hf
theorem Ct (h:AW J nx fr hp (.code x::k)) (hc:fr.ev c = .val zo b:=by exact rfl) (e:b=true:=by exact rfl):AW J nx fr hp (.code (.cond c x y)::k):=zf6 hc e h
theorem Cg (h:AW J nx fr hp (.code y::k)) (hc:fr.ev c = .val zo b:=by exact rfl) (e:b=false:=by exact rfl):AW J nx fr hp (.code (.cond c x y)::k):=zgH hc e h
theorem Sp {d:Nat} {p:Prop} [Decidable p] (ht:p->AW J nx (fr.set d (.val zo true)) hp k) (hf:¬p->AW J nx (fr.set d (.val zo false)) hp k) (hc:fr d = .val zo b:=by exact rfl) (hp':b=decide p:=by first|rfl|(rw[uo];simp only[IntL.toI,id_eq];omega)|(simp[IntL.toI];done)|(simp[IntL.toI];omega)):AW J nx fr hp k:=zX hc hp' ht hf
theorem Lp {c:Code} {ι:Type} (nxI:Nat) (F:ι->Fr) (H:ι->Hp) (Inv:ι->Prop) (M:ι->Nat) (i0:ι) (h0:Inv i0)
    (round:∀i,Inv i->AW J nxI (F i) (H i) (.code c :: .again (Next J nxI F H Inv M i)::k)) (hk:Nat.ble (max J.kg J.bn) nxI=true:=by exact rfl)
    (hf:Fr.le (F i0) fr:=by (repeat refine Fr.le_set ?_ yaM);exact Fr.le_none _) (hh:Hp.le (H i0) hp:=by (repeat refine Hp.le_set ?_ rfl);exact Hp.le_none _) (bf:Fr.below_ nxI (F i0):=by (repeat refine Fr.below_setB ?_ rfl);exact Fr.below_none _) (bh:Hp.below_ nxI (H i0):=by (repeat refine Hp.below_set ?_ yl);exact Hp.below_none _):AW J nx fr hp (.code (.loop c)::k):=aw_loopI nxI hk F H Inv M i0 h0 hf hh bf bh round
theorem Nx {ι : Type} {nxI : Nat} {F : ι -> Fr} {H : ι -> Hp} {Inv : ι -> Prop} {M : ι -> Nat} {i : ι} (j : ι) (h0 : Inv j) (hm : M j < M i) (hk : Nat.ble (max J.kg J.bn) nxI = true := by exact rfl)
    (hf:Fr.le (F j) fr:=by (repeat refine Fr.le_set ?_ yaM);exact Fr.le_none _) (hh:Hp.le (H j) hp:=by (repeat refine Hp.le_set ?_ rfl);exact Hp.le_none _) (bf:Fr.below_ nxI (F j):=by (repeat refine Fr.below_setB ?_ rfl);exact Fr.below_none _) (bh:Hp.below_ nxI (H j):=by (repeat refine Hp.below_set ?_ yl);exact Hp.below_none _):AW J nx fr hp (.again (Next J nxI F H Inv M i)::k):=aw_next j h0 hm hk hf hh bf bh
end
end Go.Ab
namespace Go.Ab
open Go.RowKit
theorem zrl {w w':World} (h:Below w.heap.size w w'):∃q os,w'=Sort.grow (w.drewN q) os:=by
  refine⟨w'.drawn-w.drawn,w'.heap.extract w.heap.size w'.heap.size,?_⟩;have hh:w'.heap=w.heap++w'.heap.extract w.heap.size w'.heap.size:=by
    apply Array.ext_getElem?;intro i;rw[Array.getElem?_append];by_cases c:i<w.heap.size
    . rw[ut c];exact h.block i c
    rw[ur c,Array.getElem?_extract];by_cases d:i<w'.heap.size
    . rw[ut ya];congr 1;omega
    rw[ur ya,Array.getElem?_eq_none ya]
  have h1:=h.os;have h2:=h.tape;have h3:=h.output;have h4:=h.drawn;cases w;cases w';simp only[Sort.grow,World.drewN] at *;subst h1;subst h2;subst h3;congr 1;omega
section
variable {α:Type} {T:GoT α} {enc:α->List Value} {ok:α->Prop}
def Flat1 (T:GoT α) (enc:α->List Value) (ok:α->Prop):Prop:=∀U N w x cs,T.rel U N w x cs↔cs=enc x/\ok x
theorem zhu (hF:Flat1 T enc ok) {U N:Nat->Prop} {w:World}:∀{l:List α} {cs:List Value},zai T U N w l cs↔cs=(l.map enc).flatten/\∀x∈l,ok x
  | [],cs=>by simp[zai]
  | x::l,cs=>by
    constructor
    . rintro ⟨c1,c2,rfl,h1,h2⟩
      obtain⟨rfl,hx⟩:=(hF _ _ _ _ _).1 h1;obtain⟨rfl,hl⟩:=(zhu hF).1 h2;refine⟨by simp,fun y hy=>?_⟩;rcases mem_cons.1 hy with e|hy
      . rw[e];exact hx
      exact hl y hy
    rintro ⟨rfl,hl⟩
    exact⟨enc x,(l.map enc).flatten,by simp,(hF _ _ _ _ _).2 ⟨rfl,hl x yw⟩,(zhu hF).2 ⟨rfl,fun y hy=>hl y ybt⟩⟩
theorem zot {Z:Type} {f:Z->List Value} {k:Nat} (h0:0<k) (hk:∀x,(f x).length=k):∀(l:List Z) (t:Nat),(l.map f).flatten[t]?=(l[t/k]?).bind fun x=>(f x)[t%k]?
  | [],t=>by simp
  | x::l,t=>by
    rw[map_cons,List.flatten_cons];by_cases c:t<k
    . rw[List.getElem?_append_left (by rw[hk];exact c),Nat.div_eq_of_lt c,Nat.mod_eq_of_lt c];rfl
    rw[List.getElem?_append_right (by rw[hk];omega),hk,zot h0 hk l (t-k)];have e1:t/k=(t-k)/k+1:=by
      rw[Nat.div_eq_sub_div h0 ya]
    have e2:t%k=(t-k)%k:=by rw[Nat.mod_eq_sub_mod ya]
    rw[e1,e2];rfl
theorem zg2 {Z:Type} [Inhabited Z] {f:Z->List Value} {k:Nat} (h0:0<k) (hk:∀x,(f x).length=k) (d:Array Z):(Sort.flatK f k d).toList=(d.toList.map f).flatten:=by
  apply ext_getElem?;intro t;rw[zot h0 hk];by_cases c:t<d.size*k
  . have hd:t/k<d.size:=(Nat.div_lt_iff_lt_mul h0).2 c
    have h1:=Sort.get_flatK f k d t c;have hs:t<(Sort.flatK f k d).size:=by rw[Sort.size_flatK];exact c
    rw[getElem!_pos (Sort.flatK f k d) t hs,getElem!_pos d (t/k) hd] at h1;have hm:t%k<(f d[t/k]).length:=by rw[hk];exact Nat.mod_lt _ h0
    rw[getElem!_pos (f d[t/k]) (t%k) hm] at h1;rw[ub (by simpa using hs),ub (by simpa using hd)];simp only[Option.bind_some,Array.getElem_toList];rw[ub hm,h1]
  have hd:¬t/k<d.size:=fun h=>c ((Nat.div_lt_iff_lt_mul h0).1 h)
  rw[List.getElem?_eq_none yB,List.getElem?_eq_none yB];rfl
theorem zlY {Z:Type} [Inhabited Z] {f:Z->List Value} {k:Nat} (h0:0<k) (hk:∀x,(f x).length=k) {w:World} {g n:Nat} {d:Array Z} {os:Array Obj} {cur:Array Value} {e:TypeId} (hg:w.heap[g]?=some (.cells cur e (0,0))) (hs:d.size*k<=cur.size) :
    (Proofs.sortWorldK f k w g 0 n d os).heap[g]?=some (.cells ((d.toList.map f).flatten++cur.toList.drop (d.size*k)).toArray e (0,0))/\
    BelowX (fun b=>b=g) w (Proofs.sortWorldK f k w g 0 n d os):=by
  have hlt:=(Array.getElem?_eq_some_iff.1 hg).1;have hsz:(Sort.ahead w n).heap.size=w.heap.size:=rfl;have hheap:(Proofs.sortWorldK f k w g 0 n d os).heap=w.heap.modify g (Sort.onCells (Sort.putCells id 0 (Sort.flatK f k d)))++os:=rfl;refine⟨?_,rfl,rfl,rfl,?_,fun b hb hne=>?_,le_add_right _ _⟩
  . rw[hheap,Array.getElem?_append_left yK,Array.getElem?_modify,ut rfl,hg]
    simp only[map_some,Sort.onCells];congr 2;apply Array.ext';rw[toList_toArray];apply ext_getElem?;intro t;have hfl:=zg2 h0 hk d;rw[<-hfl];have hF:(Sort.flatK f k d).size=d.size*k:=Sort.size_flatK _ _ _;unfold Sort.putCells;rw[Array.getElem?_toList,Array.getElem?_mapIdx];by_cases c:t<d.size*k
    . rw[List.getElem?_append_left ybP,Array.getElem?_eq_getElem ya]
      have hs2:t<(Sort.flatK f k d).size:=ya;simp only[map_some];rw[ut ⟨uf _,by omega⟩,Array.getElem?_toList,Array.getElem?_eq_getElem hs2,sub_zero,getElem!_pos (Sort.flatK f k d) t hs2];rfl
    rw[List.getElem?_append_right yB];simp only[length_toList,hF,List.getElem?_drop];rw[show d.size*k+(t-d.size*k)=t by omega,Array.getElem?_toList];cases hc:cur[t]? with
    | none=>rfl
    | some v=>simp only[map_some];rw[ur ya]
  . rw[hheap];simp
  rw[hheap,Array.getElem?_append_left (by simpa using hb),Array.getElem?_modify,ur (fun h=>hne h.symm)]
open Go.Shelf in
theorem sort_tells {P:Program} {ρ:Ren} (L:Proofs.SlLaysF0.n6 P ρ) (hF:Flat1 T enc ok) (hlen:∀x,ok x->(enc x).length=T.size) (hone:∀x,ok x->∀v∈enc x,v.oneCell'=true) (hag:T.agg=true) {x0:α} (hx0:ok x0)
    (ht:tyB P (ρ.t 24) T.size true=true) {cf:α->α->Int} (hirr:∀x,ok x->¬cf x x<0) (htr:∀x y z,ok x->ok y->ok z->cf x y<0->cf y z<0->cf x z<0) (hntr:∀x y z,ok x->ok y->ok z->¬cf x y<0->¬cf y z<0->¬cf x z<0)
    {g:FuncId} (hg:fnB P g=true) (hcmp:∀x y,Tells P g [.val T x,.val T y] (.val i64T (cf x y))) {e:TypeId} {l r:List α} (hn:l.length<1000000000)
    (hsort:∀r',r'.Perm l->r'.Pairwise (fun a b=>¬cf b a<0)->r'=r):zfp P (ρ.f 6) (.row e T l) [.own 0,.clo g []] (.lit (.tuple #[])) (.row e T r):=by
  intro ext p w vs hext hgr hrow hargs;obtain⟨hl2,hargs⟩:=hargs.spec
  match vs,hl2 with
  | [v0,v1],_ =>
  have hv0:v0=p:=hargs 0 _ _ rfl rfl;have hv1:v1 = .func (.func g) #[] #[]:=hargs 1 _ _ rfl rfl;subst hv0;subst hv1;obtain⟨xs,hown,hall⟩:=hrow;obtain⟨hxs,hok⟩:=(zhu hF).1 hall;rcases hown.2 with ⟨hp,hl0⟩|⟨gb,cap,cur,hp,_,hheap,hncap,hcap,hcs,htk⟩
  . 
    obtain rfl:l=[]:=List.length_eq_zero_iff.1 hl0;have hr:r=[]:=(hsort [] (List.Perm.refl _) List.Pairwise.nil).symm;subst hr;subst hp
    have:=Proofs.AnyF.slices_SortFunc_none L none 0 (.func (.func g) #[] #[]) w
    refine this.mono ?_
    rintro _ w' ⟨rfl,rfl⟩
    exact⟨BelowX.refl _ _,⟨[],⟨by simp,.inl ⟨rfl,rfl⟩⟩,rfl⟩,rfl⟩
  subst hp
  let S:={ x:α // ok x }
  letI:Inhabited S:=⟨⟨x0,hx0⟩⟩
  let encS:S->List Value:=fun s=>enc s.1
  have hkS:∀s:S,(encS s).length=T.size:=fun s=>hlen s.1 s.2
  obtain⟨lS,hlS⟩:∃lS:List S,lS.map (·.1)=l:=⟨l.attachWith ok hok,List.attachWith_map_subtype_val hok⟩;have hsz:lS.length=l.length:=by rw[<-hlS];simp
  have hmapS:∀q:List S,q.map encS=(q.map (·.1)).map enc:=fun q=>by rw[List.map_map];rfl
  have hlt:=(Array.getElem?_eq_some_iff.1 hheap).1;have hcsz:lS.length*T.size<=cur.size:=by rw[hcs,hsz];exact mul_le_mul_right _ hncap
  have hH:Sort.HoldsK encS T.size w gb 0 lS.toArray:=fun j hj=>by
    rw[Sort.size_flatK] at hj;have hj:j<lS.length*T.size:=by simpa using hj
    have hfl:=zg2 T.pos hkS lS.toArray;rw[toList_toArray,hmapS,hlS,<-hxs,<-htk] at hfl;have hs2:j<(Sort.flatK encS T.size lS.toArray).size:=by rw[Sort.size_flatK];simpa using hj
    refine⟨?_,?_⟩
    . rw[zero_add,cell_of_row w gb j cur e (0,0) hheap,getElem!_pos (Sort.flatK encS T.size lS.toArray) j hs2]
      have h1:(Sort.flatK encS T.size lS.toArray).toList[j]?=(cur.toList.take (l.length*T.size))[j]?:=by rw[hfl]
      rw[List.getElem?_take,ut (by rw[<-hsz];exact hj),Array.getElem?_toList,Array.getElem?_toList,Array.getElem?_eq_getElem hs2] at h1;rw[<-h1];rfl
    unfold World.frozen?;simp[hheap]
  have hC:Proofs.CmpLays P g #[] encS T.size (fun x y=>cf x.1 y.1) gb 0 lS.toArray.size w:=fun m os dk hdk x y=>by
    generalize hW:Proofs.sortWorldK encS T.size w gb 0 m dk os=W;have hx:T.val (fun _=>False) noN W x.1 (.agg (encS x).toArray):=⟨encS x,(hF _ _ _ _ _).2 ⟨rfl,x.2⟩,.inl ⟨hag,rfl⟩⟩;have hy:T.val (fun _=>False) noN W y.1 (.agg (encS y).toArray):=⟨encS y,(hF _ _ _ _ _).2 ⟨rfl,y.2⟩,.inl ⟨hag,rfl⟩⟩
    have:=hcmp x.1 y.1 (fun _=>False) W [.agg (encS x).toArray,.agg (encS y).toArray] (fun b hb=>hb.elim) ⟨hx,hy,trivial⟩
    have e0:#[Value.agg (encS x).toArray,Value.agg (encS y).toArray] ++ #[]=[Value.agg (encS x).toArray,Value.agg (encS y).toArray].toArray:=yw;rw[e0];refine this.mono fun en w' he=>?_
    cases en with
    | returned v =>
      obtain⟨hb,hv⟩:=he;obtain⟨q,os',hw'⟩:=zrl hb;exact⟨by rw[(zO.1 hv).1],q,os',hw'⟩
    | panicked c=>exact he.elim
    | outgrown=>exact he.elim
  have hO:Sort.SWO (Proofs.ltOf fun x y:S=>cf x.1 y.1):=by
    refine⟨fun x=>?_,fun x y z h1 h2=>?_,fun x y z h1 h2=>?_⟩
    . exact uh (hirr x.1 x.2)
    . exact ui (htr x.1 y.1 z.1 x.2 y.2 z.2 (of_decide_eq_true h1) (of_decide_eq_true h2))
    exact uh (hntr x.1 y.1 z.1 x.2 y.2 z.2 (of_decide_eq_false h1) (of_decide_eq_false h2))
  obtain⟨fn,h1,h2,h3⟩:=zbG hg;have eg:∀args w,(callFunc g args).run P w = .ok (.enter g args) w:=fun args w=>by
    have hne : fn.name ≠ "runtime.NumGoroutine" := by simpa using h3
    have hbn:fn.body≠none:=yci;simp[callFunc,h1,hne,hbn,Sem.run_bind]
  have key:=Proofs.AnyQ.slices_SortFunc L T.size (fun w=>(zfs ht w).2.1) (fun w=>(zfs ht w).2.2) encS hkS (fun s=>hone s.1 s.2) (fun x y=>cf x.1 y.1) hO g #[] gb 0 cap lS.toArray w eg hC hH hlt yB;rw[show lS.toArray.size=l.length by simpa using hsz] at key;refine Calls.mono key ?_
  rintro _ w' ⟨rfl,d',n,os,hperm,hsorted,rfl⟩
  have hdsz:d'.size=l.length:=by rw[hperm.1];simpa using hsz
  have hp2:d'.toList.Perm lS:=by
    have:=hperm.2.2
    have e1:d'.extract 0 l.length=d':=by rw[<-hdsz];exact Array.extract_size
    have e2:lS.toArray.extract 0 l.length=lS.toArray:=by rw[<-hsz];simp
    rw[e1,e2] at this;simpa using this
  have hr:d'.toList.map (·.1)=r:=by
    refine hsort _ ?_ ?_
    . rw[<-hlS];exact hp2.map _
    rw[List.pairwise_map];rw[List.pairwise_iff_getElem];intro i j hi hj hij;have hi':i<d'.size:=ybs;have hj':j<d'.size:=by simpa using hj
    have:=hsorted i j (uf _) hij ya
    rw[getElem!_pos d' i hi',getElem!_pos d' j hj'] at this
    have:=of_decide_eq_false this
    simpa using this
  obtain⟨hb1,hb2⟩:=zlY (n:=n) (os:=os) T.pos hkS hheap (d:=d') (by rw[hdsz,<-hsz];exact hcsz);have hgN:gN (.slice (some ⟨gb,0,none⟩) l.length cap)=fun b=>b=gb:=by
    funext b;unfold gN zaH;exact propext ⟨fun h=>(Option.some.inj h).symm,fun h=>by rw[h]⟩
  have hrl:r.length=l.length:=by rw[<-hr];simpa using hdsz
  have hflat:(d'.toList.map encS).flatten=(r.map enc).flatten:=by rw[hmapS,hr]
  have hfl2:((r.map enc).flatten).length=l.length*T.size:=by
    have:=Sort.size_flatK encS T.size d'
    rw[<-hflat,<-zg2 T.pos hkS d'];rw[length_toList,this,hdsz]
  have hokr:∀x∈r,ok x:=fun x hx=>by
    rw[<-hr] at hx;obtain⟨s,_,rfl⟩:=mem_map.1 hx;exact s.2
  refine⟨by rw[hgN];exact hb2,⟨(r.map enc).flatten,⟨by rw[hfl2,hrl],.inr ⟨gb,cap,_,by rw[hrl],uf _,hb1,by rw[hrl];exact hncap,hcap,?_,?_⟩⟩,(zhu hF).2 ⟨rfl,hokr⟩⟩,rfl⟩
  . rw[hflat];simp only[size_toArray,ue,length_drop,hfl2,length_toList,hdsz,hcs]
    have:=mul_le_mul_right T.size hncap
    omega
  rw[hflat,toList_toArray,hrl,<-hfl2,take_left' rfl]
end
end Go.Ab
namespace Go.Ab
open Go.RowKit
abbrev Light {H:Type} (P:Program) (t:TypeId) (d:DataW H):Prop:=(d.weights P t).all (·<=reachBytes)=true
def KT {α:Type} (_:α):Prop:=True
def KAll {α:Type} (bytes:Nat) (K:α->Prop) (l:List α):Prop:=l.length*bytes<=140737488351232/\∀x∈l,K x
def KP {α Z:Type} (K:α->Prop) (K':Z->Prop) (x:α×Z):Prop:=K x.1/\K' x.2
structure Opens (P:Program) (t:TypeId) {α:Type} (T:GoT α) (K:α->Prop):Prop where
  rd:∀{H:Type} {enc:TypeId×Value->H} {W:World} {sp:Nat->Bool} {held:Bool} {fuel:Nat} {cs:List Value} {x:DataW H×List MemPlace},DataW.trod enc P W 0 sp held fuel t cs=some x->Light P t x.1->∃y,T.rel noN noN W y cs/\K y
section
variable {P:Program} {t e:TypeId} {α Z:Type} {T:GoT α} {S:GoT Z} {K:α->Prop} {K2:Z->Prop}
theorem zmL {k:IntKind} {H:Type} {enc:TypeId×Value->H} {W:World} {sp:Nat->Bool} {held:Bool} {fuel:Nat} {cs:List Value} {x:DataW H×List MemPlace} (hu:P.underlying t=some (.int k)) (h:DataW.trod enc P W 0 sp held fuel t cs=some x) :
    ∃n,cs=[.int k n]/\IntKind.InR k n:=by
  cases fuel with
  | zero=>simp[DataW.trod] at h
  | succ f =>
    unfold DataW.trod at h;rw[hu] at h
    match cs,h with
    | [.int k' n],h =>
      simp only at h
      split at h
      . rename_i c
        obtain⟨rfl,hw⟩:=c;refine⟨n,rfl,?_⟩;simp only[Lit.wf,uk,uj] at hw;exact hw
      cases h
theorem op_int {k:IntKind} (hu:P.underlying t=some (.int k)):Opens P t (intT k) KT:=⟨fun h _=>by
  obtain⟨n,rfl,hn⟩:=zmL hu h;exact⟨n,⟨rfl,hn⟩,trivial⟩⟩
theorem op_u8 (hu:P.underlying t=some (.int .u8)):Opens P t u8T KT:=⟨fun h _=>by
  obtain⟨n,rfl,hn⟩:=zmL hu h;simp[IntKind.InR,IntKind.min,IntKind.max,IntKind.signed,IntKind.bits] at hn;refine⟨UInt8.ofNat n.toNat,⟨?_,trivial⟩,trivial⟩;show [Value.int .u8 n]=[Value.int .u8 ((UInt8.ofNat n.toNat).toNat:Nat)];rw[UInt8.toNat_ofNat_of_lt' (by show n.toNat<256;omega),Int.toNat_of_nonneg hn.1]⟩
theorem op_u32 (hu:P.underlying t=some (.int .u32)):Opens P t u32T KT:=⟨fun h _=>by
  obtain⟨n,rfl,hn⟩:=zmL hu h;simp[IntKind.InR,IntKind.min,IntKind.max,IntKind.signed,IntKind.bits] at hn;refine⟨UInt32.ofNat n.toNat,⟨?_,trivial⟩,trivial⟩;show [Value.int .u32 n]=[Value.int .u32 ((UInt32.ofNat n.toNat).toNat:Nat)];rw[UInt32.toNat_ofNat_of_lt' (by show n.toNat<4294967296;omega),Int.toNat_of_nonneg hn.1]⟩
theorem op_u64 (hu:P.underlying t=some (.int .u64)):Opens P t u64T KT:=⟨fun h _=>by
  obtain⟨n,rfl,hn⟩:=zmL hu h;simp[IntKind.InR,IntKind.min,IntKind.max,IntKind.signed,IntKind.bits] at hn;refine⟨UInt64.ofNat n.toNat,⟨?_,trivial⟩,trivial⟩;show [Value.int .u64 n]=[Value.int .u64 ((UInt64.ofNat n.toNat).toNat:Nat)];rw[UInt64.toNat_ofNat_of_lt' (by show n.toNat<18446744073709551616;omega),Int.toNat_of_nonneg hn.1]⟩
theorem op_bool (hu:P.underlying t=some .bool):Opens P t zo KT:=⟨fun {H enc W sp held fuel cs x} h _=>by
  cases fuel with
  | zero=>simp[DataW.trod] at h
  | succ f =>
    unfold DataW.trod at h;rw[hu] at h
    match cs,h with
    | [.bool b],_=>exact⟨b,⟨rfl,trivial⟩,trivial⟩⟩
theorem znc {n:Nat} {g:Bool} (h:tyB P t n g=true):P.cellsOf t=n:=by
  obtain⟨i,h1,h2⟩:=(zfs h default).1;simp[Program.cellsOf,h1,h2]
theorem zrd {γ Y:Type} {f:γ->Option Y}:∀{l:List γ} {r:List Y},l.mapM f=some r->∀x∈l,∃y∈r,f x=some y
  | [],_,_,x,hx=>by cases hx
  | z::l,r,h,x,hx=>by
    rw[mapM_cons] at h;cases hz:f z with
    | none=>rw[hz] at h;cases h
    | some y =>
      rw[hz] at h;cases hl:l.mapM f with
      | none=>simp[hl] at h
      | some r' =>
        simp[hl] at h;subst h;rcases mem_cons.1 hx with e|hx
        . rw[e];exact⟨y,by simp,hz⟩
        obtain⟨y',h1,h2⟩:=zrd hl x hx;exact⟨y',by simp[h1],h2⟩
theorem zvX {γ Y:Type} {f:γ->Option Y}:∀{l:List γ} {r:List Y},l.mapM f=some r->r.length=l.length
  | [],r,h=>by simp at h;subst h;rfl
  | z::l,r,h=>by
    rw[mapM_cons] at h;cases hz:f z with
    | none=>rw[hz] at h;cases h
    | some y =>
      rw[hz] at h;cases hl:l.mapM f with
      | none=>simp[hl] at h
      | some r' =>
        simp[hl] at h;subst h;simp[zvX hl]
theorem zn8 {H:Type} {e:TypeId}:∀{ds:List (DataW H)},(DataW.weightsAll P e ds).all (·<=reachBytes)=true->∀d∈ds,Light P e d
  | [],_,d,hd=>by cases hd
  | c::ds,h,d,hd=>by
    unfold DataW.weightsAll at h;rw[all_append,uk] at h;rcases mem_cons.1 hd with e|hd
    . rw[e];exact h.1
    exact zn8 h.2 d hd
theorem zpN {H γ:Type} {ty:γ->TypeId} {f:γ->Option (DataW H×List MemPlace)}:∀{l:List γ} {r:List (DataW H×List MemPlace)},l.mapM f=some r->(DataW.weightsEach P (l.map ty) (r.map (·.1))).all (·<=reachBytes)=true->∀x∈l,∃z,f x=some z/\Light P (ty x) z.1
  | [],_,_,_,x,hx=>by cases hx
  | c::l,r,h,hw,x,hx=>by
    rw[mapM_cons] at h;cases hz:f c with
    | none=>rw[hz] at h;cases h
    | some y =>
      rw[hz] at h;cases hl:l.mapM f with
      | none=>simp[hl] at h
      | some r' =>
        simp[hl] at h;subst h;rw[map_cons,map_cons] at hw;unfold DataW.weightsEach at hw;rw[all_append,uk] at hw;rcases mem_cons.1 hx with e|hx
        . rw[e];exact⟨y,hz,hw.1⟩
        exact zpN hl hw.2 x hx
theorem zkC {bytes:Nat} (hO:Opens P e T K) (hs:sliceB P t e T.size=true) (hby:P.bytesOf e=bytes):Opens P t (sl T) (KAll bytes K):=⟨fun {H enc W sp held fuel cs x} h hw=>by
  have hu:=(za4 hs W).1;have hcl:P.cellsOf e=T.size:=by
    obtain⟨i,h1,h2⟩:=(za4 hs W).2.2;simp[Program.cellsOf,h1,h2]
  cases fuel with
  | zero=>simp[DataW.trod] at h
  | succ f =>
    unfold DataW.trod at h;rw[hu] at h
    match cs,h with
    | [.slice none 0 0],_=>exact⟨[],⟨none,0,rfl,ug _,by unfold maxLen;omega,fun h=>absurd rfl h⟩,by simp,fun x hx=>by cases hx⟩
    | [.slice (some a) len cap],h =>
      simp only at h
      split at h
      . rename_i c
        cases hm:(List.range len).mapM (fun i=>(W.cells? 0 (a.add (i*P.cellsOf e)) (P.cellsOf e)).bind (DataW.trod enc P W 0 sp held f e)) with
        | none=>rw[hm] at h;cases h
        | some elems =>
          rw[hm] at h;obtain⟨rest,_,hx⟩:=map_eq_some_iff.1 h;subst hx;have hw:((DataW.slice (elems.map (·.1)) (rest.map (·.1))).weights P t).all (·<=reachBytes)=true:=hw;unfold DataW.weights at hw;rw[hu] at hw;simp only[all_cons,all_append,uk,uj,List.length_map] at hw;obtain⟨hw1,hw2,_⟩:=hw;have hel:elems.length=len:=by rw[zvX hm,List.length_range]
          have hwl:len*bytes<=140737488351232:=by
            rw[hby,hel] at hw1
            have:len*bytes<=(len+rest.length)*bytes:=mul_le_mul_right _ ya
            have h0:reachBytes=140737488351232:=rfl;omega
          have hall:∀i,i<len->∃y ds,(T.rel noN noN W y ds/\K y)/\∀j v,ds[j]?=some v->W.cell? ((a.add (i*T.size)).add j)=some v:=fun i hi=>by
            obtain⟨z,hzm,hz⟩:=zrd hm i ybs;obtain⟨ds,h1,h2⟩:=bind_eq_some_iff.1 hz;obtain⟨y,hy,hk⟩:=hO.rd h2 (zn8 hw2 _ (List.mem_map_of_mem hzm));refine⟨y,ds,⟨hy,hk⟩,fun j v hj=>?_⟩;rw[hcl] at h1;unfold World.cells? at h1;rw[ut (uf _)] at h1;have hlen:=T.len hy;have hj':j<T.size:=by rw[<-hlen];exact(ul.1 hj).1
            have key:∀{n:Nat} {r:List Value},(List.range n).mapM (fun i_1=>W.cell? ((a.add (i*T.size)).add i_1))=some r->∀j v,r[j]?=some v->W.cell? ((a.add (i*T.size)).add j)=some v:=by
              intro n
              induction n with
              | zero=>intro r hr j v hv;simp at hr;subst hr;simp at hv
              | succ n ih =>
                intro r hr j v hv;rw[List.range_succ,List.mapM_append] at hr;cases hr1:(List.range n).mapM (fun i_1=>W.cell? ((a.add (i*T.size)).add i_1)) with
                | none=>rw[hr1] at hr;cases hr
                | some r1 =>
                  rw[hr1] at hr;cases hc:W.cell? ((a.add (i*T.size)).add n) with
                  | none=>simp[hc] at hr
                  | some u =>
                    simp[hc] at hr;subst hr;have hl1:r1.length=n:=by
                      have:∀{l:List Nat} {r:List Value},l.mapM (fun i_1=>W.cell? ((a.add (i*T.size)).add i_1))=some r->r.length=l.length:=by
                        intro l
                        induction l with
                        | nil=>intro r hr;simp at hr;subst hr;rfl
                        | cons z l ih =>
                          intro r hr;rw[mapM_cons] at hr;cases hz:W.cell? ((a.add (i*T.size)).add z) with
                          | none=>simp[hz] at hr
                          | some y =>
                            cases hl:l.mapM (fun i_1=>W.cell? ((a.add (i*T.size)).add i_1)) with
                            | none=>simp[hz,hl] at hr
                            | some r'=>simp[hz,hl] at hr;subst hr;simp[ih hl]
                      simpa using this hr1
                    by_cases hjn:j<n
                    . rw[List.getElem?_append_left ya] at hv
                      exact ih hr1 j v hv
                    rw[List.getElem?_append_right ya] at hv
                    have:j=n:=by
                      have:=(ul.1 hv).1
                      simp at this;omega
                    subst this;simp[hl1] at hv;subst hv;exact hc
            exact key h1 j v hj
          have build:∀n,n<=len->∃l ds,l.length=n/\(zai T noN noN W l ds/\∀x∈l,K x)/\∀j v,ds[j]?=some v->W.cell? (a.add j)=some v:=by
            intro n
            induction n with
            | zero=>intro _;exact⟨[],[],rfl,⟨rfl,fun x hx=>by cases hx⟩,fun j v h=>by simp at h⟩
            | succ n ih =>
              intro hn;obtain⟨l,ds,h1,⟨h2,hkl⟩,h3⟩:=ih ya;obtain⟨y,ds',⟨h4,hky⟩,h5⟩:=hall n ya;refine⟨l++[y],ds++ds',by simp[h1],⟨h2.append ⟨ds',[],by simp,h4,rfl⟩,fun x hx=>?_⟩,fun j v hj=>?_⟩
              . rcases mem_append.1 hx with hx|hx
                . exact hkl x hx
                rw[mem_singleton.1 hx];exact hky
              have hdl:ds.length=n*T.size:=by rw[h2.len,h1]
              by_cases c:j<ds.length
              . rw[List.getElem?_append_left c] at hj;exact h3 j v hj
              rw[List.getElem?_append_right ya] at hj
              have:=h5 _ v hj
              rw[zbO] at this
              rwa [show n*T.size+(j-ds.length)=j by omega] at this
          obtain⟨l,ds,h1,⟨h2,hk⟩,h3⟩:=build len (ug _);exact⟨l,⟨some a,cap,by rw[h1],by rw[h1];exact c.2.1,c.2.2,fun _=>⟨a,ds,rfl,fun h=>h,h2,h3⟩⟩,by rw[h1];exact hwl,hk⟩
      cases h⟩
theorem op_arr {n:Nat} {hn:0<n} (hO:Opens P e T K) (ha:arrB P t n e T.size=true) (ht:tyB P t (n*T.size) true=true):Opens P t (arrT n hn T) KT:=⟨fun {H enc W sp held fuel cs x} h hw=>by
  obtain⟨hu,hsz⟩:=zds ha W;have hcl:P.cellsOf e=T.size:=by
    unfold arrB at ha;rw[uk] at ha;have h2:(P.info? e).map (·.size)=some T.size:=by simpa using ha.2
    obtain⟨i,h1,h2⟩:=map_eq_some_iff.1 h2;simp[Program.cellsOf,h1,h2]
  cases fuel with
  | zero=>simp[DataW.trod] at h
  | succ f =>
    unfold DataW.trod at h;rw[hu] at h;simp only at h
    split at h
    . rename_i hlen
      cases hm:(List.range n).mapM (fun i=>DataW.trod enc P W 0 sp held f e ((cs.drop (i*P.cellsOf e)).take (P.cellsOf e))) with
      | none=>rw[hm] at h;cases h
      | some xs =>
        rw[hm] at h;have hx:x=(DataW.agg (xs.map (·.1)),xs.flatMap (·.2)):=(Option.some.inj h).symm;subst hx;have hw:((DataW.agg (xs.map (·.1))).weights P t).all (·<=reachBytes)=true:=hw;unfold DataW.weights at hw;rw[hu] at hw;have hall:∀i,i<n->∃y,T.rel noN noN W y ((cs.drop (i*T.size)).take T.size):=fun i hi=>by
          obtain⟨z,hzm,hz⟩:=zrd hm i ybs;rw[hcl] at hz;obtain⟨y,hy,_⟩:=hO.rd hz (zn8 hw _ (List.mem_map_of_mem hzm));exact⟨y,hy⟩
        have build:∀m,m<=n->∃l:List α,l.length=m/\(cs.take (m*T.size)).length=m*T.size/\zai T noN noN W l (cs.take (m*T.size)):=by
          intro m
          induction m with
          | zero=>intro _;exact⟨[],rfl,by simp,by simp[zai]⟩
          | succ m ih =>
            intro hm;obtain⟨l,h1,h2,h3⟩:=ih ya;obtain⟨y,hy⟩:=hall m ya;have e:cs.take ((m+1)*T.size)=cs.take (m*T.size)++(cs.drop (m*T.size)).take T.size:=by
              rw[add_mul,Nat.one_mul,List.take_add]
            refine⟨l++[y],by simp[h1],?_,?_⟩
            . rw[e,ue,h2,T.len hy,add_mul,Nat.one_mul]
            rw[e];exact h3.append ⟨_,[],by simp,hy,rfl⟩
        obtain⟨l,h1,h2,h3⟩:=build n (ug _);have hcs:cs.length=n*T.size:=by rw[hlen,znc ht]
        rw[uc ya] at h3;exact⟨l,⟨h1,h3⟩,trivial⟩
    cases h⟩
def OpF (P:Program) (s:TypeId) (k off:Nat) {α:Type} (T:GoT α) (K:α->Prop):Prop :=
  ∀{H:Type} {enc:TypeId×Value->H} {W:World} {sp:Nat->Bool} {held:Bool} {fuel:Nat} {cs:List Value} {fs:Array Field},P.underlying s=some (.struct fs)->
    (∀fd∈fs.toList,∃z,DataW.trod enc P W 0 sp held fuel fd.type ((cs.drop fd.offset).take (P.cellsOf fd.type))=some z/\Light P fd.type z.1)->(cs.drop off).length=T.size->∃y,T.rel noN noN W y (cs.drop off)/\K y
theorem zp6 {s:TypeId} {k off:Nat} {ft:TypeId} (hf:fieldB P s k off ft=true) {H:Type} {enc:TypeId×Value->H} {W:World} {sp:Nat->Bool} {held:Bool} {fuel:Nat} {cs:List Value} {fs:Array Field} (hu:P.underlying s=some (.struct fs))
    (h:∀fd∈fs.toList,∃z,DataW.trod enc P W 0 sp held fuel fd.type ((cs.drop fd.offset).take (P.cellsOf fd.type))=some z/\Light P fd.type z.1):∃z,DataW.trod enc P W 0 sp held fuel ft ((cs.drop off).take (P.cellsOf ft))=some z/\Light P ft z.1:=by
  obtain⟨fs',fd,h1,h2,h3,h4⟩:=zhv hf;obtain rfl:fs=fs':=by rw[hu] at h1;injection h1 with h1;injection h1
  have:=h fd (by
    obtain⟨hk,e⟩:=Array.getElem?_eq_some_iff.1 h2;rw[<-e];simp)
  rw[h3,h4] at this;exact this
theorem zkB {s:TypeId} {k off:Nat} {ft:TypeId} {g:Bool} (hf:fieldB P s k off ft=true) (ht:tyB P ft T.size g=true) (hO:Opens P ft T K):OpF P s k off T K:=fun {H enc W sp held fuel cs fs} hu h hl=>by
  obtain⟨z,hz,hw⟩:=zp6 hf hu h;rw[znc ht,uc ya] at hz;exact hO.rd hz hw
theorem zci {s:TypeId} {k off off':Nat} {ft:TypeId} {g:Bool} (hf:fieldB P s k off ft=true) (ht:tyB P ft T.size g=true) (hO:Opens P ft T K) (e:off+T.size=off') (hr:OpF P s (k+1) off' S K2):OpF P s k off (zbF T S) (KP K K2):=fun {H enc W sp held fuel cs fs} hu h hl=>by
  subst e;obtain⟨z,hz,hw⟩:=zp6 hf hu h;rw[znc ht] at hz;obtain⟨y,hy,hk⟩:=hO.rd hz hw;have hl:(cs.drop off).length=T.size+S.size:=hl;obtain⟨y',hy',hk'⟩:=hr hu h (by rw[length_drop] at hl ⊢;omega);refine⟨(y,y'),⟨(cs.drop off).take T.size,cs.drop (off+T.size),?_,hy,hy'⟩,hk,hk'⟩;rw[<-drop_drop,List.take_append_drop]
theorem zij {t:TypeId} {A:GoT α} {γ:Type} {g:γ->α} (f:α->γ) (hgf:∀x,g (f x)=x) (hs:(match P.underlying t with|some (.struct _)=>true|_=>false)=true) (ht:tyB P t A.size true=true) (hF:OpF P t 0 0 A K) {K':γ->Prop} (hK:∀y,K (g y)->K' y):Opens P t (viaT A g) K':=⟨fun {H enc W sp held fuel cs x} h hw=>by
  cases fuel with
  | zero=>simp[DataW.trod] at h
  | succ n =>
    cases hu:P.underlying t with
    | none=>rw[hu] at hs;cases hs
    | some d =>
      rw[hu] at hs;cases d<;>simp at hs;rename_i fs;unfold DataW.trod at h;rw[hu] at h;simp only at h
      split at h
      . rename_i hlen
        cases hm:fs.toList.mapM (fun f=>DataW.trod enc P W 0 sp held n f.type ((cs.drop f.offset).take (P.cellsOf f.type))) with
        | none=>rw[hm] at h;cases h
        | some xs =>
          rw[hm] at h;have hx:x=(DataW.agg (xs.map (·.1)),xs.flatMap (·.2)):=(Option.some.inj h).symm;subst hx;have hw:((DataW.agg (xs.map (·.1))).weights P t).all (·<=reachBytes)=true:=hw;unfold DataW.weights at hw;rw[hu] at hw;obtain⟨y,hy,hk⟩:=hF hu (zpN (ty:=fun fd:Field=>fd.type) hm hw) (by rw[List.drop_zero,hlen,znc ht]);rw[List.drop_zero] at hy;exact⟨f y,by show A.rel _ _ _ _ _;rw[hgf];exact hy,hK _ (by rw[hgf];exact hk)⟩
      cases h⟩
structure GT where
  {α:Type}
  T:GoT α
  K:α->Prop
def Shape:List GT->List AV->Prop
  | [],[]=>True
  | G::Gs,A::As=>(∃x,A = .val G.T x/\G.K x)/\Shape Gs As
  | _,_=>False
def zng (P:Program):List TypeId->List GT->Prop
  | [],[]=>True
  | t::ts,G::Gs=>Opens P t G.T G.K/\tyB P t G.T.size G.T.agg=true/\zng P ts Gs
  | _,_=>False
theorem open_val {W:World} {v:Value} {H:Type} {enc:TypeId×Value->H} {sp:Nat->Bool} {held:Bool} {d:DataW H} {ps:List MemPlace} {b0:Nat} (hO:Opens P t T K) (ht:tyB P t T.size T.agg=true) (hok:Value.okWide P W .any b0 t v) (h:DataW.Trod enc P W 0 sp held t v d ps) (hw:Light P t d) :
    ∃x,T.val noN noN W x v/\K x:=by
  obtain⟨fuel,hf⟩:=h;obtain⟨y,hy,hk⟩:=hO.rd hf hw;refine⟨y,?_,hk⟩;unfold tyB at ht;rw[uk] at ht;obtain⟨_,ht⟩:=ht;unfold Value.okWide at hok;cases hu:P.underlying t with
  | none=>rw[hu] at ht;cases ht
  | some de =>
    rw[hu] at ht hok;have hone:T.agg=false->(∀cs,v≠.agg cs)->(∀cs,v≠.tuple cs)->T.val noN noN W y v:=fun hg h1 h2=>by
      refine⟨_,hy,.inr ⟨hg,?_⟩⟩;cases v<;>first|rfl|(exact absurd rfl (h1 _))|(exact absurd rfl (h2 _))
    have hcell:(T.agg=false)->Cell.okWide P W .any b0 t v->T.val noN noN W y v:=fun hg hc=>by
      refine hone hg (fun cs e=>?_) (fun cs e=>?_)
      . subst e
        unfold Cell.okWide Cell.ok at hc;rw[hu] at hc;cases de<;>exact hc
      subst e;unfold Cell.okWide Cell.ok at hc;rw[hu] at hc;cases de<;>exact hc
    cases de<;>first
      | (have hg:T.agg=true:=ht
         obtain⟨cs,rfl,_,_⟩:=hok;exact⟨cs.toList,by simpa [Value.cells] using hy,.inl ⟨hg,rfl⟩⟩)
      | exact hcell (by simpa using ht) hok
theorem zvS {W:World} {H:Type} {enc:TypeId×Value->H} {sp:Nat->Bool} {held:Bool} {b0:Nat}:∀{ts:List TypeId} {Gs:List GT} {vs:List Value} {ds:List (DataW H)} {ps:List MemPlace},zng P ts Gs->DataW.TrodAll enc P W 0 sp held ts vs ds ps->
    (∀(j:Nat) t v,ts[j]?=some t->vs[j]?=some v->Value.okWide P W .any b0 t v)->(DataW.weightsEach P ts ds).all (·<=reachBytes)=true->∃As,Shape Gs As/\zbJ noN W As vs
  | [],[],[],[],_,_,_,_,_=>⟨[],trivial,trivial⟩
  | [],[],_::_,_,_,_,h,_,_=>h.elim
  | [],[],[],_::_,_,_,h,_,_=>h.elim
  | [],_::_,_,_,_,h,_,_,_=>h.elim
  | _::_,[],_,_,_,h,_,_,_=>h.elim
  | _::_,_::_,[],_,_,_,h,_,_=>h.elim
  | _::_,_::_,_::_,[],_,_,h,_,_=>h.elim
  | t::ts,G::Gs,v::vs,d::ds,ps,⟨h1,h2,h3⟩,⟨p,q,g1,g2,_⟩,hok,hw=>by
    unfold DataW.weightsEach at hw;rw[all_append,uk] at hw;obtain⟨x,hx,hk⟩:=open_val h1 h2 (hok 0 t v rfl rfl) g1 hw.1;obtain⟨As,hs,ha⟩:=zvS h3 g2 (fun j t' v' e1 e2=>hok (j+1) t' v' (by simpa using e1) (by simpa using e2)) hw.2;exact⟨.val G.T x::As,⟨⟨x,rfl,hk⟩,hs⟩,hx,ha⟩
end
end Go.Ab
namespace Go.Ab
open Go.RowKit
theorem zkc {H:Type} {enc:TypeId×Value->H} {P:Program} (hl:laidOutB P=true) {W W':World} (hb:Below W.heap.size W W'):∀{ts:List TypeId} {vs:List Value} {ds:List (DataW H)} {ps:List MemPlace},
    (∀t∈ts,P.readableRec t=true/\t<P.types.size)->DataW.TrodAll enc P W 0 (fun _=>true) true ts vs ds ps->(∀x∈ps,x.block<W.heap.size)->DataW.TrodAll enc P W' 0 (fun b=>decide (b<W.heap.size)) true ts vs ds ps
  | [],[],[],ps,_,h,_=>h
  | [],[],_::_,_,_,h,_=>h.elim
  | [],_::_,_,_,_,h,_=>h.elim
  | _::_,[],_,_,_,h,_=>h.elim
  | _::_,_::_,[],_,_,h,_=>h.elim
  | t::ts,v::vs,d::ds,ps,hr,⟨p,q,h1,h2,e⟩,hlt=>by
    subst e;exact⟨p,q,RowKit.Below.trod hl (hr t yw).1 (hr t yw).2 h1 hb.toBelow (fun x hx=>hlt x (mem_append_left _ hx)),zkc hl hb (fun t ht=>hr t (by simp[ht])) h2 (fun x hx=>hlt x (mem_append_right _ hx)),rfl⟩
theorem znp {H:Type} {enc:TypeId×Value->H} {P:Program} {w:World} {base:Nat} {spare:Nat->Bool} {held:Bool}:∀{ts:List TypeId} {vs:List Value} {ds:List (DataW H)} {ps:List MemPlace},DataW.TrodAll enc P w base spare held ts vs ds ps->ds.length=ts.length
  | [],[],[],_,_=>rfl
  | [],[],_::_,_,h=>h.elim
  | [],_::_,_,_,h=>h.elim
  | _::_,[],_,_,h=>h.elim
  | _::_,_::_,[],_,h=>h.elim
  | _::_,_::_,_::_,_,⟨_,_,_,h2,_⟩=>by simp[znp h2]
theorem zn7 {H:Type} {enc:TypeId×Value->H} {P:Program} {w:World} {base:Nat} {spare:Nat->Bool} {held:Bool} {us:List TypeId} {es:List (DataW H)}:∀{ts:List TypeId} {vs:List Value} {ds:List (DataW H)} {ps:List MemPlace},DataW.TrodAll enc P w base spare held ts vs ds ps->(DataW.weightsEach P (ts++us) (ds++es)).all (·<=reachBytes)=true->(DataW.weightsEach P ts ds).all (·<=reachBytes)=true
  | [],[],[],_,_,_=>by unfold DataW.weightsEach;rfl
  | [],[],_::_,_,h,_=>h.elim
  | [],_::_,_,_,h,_=>h.elim
  | _::_,[],_,_,h,_=>h.elim
  | _::_,_::_,[],_,h,_=>h.elim
  | _::_,_::_,_::_,_,⟨_,_,_,h2,_⟩,h=>by
    rw[List.cons_append,List.cons_append] at h;unfold DataW.weightsEach at h ⊢;rw[all_append,uk] at h ⊢;exact⟨h.1,zn7 h2 h.2⟩
theorem law_handed {C:Checked} {os:Os} {H:Type} {enc:TypeId×Value->H} {f:FuncId} {fn:Func} {s:ChangeSpec} {conds:List PathCond} {Gs:List GT} {rt:TypeId}
    (own:ownKnob C.prog.godebug=none) (started:os.Started) (noInit:C.prog.inits.idxOf? f=none) (hfn:C.prog.funcs[f]?=some fn)
    (witness:∃(w:World) (tape:Tape) (i:Input),w.os=os/\(w.forCall tape i).Shaped C.prog/\i.vars=[]/\Input.okWide C.prog (w.forCall tape i) .any w.heap.size f i/\
      s.pre6 enc C.prog fn conds false (w.forCall tape i).memory i.args/\({}:Assume).holds C.prog (lone (Frame.enter C.prog f i.args .normal) [] (w.forCall tape i)))
    (hvars:s.vars=[]) (hl:laidOutB C.prog=true) (hr:∀t∈fn.params.toList,C.prog.readableRec t=true/\t<C.prog.types.size) (hO:zng C.prog fn.params.toList Gs)
    (hres:fn.resultTypes = #[rt]) (hrt:C.prog.underlying rt=some .bool) (hspec:∀ds:List (DataW H),ds.length=fn.params.toList.length->s.fn H ds = { results:=[.lit (.bool true)],args:=ds })
    (hlaw:∀As,Shape Gs As->Tells C.prog f As (.val zo true)) :
    ReturnsInHanded {} C os f .any (s.pre6 enc C.prog fn conds false) (s.post enc C.prog fn false true false false):=by
  refine returnsInHanded_of_calls own started noInit witness ?_;intro w0 tape i _ _ _ hok hpre hholds;obtain⟨_,_,_,fn',hfn',_,_,_,_,hval⟩:=hok;have e:fn'=fn:=Option.some.inj (hfn'.symm.trans hfn);subst e;obtain⟨⟨ds,gs,before,hw,hc⟩,hz⟩:=hpre;have hwt:=hz.weights hw;have hw':=DataW.Whole.of_heap (w':=w0.forCall tape i) (by rfl) hw
  suffices main : ∀ (W : World) (base : Nat) (args : Array Value) (ds gs : List (DataW H)) (before : List MemPlace),
      (∀(j:Nat) t v,fn'.params[j]?=some t->args[j]?=some v->Value.okWide C.prog W .any base t v)->
      DataW.Whole enc C.prog fn'.params.toList s.vars false W args.toList ds gs before->(DataW.weightsEach C.prog (fn'.params.toList++s.plain.varTypes C.prog) (ds++gs)).all (·<=reachBytes)=true->
      Calls C.prog f args W fun e W'=>∃v,e = .returned v/\s.post enc C.prog fn' false true false false W args v W' by
    refine(main (w0.forCall tape i) w0.heap.size i.args ds gs before hval hw' hwt).mono fun e W' ⟨v,he,hp⟩=>?_
    subst he;exact ChangeSpec.post_blind hp
  clear hwt hw' hc hw hval hholds;intro W base args ds gs before hval hW hwt;have hW':=hW;obtain⟨p,q,hA,hV,rfl,hfz,hnd⟩:=hW;obtain⟨rfl,rfl⟩:gs=[]/\q=[]:=by
    rw[hvars] at hV
    match gs,hV with
    | [],hV=>exact⟨rfl,hV⟩
  obtain⟨As,hS,hrel⟩:=zvS hO hA (fun j t v e1 e2=>hval j t v (by simpa using e1) (by simpa using e2)) (zn7 hA hwt);have hc:=hlaw As hS noN W args.toList (fun b h=>h.elim) hrel;have hlen:=znp hA;have hsp:=hspec ds hlen;rw[show args.toList.toArray=args by simp] at hc;refine hc.mono fun e w' he=>?_
  cases e with
  | returned v =>
    obtain⟨hb,hv⟩:=he;obtain rfl:v = .bool true:=zbo.1 hv;have hlt:∀x∈p,x.block<W.heap.size:=fun x hx=>hW'.lt x (mem_append_left _ hx)
    refine⟨_,rfl,ds,[],p++[],[],p,[],hW',?_,?_,?_,?_,fun h=>by cases h⟩
    . rw[append_nil,hsp,hres]
      exact⟨[],[],shut_bool hrt true,rfl,rfl⟩
    . rw[append_nil,hsp]
      exact zkc hl hb hr hA hlt
    . rw[append_nil,hsp,hvars];rfl
    exact hb.toBelow.frame _
  | panicked c=>exact he.elim
  | outgrown=>exact he.elim
end Go.Ab
namespace Go.Ab
open Go.RowKit
section
variable {J:Job} {nx:Nat} {fr:Fr} {hp:Hp} {k:List It} {ops:Array Oper} {rest:List Oper} {o:Oper} {α:Type} {T:GoT α}
theorem run_callb {a : Act} {w : World} {x : Operand} {ts : Array TypeId} {f : FuncId} {p : Value} {fn : Func} (ho : o.op = .call { callee := .value x, args := #[], argTypes := ts }) (hx : a.eval x = .func (.func f) #[p] #[]) (hf : J.P.funcs[f]? = some fn) (hb : fn.body.isSome = true) (hnm : (fn.name == "runtime.NumGoroutine") = false) :
    (execOp a.eval o).run J.P w = .ok (.enter f #[p]) w:=by
  unfold execOp;rw[ho];simp only[resolve,hx,Deferred.ofValue,Sem.run_bind,Sem.run_pure,Result.andThen_ok,invoke,callFunc,Array.empty_append]
  have hne : fn.name ≠ "runtime.NumGoroutine" := by simpa using hnm
  have hbn:fn.body≠none:=yb9;simp[hf,hne,hbn]
end
end Go.Ab
namespace Go.Ab
open Go.RowKit
def bndvT {α:Type} (T:GoT α):GoT (Nat×α) where
  size:=1
  agg:=false
  rel U N w x cs:=∃v,cs=[.func (.func x.1) #[v] #[]]/\T.val U N w x.2 v
  pos:=yl
  sc _:=rfl
  len h:=by obtain⟨_,rfl,_⟩:=h;rfl
  one h v hv:=by obtain⟨_,rfl,_⟩:=h;simp at hv;rw[hv];rfl
  mono k h:=by
    obtain⟨v,e,h⟩:=h;exact⟨v,e,T.val_mono k h⟩
section
variable {J:Job} {nx:Nat} {fr:Fr} {hp:Hp} {k:List It} {ops:Array Oper} {rest:List Oper} {o:Oper} {α:Type} {T:GoT α}
theorem bndv_val {U N:Nat->Prop} {w:World} {x:Nat×α} {v:Value} (h:(bndvT T).val U N w x v):∃u,v = .func (.func x.1) #[u] #[]/\T.val U N w x.2 u:=by
  obtain⟨cs,⟨u,e,h1⟩,h|h⟩:=h
  . exact absurd (show false=true from h.1) yl
  have:=h.2
  rw[e] at this;injection this with this;exact⟨u,this.symm,h1⟩
theorem g_mkbv {f:FuncId} {y:Operand} {x:α} (ho:o.op = .makeFunc (.func f) #[y] #[]) (hy:fr.ev y = .val T x):OpG J o fr hp (.val (bndvT T) (f,x)):=by
  refine .of_run (fun {_ ρ a w} s hr _=>?_) (fun _ _=>trivial);have h:=hr y ym;rw[hy] at h;refine⟨.func (.func f) #[a.eval y] #[],?_,_,⟨a.eval y,rfl,h⟩,.inr ⟨rfl,rfl⟩⟩;unfold execOp;rw[ho];simp[Instr.makeFunc,Sem.run_bind]
theorem zwf [Strict T] {x:Operand} {f:FuncId} {ts:Array TypeId} {y:α} {X:AV} (hc:Tells J.P f [.val T y] X) (ho:o.op = .call { callee:=.value x,args:=#[],argTypes:=ts }) (hx:fr.ev x = .val (bndvT T) (f,y)) (hf:fnB J.P f=true) (hX':X.under0=true):OpG J o fr hp X where
  run {nx ρ a w} s hr _ K Q hK:=by
    have hX:=AV.under0_spec hX';obtain⟨fn,h1,h2,h3⟩:=zbG hf;have hv:=hr x yy;rw[hx] at hv;obtain⟨u,hv,hat⟩:=bndv_val hv;unfold Oper.wp;rw[run_callb ho hv h1 h2 h3,Oper.upon_enter];have hargs:zbJ (Uu J ρ hp) w [.val T y] [u]:=⟨GoT.val_strict hat,trivial⟩
    have:=hc (Uu J ρ hp) w _ (fun b hb=>s.uu_lt hb) hargs
    refine Calls.mono this fun e w' he=>?_
    cases e with
    | returned v =>
      refine hK v w' he.1 ?_;exact AV.rel_mono (nx:=0) (zie s w') hX (AV.rel_ren (ρ:=ρ0) (ρ':=ρ) (fun n hn=>by omega) hX (AV.rel_B (B':=J.B) hX he.2))
    | panicked c=>exact he.elim
    | outgrown=>exact he.elim
  und _ _:=AV.under_mono (uf _) (AV.under0_spec hX')
  nd c hc:=ycb
end
end Go.Ab
namespace Go.Ab
open Go.RowKit
def nilT:GoT Unit:=scT (fun _=>.slice none 0 0) (fun _=>True) (fun _=>rfl)
theorem zj8:Zero nilT () [.slice none 0 0]:=fun _ _ _=>⟨rfl,trivial⟩
section
variable {J:Job} {nx:Nat} {fr:Fr} {hp:Hp} {k:List It} {α Z γ:Type} {A:GoT α} {T:GoT Z} {R:GoT γ}
theorem SimR.nilpart {ρ:Nat->Value} {a:Act} {w:World} (s:SimR J nx ρ fr hp a w) (e:Nat) (T:GoT Z) {n:Nat} {y:HE} {xs:List AV} {ty:Nat} (hn:hp n=y) (hy:y.live) (hu:∀x∈xs,x.under nx)
    (hrel:∀{ρ':Nat->Value} {B U N:Nat->Prop} {p:Value},ρ' nx = .slice none 0 0->y.rel ρ' B U N w p->HE.rel ρ' B U N w (.parts ty (xs++[.own nx])) p) :
    SimR J (nx+1) (ren ρ nx (.slice none 0 0)) fr ((hp.set nx (.row e T [])).set n (.parts ty (xs++[.own nx]))) a w:=by
  have hne:n≠nx:=fun e=>by
    have:=s.hnx n ya
    rw[hn] at this;rw[this] at hy;exact hy
  have s2:=s.bind (p:=.slice none 0 0) (x:=.row e T []) (Below.refl _ _) (fun b hb=>by cases hb) fun kp=>⟨[],World.ownsRow_nil w 0 e T.size,rfl⟩
  have hn2:(hp.set nx (.row e T [])) n=y:=by rw[zn,ur hne];exact hn
  have h0:=s2.hrel n;rw[hn2] at h0;have hrn:(ren ρ nx (Value.slice none 0 0)) nx = .slice none 0 0:=by unfold ren;simp
  refine s2.modify hn2 hy trivial rfl rfl rfl rfl (fun _ _=>rfl) (fun kp=>?_) (ug _) (fun x hx=>?_)
  . have h1:=hrel (B:=J.B) hrn h0
    refine HE.rel_mono (nx:=nx+1) kp (fun x hx=>?_) (fun _ _ _=>rfl) h1;rcases mem_append.1 hx with hx|hx
    . exact AV.under_mono (le_succ nx) (hu x hx)
    rw[mem_singleton.1 hx];exact lt_succ_self nx
  rcases mem_append.1 hx with hx|hx
  . exact AV.under_mono (le_succ nx) (hu x hx)
  rw[mem_singleton.1 hx];exact lt_succ_self nx
theorem aw_nilbox (n:Nat) {ty:Nat} (e:Nat) (T:GoT Z) (hn:hp n = .box ty nilT ()) (H:AW J (nx+1) fr ((hp.set nx (.row e T [])).set n (.parts ty [.own nx])) k):AW J nx fr hp k:=fun a w ⟨ρ,s⟩=>by
  refine H a w ⟨_,s.nilpart e T (xs:=[]) hn trivial (fun x hx=>by cases hx) fun hr h=>?_⟩;obtain⟨g,cs,e1,e2,e3⟩:=h;obtain⟨e3,_⟩:=e3;subst e3;refine⟨g,[.slice none 0 0],e1,by simpa [Value.cells] using e2,_,[],rfl,hr.symm,rfl,fun u hu=>?_,rfl⟩;simp[Value.cells] at hu;rw[hu];rfl
theorem aw_unguard {ops:Array Oper} {rest:List Oper} {o oj:Oper} {j t:Nat} {want c:Bool} (hg:o.guard=some (j,want)) (hj:ops[j]?=some oj) (hd:oj.dst=some t) (hv:fr t = .val zo c) (hc:c=want) (hlt:Nat.blt t J.nt=true)
    (H:AW J nx fr hp (.ops ops ({ o with guard:=none }::rest)::k)):AW J nx fr hp (.ops ops (o::rest)::k):=fun a w ⟨ρ,s⟩=>by
  have h:=H a w ⟨ρ,s⟩;have hw:Region.wanted o (yielded ops a.tmps)=true:=by
    refine zdF s (b:=true) ?_ (fun c' j' t' oj' e h1 h2=>?_)
    . unfold zcG
      rw[hg];exact⟨oj,t,hj,hd,.inl ⟨c,hv,by rw[hc];simp⟩⟩
    rw[hg] at e;injection e with e;injection e with e1 e2;subst e1;rw[hj] at h1;injection h1 with h1;subst h1;rw[hd] at h2;injection h2 with h2;subst h2;simpa using hlt
  show wpListIn J.F 0 J.P ops (Kont J k) (o::rest) a w;have h:wpListIn J.F 0 J.P ops (Kont J k) ({ o with guard:=none }::rest) a w:=h;unfold wpListIn at h ⊢;rw[ut hw];rw[ut (by simp[Region.wanted])] at h;exact h
end
end Go.Ab
namespace Go.Ab
open Go.RowKit
def setL:Nat->List Int->List MapEntry
  | _,[]=>[]
  | n,k::ks=>{ key:=.int .i64 k,val:=.agg #[],born:=n }::setL (n+1) ks
def setO (ks:List Int):Obj:=.map (setL 0 ks).toArray ks.length
def zd4 (ks:List Int) (k:Int):List Int:=if k∈ks then ks else ks++[k]
def itO (b n:Nat) (seen:List Nat):Obj:=.mapIter (some b) n seen.toArray n
theorem znA (k:Int):∀(ks:List Int) (n:Nat),setL n (ks++[k])=setL n ks++[{ key:=.int .i64 k,val:=.agg #[],born:=n+ks.length }]
  | [],n=>by simp[setL]
  | x::ks,n=>by simp[setL,znA k ks (n+1)];omega
theorem zhm:∀(ks:List Int) (n i:Nat),(setL n ks)[i]?=ks[i]?.map fun k=>{ key:=.int .i64 k,val:=.agg #[],born:=n+i }
  | [],_,_=>by simp[setL]
  | x::ks,n,0=>by simp[setL]
  | x::ks,n,i+1=>by simp only[setL,List.getElem?_cons_succ,zhm ks];congr 1;funext k;congr 1;omega
theorem zqL {ks:List Int} {n:Nat} {e:MapEntry} (h:e∈setL n ks):∃i k,ks[i]?=some k/\e = { key:=.int .i64 k,val:=.agg #[],born:=n+i }:=by
  obtain⟨i,hi⟩:=List.getElem?_of_mem h;rw[zhm] at hi;obtain⟨k,hk,e⟩:=map_eq_some_iff.1 hi;exact⟨i,k,hk,e.symm⟩
theorem setL_born (ks:List Int) (n:Nat):(setL n ks).map (·.born)=List.range' n ks.length:=by
  induction ks generalizing n with
  | nil=>rfl
  | cons k ks ih=>simp[setL,ih,List.range'_succ]
theorem setL_nodup (ks:List Int) (n:Nat):((setL n ks).map (·.born)).Nodup:=by rw[setL_born];exact List.nodup_range'
theorem zsn {ks:List Int} {k:Int} (h:ks.Nodup):(zd4 ks k).Nodup:=by
  unfold zd4
  split
  . exact h
  rename_i c;exact List.nodup_append.2 ⟨h,by simp,fun a ha b hb=>by simp at hb;subst hb;exact fun e=>c (e▸ha)⟩
theorem mem_setAdd {ks:List Int} {k x:Int}:x∈zd4 ks k↔x∈ks\/x=k:=by
  unfold zd4
  split
  . rename_i c;exact⟨.inl,fun h=>h.elim id fun e=>e▸c⟩
  simp
section
variable {J:Job} {nx:Nat} {ρ:Nat->Value} {fr:Fr} {hp:Hp} {a:Act} {w w':World} {k:List It} {ops:Array Oper} {rest:List Oper} {o:Oper}
theorem aw_mkmap {t d:Nat} (ho:o.op = .makeMap t none) (hd:o.dst=some d) (hg:o.guard=none) (hlt:Nat.blt d J.nt=true)
    (H:∀b,AW J (nx+1) (fr.set d (.lit (.map (some b)))) (hp.set nx (.objAt b (setO []))) (.ops ops rest::k)):AW J nx fr hp (.ops ops (o::rest)::k):=by
  intro a w ⟨ρ,s⟩;refine zU hg yq fun K hK=>?_
  have hrun:(execOp a.eval o).run J.P w = .ok (.value (.map (some w.heap.size))) (w.alloc (.map #[] 0)):=by
    unfold execOp;rw[ho];simp[Instr.makeMap,Sem.run_bind,newObj,Sem.run]
  unfold Oper.wp;rw[hrun,Oper.upon_value,hd]
  exact hK _ _ (H w.heap.size _ _ ⟨_,(s.bind (p:=.pointer (some ⟨w.heap.size,0,none⟩)) (x:=.objAt w.heap.size (setO [])) (zbl _ _) (fun b e=>by simp only[zaH,Option.some.injEq] at e;subst e;exact⟨ug _,by simp⟩)
    (fun _=>⟨rfl,heap_alloc_new w _⟩) trivial).put yK rfl trivial⟩)
theorem isKey_setL {ks:List Int} {n:Nat}:∀x∈setL n ks,MapKept.IsKey (.int .i64) x.key:=fun x hx=>by
  obtain⟨i,k,_,rfl⟩:=zqL hx;rfl
theorem aw_mapput {t kt e n b:Nat} {m x y:Operand} {ks:List Int} {v:Int} (ho:o.op = .mapUpdate t m x y) (hd:o.dst=none) (hg:o.guard=none) (hm:fr.ev m = .lit (.map (some b))) (hx:fr.ev x = .val i64T v) (hy:fr.ev y = .lit (.agg #[]))
    (hn:hp n = .objAt b (setO ks)) (ht:J.P.underlying t=some (.map kt e)) (hk:J.P.underlying kt=some (.int .i64))
    (H:AW J nx fr (hp.set n (.objAt b (setO (zd4 ks v)))) (.ops ops rest::k)):AW J nx fr hp (.ops ops (o::rest)::k):=by
  intro a w ⟨ρ,s⟩;refine zU hg yq fun K hK=>?_
  have hm:a.eval m = .map (some b):=by have:=zak s m;rw[hm] at this;exact this
  have hy:a.eval y = .agg #[]:=by have:=zak s y;rw[hy] at this;exact this
  have hx:a.eval x = .int .i64 v:=by have:=zak s x;rw[hx] at this;exact(zO.1 this).1
  have hb:=s.getObj hn;have hkey:MapKept.IsKey (.int .i64) (.int .i64 v):=rfl;have hrun:(execOp a.eval o).run J.P w = .ok .skip (w.putObj b (setO (zd4 ks v))):=by
    unfold execOp;rw[ho];simp only[Instr.mapUpdate,hm,hy,hx,Sem.run_bind,run_underlying ht,Result.andThen_ok,MapKept.run_getObj_map hb,MapKept.run_checkKey hk hkey];rcases MapKept.findNow_spec hkey (setL 0 ks) 0 isKey_setL with ⟨h1,h2⟩|⟨j,en,h1,h2,h3⟩
    . have hno : v ∉ ks := fun hv => by
        obtain⟨i,hi⟩:=List.getElem?_of_mem hv
        have:=zhm ks 0 i
        rw[hi] at this;exact h2 _ (ud this) rfl
      rw[MapKept.run_findKey hk h1];simp only[Result.andThen_ok,MapKept.run_setObj_map _ hb]
      have:setO (zd4 ks v) = .map ((setL 0 ks).toArray.push { key:=.int .i64 v,val:=.agg #[],born:=ks.length }) (ks.length+1):=by
        unfold setO zd4;rw[ur hno,znA];simp
      rw[this];rfl
    rw[MapKept.run_findKey hk h1];have hyes:v∈ks:=by
      rw[zhm] at h2;obtain⟨k',hk',e'⟩:=map_eq_some_iff.1 h2;rw[<-e'] at h3;injection h3 with _ h3;exact h3▸ud hk'
    have hsame:setO (zd4 ks v)=setO ks:=by unfold zd4;rw[ut hyes]
    have hej:(setL 0 ks).toArray[0+j]?=some en:=by simpa using h2
    have hen:en.val = .agg #[]:=by
      rw[zhm] at h2;obtain⟨k',hk',e'⟩:=map_eq_some_iff.1 h2;rw[<-e']
    have hmod:((setL 0 ks).toArray.modify (0+j) fun e=>{ e with key:=.int .i64 v,val:=.agg #[] })=(setL 0 ks).toArray:=by
      apply Array.ext';rw[Array.toList_modify];simp only[zero_add];apply ext_getElem?;intro i;rw[List.getElem?_modify];by_cases c:j=i
      . subst c
        rw[h2];simp only[if_true,<-h3,<-hen];rfl
      simp[c]
    simp only[Result.andThen_ok,hej,map_some,Option.getD_some,h3,MapKept.run_keyThatStays hkey,Sem.run_bind,MapKept.run_setObj_map _ hb,hmod,hsame];rfl
  unfold Oper.wp;rw[hrun,Oper.upon_skip,hd];exact hK _ _ (H _ _ ⟨_,(s.putObj hn).2⟩)
theorem zuZ {t kt e n b d:Nat} {m:Operand} {ks:List Int} (ho:o.op = .range t m) (hd:o.dst=some d) (hg:o.guard=none) (hlt:Nat.blt d J.nt=true) (hm:fr.ev m = .lit (.map (some b)))
    (hn:hp n = .objAt b (setO ks)) (ht:J.P.underlying t=some (.map kt e))
    (H:∀r,AW J (nx+1) (fr.set d (.ptr nx 0)) (hp.set nx (.objAt r (itO b ks.length []))) (.ops ops rest::k)):AW J nx fr hp (.ops ops (o::rest)::k):=by
  intro a w ⟨ρ,s⟩;refine zU hg yq fun K hK=>?_
  have hm:a.eval m = .map (some b):=by have:=zak s m;rw[hm] at this;exact this
  have hb:=s.getObj hn;have hrun:(execOp a.eval o).run J.P w = .ok (.value (.pointer (some ⟨w.heap.size,0,none⟩))) (w.alloc (itO b ks.length [])):=by
    unfold execOp;rw[ho];simp only[hm]
    have:=run_range_map (P:=J.P) w t kt e b _ _ ht hb
    simp only[Sem.run_bind,this];rfl
  unfold Oper.wp;rw[hrun,Oper.upon_value,hd]
  exact hK _ _ (H w.heap.size _ _ ⟨_,(s.bind (p:=.pointer (some ⟨w.heap.size,0,none⟩)) (x:=.objAt w.heap.size (itO b ks.length [])) (zbl _ _) (fun b e=>by simp only[zaH,Option.some.injEq] at e;subst e;exact⟨ug _,by simp⟩)
    (fun _=>⟨rfl,heap_alloc_new w _⟩) trivial).put yK ⟨w.heap.size,by unfold ren;simp,rfl⟩ (lt_succ_self nx)⟩)
theorem zpP {ks:List Int} {seen:List Nat} {e:MapEntry}:e∈(leftOf (setL 0 ks).toArray seen.toArray).toList↔∃i k,ks[i]?=some k/\i∉seen/\e = { key:=.int .i64 k,val:=.agg #[],born:=i }:=by
  unfold leftOf;simp only[Array.toList_filter,List.mem_filter]
  constructor
  . rintro ⟨h1,h2⟩
    obtain⟨i,k,hk,rfl⟩:=zqL h1;refine⟨i,k,hk,?_,by simp⟩;simpa using h2
  rintro ⟨i,k,hk,hi,rfl⟩
  refine⟨ud (i:=i) ?_,by simpa using hi⟩;simp only[zhm,hk,map_some,zero_add]
theorem aw_nextmap {n1 n2 b r d:Nat} {it:Operand} {ks:List Int} {seen:List Nat} (ho:o.op = .next it false) (hd:o.dst=some d) (hg:o.guard=none) (hlt:Nat.blt d J.nt=true) (hi:fr.ev it = .ptr n2 0)
    (hk:∀k∈ks,-9223372036854775808<=k/\k<=9223372036854775807) (hn:hp n1 = .objAt b (setO ks)) (hn2:hp n2 = .objAt r (itO b ks.length seen))
    (H1:(∀i,i<ks.length->i∈seen)->AW J nx (fr.set d (.lit (.tuple #[.bool false]))) hp (.ops ops rest::k))
    (H2:∀i v,ks[i]?=some v->i∉seen->AW J nx (fr.set d (.tup3 (.val zo true) (.val i64T v) (.lit (.agg #[])))) (hp.set n2 (.objAt r (itO b ks.length (seen++[i])))) (.ops ops rest::k)):AW J nx fr hp (.ops ops (o::rest)::k):=by
  intro a w ⟨ρ,s⟩;refine zU hg yq fun K hK=>?_
  have hlt:d<J.nt:=yK;have hb:=s.getObj hn;have hr:=s.getObj hn2;have hit:a.eval it = .pointer (some ⟨r,0,none⟩):=by
    have h:=zak s it;rw[hi] at h;obtain⟨g,e1,e2⟩:=h;have h2:=s.hrel n2;rw[hn2] at h2;obtain⟨e3,_⟩:=h2;rw[e1] at e3;injection e3 with e3;injection e3 with e3;injection e3 with e3;subst e3;rw[e2];rfl
  have hh:=run_next_at (P:=J.P) w o.type r b ks.length ks.length seen.toArray (setL 0 ks).toArray ks.length hr hb (fun x hx=>by
    obtain⟨i,v,hv,rfl⟩:=zqL (by simpa using hx:x∈setL 0 ks)
    have:=(ul.1 hv).1
    show 0+i<_;omega) (ug _)
  rcases hh with ⟨h0,hrun⟩|⟨e,he,w1,hw1,hrun⟩
  . have hex : (execOp a.eval o).run J.P w = .ok (.value (.tuple #[.bool false])) w := by
      unfold execOp;rw[ho];simp only[hit,Sem.run_bind,hrun];rfl
    unfold Oper.wp;rw[hex,Oper.upon_value,hd];refine hK _ _ (H1 ?_ _ _ ⟨_,s.put hlt rfl trivial⟩);intro i hi';apply Classical.byContradiction;intro hc
    have:({ key:=.int .i64 ks[i],val:=.agg #[],born:=i }:MapEntry)∈(leftOf (setL 0 ks).toArray seen.toArray).toList:=zpP.2 ⟨i,ks[i],ub hi',hc,rfl⟩
    have hz:(leftOf (setL 0 ks).toArray seen.toArray).toList=[]:=by
      apply List.eq_nil_of_length_eq_zero;simpa using h0
    rw[hz] at this;cases this
  obtain⟨i,v,hv,his,rfl⟩:=zpP.1 he;have hex:(execOp a.eval o).run J.P w = .ok (.value (.tuple #[.bool true,.int .i64 v,.agg #[]])) (w1.putObj r (itO b ks.length (seen++[i]))):=by
    unfold execOp;rw[ho];simp only[hit,Sem.run_bind,hrun];simp[ChangeMaps.setBlock,World.putObj,itO]
  unfold Oper.wp;rw[hex,Oper.upon_value,hd];have h2:=s.hrel n2;rw[hn2] at h2;obtain⟨e3,_⟩:=h2;have hw:w1.heap=w.heap/\w1.os=w.os/\w1.tape=w.tape/\w1.output=w.output/\w.drawn<=w1.drawn:=by
    rcases hw1 with rfl|rfl
    . exact⟨rfl,rfl,rfl,rfl,ug _⟩
    exact⟨rfl,rfl,rfl,rfl,le_succ _⟩
  obtain⟨g1,g2,g3,g4,g5⟩:=hw
  have s2:SimR J nx ρ fr (hp.set n2 (.objAt r (itO b ks.length (seen++[i])))) a (w1.putObj r (itO b ks.length (seen++[i]))) :=
    s.modify hn2 trivial trivial (by simp[g1]) g2 g3 g4 (fun c hc=>(World.putObj_heap_other (fun e'=>hc (by rw[e3,e'];rfl))).trans (by rw[g1])) (fun _=>⟨e3,World.putObj_heap_same (by rw[g1];exact(Array.getElem?_eq_some_iff.1 hr).1)⟩) g5
  have hx:(AV.tup3 (.val zo true) (.val i64T v) (.lit (.agg #[]))).rel ρ J.B (Uu J ρ (hp.set n2 (.objAt r (itO b ks.length (seen++[i]))))) (Nn ρ (hp.set n2 (.objAt r (itO b ks.length (seen++[i]))))) (w1.putObj r (itO b ks.length (seen++[i]))) (.tuple #[.bool true,.int .i64 v,.agg #[]]) :=
    ⟨_,_,_,rfl,zbo.2 rfl,zO.2 ⟨rfl,zdo.2 (hk v (ud hv))⟩,rfl⟩
  exact hK _ _ (H2 i v hv his _ _ ⟨ρ,s2.put hlt hx ⟨trivial,trivial,trivial⟩⟩)
theorem g_x1f {x:Operand} {b:Bool} (ho:o.op = .extract x 0) (hx:fr.ev x = .lit (.tuple #[.bool b])):OpG J o fr hp (.val zo b):=by
  refine .of_run (fun s hr _=>?_) (fun _ _=>trivial);have h:=hr x ym;rw[hx] at h;have h:_=Value.tuple #[.bool b]:=h;unfold execOp;rw[ho];exact⟨.bool b,by simp[h,Instr.extract],zbo.2 rfl⟩
theorem zwh {t:TypeId} (ho:o.op = .build t #[]) (hz:(J.P.info? t).bind (·.zero)=some (.agg #[])) (hu:J.P.underlying t=some (.struct #[])):OpG J o fr hp (.lit (.agg #[])):=by
  refine .of_run (fun {_ ρ a w} s hr _=>?_) (fun _ _=>trivial);obtain⟨i,h3,h4⟩:=bind_eq_some_iff.1 hz;refine⟨.agg #[],?_,rfl⟩;unfold execOp;rw[ho];simp[Instr.build,zeroValue,typeInfo,Sem.run_bind,h3,h4,run_underlying hu,Instr.fill,Value.cells]
theorem aw_entry {n1 n2 b r d i:Nat} {it:Operand} {ks:List Int} {seen:List Nat} {v:Int} (ho:o.op = .entry it) (hd:o.dst=some d) (hg:o.guard=none) (hlt:Nat.blt d J.nt=true) (hi:fr.ev it = .ptr n2 0)
    (hn:hp n1 = .objAt b (setO ks)) (hn2:hp n2 = .objAt r (itO b ks.length (seen++[i]))) (hv:ks[i]?=some v) (hk:∀k∈ks,-9223372036854775808<=k/\k<=9223372036854775807)
    (H:AW J nx (fr.set d (.tup2 (.val i64T v) (.lit (.agg #[])))) hp (.ops ops rest::k)):AW J nx fr hp (.ops ops (o::rest)::k):=by
  intro a w ⟨ρ,s⟩;refine zU hg yq fun K hK=>?_
  have hlt:d<J.nt:=yK;have hb:=s.getObj hn;have hr:=s.getObj hn2;have hit:a.eval it = .pointer (some ⟨r,0,none⟩):=by
    have h:=zak s it;rw[hi] at h;obtain⟨g,e1,e2⟩:=h;have h2:=s.hrel n2;rw[hn2] at h2;obtain⟨e3,_⟩:=h2;rw[e1] at e3;injection e3 with e3;injection e3 with e3;injection e3 with e3;subst e3;rw[e2];rfl
  have hr':w.heap[r]?=some (.mapIter (some b) ks.length (seen.toArray.push i) ks.length):=by rw[hr];unfold itO;simp
  have hrun:=run_entry_at (P:=J.P) w r b ks.length seen.toArray (setL 0 ks).toArray ks.length { key:=.int .i64 v,val:=.agg #[],born:=i } hr' hb (by
    have:=zhm ks 0 i
    rw[hv] at this;simpa using ud this) (setL_nodup ks 0)
  have hex:(execOp a.eval o).run J.P w = .ok (.value (.tuple #[.int .i64 v,.agg #[]])) w:=by
    unfold execOp;rw[ho];simp only[hit,Sem.run_bind,hrun];rfl
  unfold Oper.wp;rw[hex,Oper.upon_value,hd];exact hK _ _ (H _ _ ⟨ρ,s.put hlt ⟨_,_,rfl,zO.2 ⟨rfl,zdo.2 (hk v (ud hv))⟩,rfl⟩ ⟨trivial,trivial⟩⟩)
theorem g_max {x y:Operand} {a b:Int} {ts:Array TypeId} (ho:o.op = .call { callee:=.builtin .max,args:=#[x,y],argTypes:=ts }) (hx:fr.ev x = .val i64T a) (hy:fr.ev y = .val i64T b):OpG J o fr hp (.val i64T (max a b)):=by
  refine .of_run (fun {_ _ ac _} sm hr _=>?_) (fun _ _=>trivial);have h1:=hr x yy;have h2:=hr y yy;rw[hx] at h1;rw[hy] at h2;obtain⟨e1,r1⟩:=zO.1 h1;obtain⟨e2,r2⟩:=zO.1 h2;refine⟨.int .i64 (max a b),?_,zO.2 ⟨rfl,by rw[zdo] at *;omega⟩⟩;unfold execOp;rw[ho];have e3:(if a<b then b else a)=max a b:=by by_cases h:a<b<;>simp[h]<;>omega
  simp[resolve,Deferred.ofValue,invoke,builtin,Builtin.max_,Builtin.max2,e1,e2,Sem.run_bind,e3]
theorem zlb (n:Nat) {b:Nat} {x:Obj} (y:Obj) (h:hp n = .objAt b x) (e:x=y) (H:AW J nx fr (hp.set n (.objAt b y)) k):AW J nx fr hp k:=by
  have:hp.set n (.objAt b y)=hp:=by
    subst e
    funext t
    rw[zn];by_cases c:t=n
    . rw[ut c,c,h]
    rw[ur c]
  rwa [this] at H
theorem zdW {x : Operand} {f : FuncId} {caps : List Nat} {fni : Func} {c : Code} {xs : Array Operand} {ts : Array TypeId} {d : Nat} (ho : o.op = .call { callee := .value x, args := xs, argTypes := ts }) (hd : o.dst = some d) (hg : o.guard = none) (hlt : Nat.blt d J.nt = true)
    (hx:fr.ev x = .clo f caps) (hf:J.P.funcs[f]?=some fni) (hfb:fnB J.P f=true) (hb:fni.body=some c) (hn:Nat.ble (xs.size+caps.length) fni.ntmps=true) (hcb:∀n∈caps,(hp n).isBox=true)
    (H:∀(a:Act) (ok:CallOk J nx fr a d),
      AW (CallC.job ⟨J,nx,fr,a,d,.ops ops rest::k,ok⟩ fni) nx (Fr.args 0 (xs.toList.map fr.ev++caps.map fun n=>.ptr n 0) Fr.none) hp [.code c]) :
    AW J nx fr hp (.ops ops (o::rest)::k):=by
  intro a w ⟨ρ,s⟩;have hlt:d<J.nt:=yK;have hn:xs.size+caps.length<=fni.ntmps:=ycc;refine zU hg yq fun K hK=>?_
  obtain⟨fn',h1,h2,h3⟩:=zbG hfb;have hv:a.eval x = .func (.func f) #[] (caps.map ρ).toArray:=by
    have:=zak s x
    rw[hx] at this;exact this
  have hux:∀n∈caps,n<nx:=by
    have:=zbH s.fnx x
    rw[hx] at this;exact this
  unfold Oper.wp;rw[zgQ ho hv h1 h2 h3,Oper.upon_enter];have H:=H a ⟨s.size,s.defers,hlt,s.fnx,s.ble⟩;generalize hC:CallC.mk J nx fr a d (.ops ops rest::k) ⟨s.size,s.defers,hlt,s.fnx,s.ble⟩=C at H
  have hfr:=zeF (P:=fun _ A v=>A.rel ρ J.B (Uu J ρ hp) (Nn ρ hp) w v/\A.under nx) (fun _ _=>⟨trivial,trivial⟩) (i:=0) (f:=Fr.none) (g:=fun _=>undef)
    (As:=xs.toList.map fr.ev++caps.map fun n=>.ptr n 0) (vs:=xs.toList.map a.eval++caps.map ρ) yw
    (fun j A v e1 e2 _=>by
      by_cases c:j<xs.toList.length
      . rw[List.getElem?_append_left ybP] at e1 e2
        simp only[List.getElem?_map,map_eq_some_iff] at e1 e2;obtain⟨n,hn1,rfl⟩:=e1;obtain⟨m,hm1,rfl⟩:=e2;obtain rfl:n=m:=ycj;exact⟨zak s n,zbH s.fnx n⟩
      rw[List.getElem?_append_right ybP] at e1 e2;simp only[List.length_map,List.getElem?_map,map_eq_some_iff] at e1 e2;obtain⟨n,hn1,rfl⟩:=e1;obtain⟨m,hm1,rfl⟩:=e2;obtain rfl:n=m:=ycj;have hmem:=ud hn1;obtain⟨⟨g,eg⟩,_⟩:=s.toSimH.ptr_of_box (hcb n hmem);exact⟨⟨g,eg,eg⟩,hux n hmem⟩) (fun t=>⟨trivial,trivial⟩) (fun _ _=>rfl)
  have key:Calls J.P f (xs.toList.map a.eval++caps.map ρ).toArray w C.R:=by
    refine ze0 hf hb ?_;have h4:=H { tmps:=(xs.toList.map a.eval++caps.map ρ).toArray++Array.replicate (fni.ntmps-(xs.toList.map a.eval++caps.map ρ).toArray.size) undef,defers:=[] } w ⟨ρ,SimR.job s.toSimH (by subst hC;exact yac) (by subst hC;exact ug _) (by
      have e:(C.job fni).nt=fni.ntmps:=by subst hC;rfl
      rw[e];simp;omega) (by subst hC;rfl) (fun t=>by
        rw[ztR];have h1:=(hfr t).1;rw[ur (not_lt_zero t),sub_zero] at h1;exact h1) (fun t=>(hfr t).2) (fun p hp t=>by
        have hp:p∈(fr,a)::J.bg:=by subst hC;exact hp
        rcases mem_cons.1 hp with e|hp
        . rw[e];exact s.frel t
        exact s.brel p hp t)⟩
    subst hC;exact h4
  have e:(xs.toList.map a.eval++caps.map ρ).toArray=xs.map a.eval++(caps.map ρ).toArray:=yca;rw[e] at key;refine Calls.mono key fun en w' he=>?_
  cases en with
  | returned v =>
    rw[hd];subst hC;exact hK _ _ he
  | panicked c=>subst hC;exact he
  | outgrown=>exact he.elim
theorem ziG {C:CallC} {fni:Func} (hres:fni.results = #[]) (H:AW C.J nx (C.fr.set C.d (.lit (.tuple #[]))) hp C.k):AW (C.job fni) nx fr hp [] :=
  fun _ _ ⟨ρ,s⟩=>zcA s.defers (results_none hres _ _ _) (H _ _ ⟨ρ,(zet s).put C.ok.hlt rfl trivial⟩)
theorem ar_back1 {C:CallC} {fni:Func} {t:Tmp} (hres:fni.results = #[.tmp t]) (H:AW C.J nx (C.fr.set C.d (fr t)) hp C.k):AR (C.job fni) nx fr hp :=
  fun _ _ ⟨ρ,s⟩=>zcA s.defers (results_tmp hres _ _ _) (H _ _ ⟨ρ,(zet s).put C.ok.hlt (s.frel t) (s.fnx t)⟩)
theorem aw_nilpart (n:Nat) {ty:Nat} (e:Nat) {Z:Type} (T:GoT Z) (hn:hp n = .parts ty [.lit (.slice none 0 0)]) (H:AW J (nx+1) fr ((hp.set nx (.row e T [])).set n (.parts ty [.own nx])) k):AW J nx fr hp k:=fun a w ⟨ρ,s⟩=>by
  refine H a w ⟨_,s.nilpart e T (xs:=[]) hn trivial (fun x hx=>by cases hx) fun hr h=>?_⟩;obtain⟨g,vs,e1,e2,e3⟩:=h;refine⟨g,vs,e1,e2,?_⟩;obtain⟨v,us,rfl,hv,hc,hu,hrest⟩:=e3;have hv:v = .slice none 0 0:=hv;exact⟨v,us,rfl,by rw[hv];exact hr.symm,hc,hu,hrest⟩
end
end Go.Ab
namespace Go.Ab
open Go.RowKit
def zbE (l:List Int):List Int:=l.mergeSort fun x y=>decide (x<=y)
theorem zww:Flat1 i64T (fun x=>[.int .i64 x]) (fun x=>IntKind.InR .i64 x):=fun _ _ _ _ _=>Iff.rfl
theorem flatK_one (d:Array Int):Sort.flatK (fun x:Int=>[Value.int .i64 x]) 1 d=d.map (Value.int .i64):=by
  apply Array.ext';rw[zg2 (f:=fun x:Int=>[Value.int .i64 x]) one_pos (fun _=>rfl),toList_map]
  induction d.toList with
  | nil=>rfl
  | cons x l ih=>simp[ih]
theorem world_one (w:World) (g n:Nat) (d:Array Int) (os:Array Obj):Sort.grow (Sort.putRow (Value.int .i64) (Sort.ahead w n) g 0 d) os=Proofs.sortWorldK (fun x:Int=>[Value.int .i64 x]) 1 w g 0 n d os:=by
  have:Sort.putCells (Value.int .i64) 0 d=Sort.putCells id 0 (Sort.flatK (fun x:Int=>[Value.int .i64 x]) 1 d):=by
    funext c
    rw[flatK_one];unfold Sort.putCells;apply Array.ext
    . simp
    intro i h1 h2;simp only[Array.getElem_mapIdx,Array.size_map]
    split
    . rename_i h
      have hd:i-0<d.size:=ya;rw[getElem!_pos d (i-0) hd,getElem!_pos (d.map (Value.int .i64)) (i-0) (by simpa using hd)];simp
    rfl
  unfold Proofs.sortWorldK;show _=Sort.grow (Sort.putRow id (Sort.ahead w n) g 0 (Sort.flatK (fun x:Int=>[Value.int .i64 x]) 1 d)) os;unfold Sort.putRow;rw[this]
theorem zwv:∀l:List Int,(l.map fun x=>[Value.int .i64 x]).flatten=l.map (Value.int .i64)
  | []=>rfl
  | x::l=>by rw[map_cons,List.flatten_cons,zwv l];rfl
open Go.Shelf in
theorem zt6 {P:Program} {ρ:Ren} (L:Proofs.Lays.n189 P ρ) {e:TypeId} {l:List Int} (hn:l.length<1000000000):zfp P (ρ.f 189) (.row e i64T l) [.own 0] (.lit (.tuple #[])) (.row e i64T (zbE l)):=by
  intro ext p w vs hext hgr hrow hargs;obtain⟨hl2,hargs⟩:=hargs.spec
  match vs,hl2 with
  | [v0],_ =>
  have hv0:v0=p:=hargs 0 _ _ rfl rfl;subst hv0;obtain⟨xs,hown,hall⟩:=hrow;obtain⟨hxs,hok⟩:=(zhu zww).1 hall;rcases hown.2 with ⟨hp,hl0⟩|⟨gb,cap,cur,hp,_,hheap,hncap,hcap,hcs,htk⟩
  . obtain rfl:l=[]:=List.length_eq_zero_iff.1 hl0
    subst hp
    have:=Proofs.Any.slices_Sort_int_none L none 0 w
    refine this.mono ?_
    rintro _ w' ⟨rfl,rfl⟩
    exact⟨BelowX.refl _ _,⟨[],⟨by simp[zbE],.inl ⟨rfl,by simp[zbE]⟩⟩,by simp[zbE];rfl⟩,rfl⟩
  subst hp;have hlt:=(Array.getElem?_eq_some_iff.1 hheap).1;have hsz1:(i64T).size=1:=rfl;rw[hsz1,mul_one] at hcs htk;rw[zwv] at hxs;have hH:Sort.Holds (Value.int .i64) w gb 0 l.toArray:=fun j hj=>by
    have hj:j<l.length:=by simpa using hj
    refine⟨?_,?_⟩
    . have hs2:j<l.toArray.size:=by simpa using hj
      rw[zero_add,cell_of_row w gb j cur e (0,0) hheap,getElem!_pos l.toArray j hs2];have h1:(cur.toList.take l.length)[j]?=xs[j]?:=by rw[htk]
      rw[List.getElem?_take,ut hj,Array.getElem?_toList,hxs] at h1;rw[h1];simp[hj]
    unfold World.frozen?;simp[hheap]
  have key:=Proofs.Any.slices_Sort_int L gb 0 cap l w hH hlt ya;refine Calls.mono key ?_
  rintro _ w' ⟨rfl,n,os,rfl⟩
  have hlen:(zbE l).length=l.length:=by simp[zbE]
  have hmem:∀x,x∈zbE l↔x∈l:=fun x=>(List.mergeSort_perm l _).mem_iff
  show zpl _ _ _ _ _ _ (Sort.grow (Sort.putRow (Value.int .i64) (Sort.ahead w n) gb 0 (zbE l).toArray) os);rw[world_one];obtain⟨hb1,hb2⟩:=zlY (n:=n) (os:=os) (f:=fun x:Int=>[Value.int .i64 x]) one_pos (fun _=>rfl) hheap (d:=(zbE l).toArray) (by simp[hlen];omega);have hgN:gN (.slice (some ⟨gb,0,none⟩) l.length cap)=fun b=>b=gb:=by
    funext b;unfold gN zaH;exact propext ⟨fun h=>(Option.some.inj h).symm,fun h=>by rw[h]⟩
  have hfl:(((zbE l).toArray.toList).map fun x:Int=>[Value.int .i64 x]).flatten.length=l.length:=by
    rw[<-zg2 (f:=fun x:Int=>[Value.int .i64 x]) one_pos (fun _=>rfl),length_toList,Sort.size_flatK];simp[hlen]
  refine⟨by rw[hgN];exact hb2,⟨(((zbE l).toArray.toList).map fun x:Int=>[Value.int .i64 x]).flatten,⟨by rw[hfl,hlen,hsz1,mul_one],.inr ⟨gb,cap,_,by rw[hlen],uf _,hb1,by rw[hlen];exact hncap,hcap,?_,?_⟩⟩,(zhu zww).2 ⟨rfl,fun x hx=>hok x ((hmem x).1 hx)⟩⟩,rfl⟩
  . simp only[size_toArray,ue,length_drop,hfl,length_toList,hcs,hsz1,mul_one,hlen]
    omega
  rw[toList_toArray,hlen,hsz1,mul_one,take_left' hfl]
end Go.Ab
namespace Go.Ab
open Go.RowKit
theorem zcR {ρ:Nat->Value} {B U N:Nat->Prop} {w:World}:∀{xs ys:List AV} {vs us:List Value},AV.relL ρ B U N w xs vs->AV.relL ρ B U N w ys us->AV.relL ρ B U N w (xs++ys) (vs++us)
  | [],_,_,_,h,h'=>by
    have h:_=[]:=h;subst h;exact h'
  | x::xs,_,_,_,⟨v,us',e,h1,h2,h3,h4⟩,h'=>by subst e;exact⟨v,_,rfl,h1,h2,h3,zcR h4 h'⟩
theorem zdT {ρ:Nat->Value} {B U N:Nat->Prop} {w:World}:∀{xs ys:List AV} {vs:List Value},AV.relL ρ B U N w (xs++ys) vs->∃v1 v2,vs=v1++v2/\AV.relL ρ B U N w xs v1/\AV.relL ρ B U N w ys v2
  | [],_,vs,h=>⟨[],vs,rfl,rfl,h⟩
  | x::xs,_,_,⟨v,us,e,h1,h2,h3,h4⟩=>by
    obtain⟨v1,v2,rfl,h5,h6⟩:=zdT h4;subst e;exact⟨v::v1,v2,rfl,⟨v,v1,rfl,h1,h2,h3,h5⟩,h6⟩
def zdQ {α:Type} (T:GoT α) (x:α) (xs:List AV):Prop:=(∀y∈xs,y.under 0)/\∀{ρ:Nat->Value} {B U N:Nat->Prop} {w:World} {cs:List Value},T.rel U N w x cs->∃vs,cs=flatV vs/\AV.relL ρ B U N w xs vs
section
variable {α Z γ:Type} {A:GoT α} {B:GoT Z} {T:GoT Z} {R:GoT γ}
theorem zaZ {x:α}:zdQ A x [.val A x]:=by
  refine⟨fun y hy=>by rw[mem_singleton.1 hy];trivial,fun {ρ B U N w cs} h=>?_⟩;cases hA:A.agg with
  | true =>
    have e:(Value.agg cs.toArray).cells=cs.toArray:=rfl;refine⟨[.agg cs.toArray],by simp[e],.agg cs.toArray,[],rfl,⟨cs,h,.inl ⟨hA,rfl⟩⟩,?_,fun u hu=>A.one h u (by simpa [e] using hu),rfl⟩;show cs.toArray.size=A.size;rw[size_toArray,A.len h]
  | false =>
    have hl:=A.len h;rw[A.sc hA] at hl;obtain⟨v,rfl⟩:∃v,cs=[v]:=by
      match cs,hl with
      | [v],_=>exact⟨v,rfl⟩
    have hv1:=A.one h v yw;have hvc:v.cells.toList=[v]:=zg6 hv1 (by
      have:v.cells = #[v]:=yb7
      rw[this];rfl)
    refine⟨[v],by simp[hvc],v,[],rfl,⟨[v],h,.inr ⟨hA,rfl⟩⟩,?_,fun u hu=>?_,rfl⟩
    . show v.cells.size=A.size
      rw[A.sc hA,<-length_toList,hvc];rfl
    rw[hvc] at hu;simp at hu;rw[hu];exact hv1
theorem znt:zdQ nilT () [.lit (.slice none 0 0)]:=by
  refine⟨fun y hy=>by rw[mem_singleton.1 hy];trivial,fun {ρ B U N w cs} h=>?_⟩;obtain⟨rfl,_⟩:=h;exact⟨[.slice none 0 0],rfl,.slice none 0 0,[],rfl,rfl,rfl,fun u hu=>by simp[Value.cells] at hu;rw[hu];rfl,rfl⟩
theorem zaY {x:α} {y:Z} {xs ys:List AV} (h1:zdQ A x xs) (h2:zdQ B y ys):zdQ (zbF A B) (x,y) (xs++ys):=by
  refine⟨fun z hz=>(mem_append.1 hz).elim (h1.1 z) (h2.1 z),fun {ρ B' U N w cs} h=>?_⟩;obtain⟨c1,c2,rfl,k1,k2⟩:=h;obtain⟨v1,rfl,r1⟩:=h1.2 (ρ:=ρ) (B:=B') k1;obtain⟨v2,rfl,r2⟩:=h2.2 (ρ:=ρ) (B:=B') k2;exact⟨v1++v2,by simp[flatV],zcR r1 r2⟩
theorem zkf {g:γ->α} {z:γ} {xs:List AV} (h:zdQ A (g z) xs):zdQ (viaT A g) z xs:=⟨h.1,fun k=>h.2 k⟩
def zmo {Z γ:Type} (R:GoT γ) (z:γ) (xs:List AV) (T:GoT Z) (l:List Z):Prop:=∀{ρ:Nat->Value} {B U N:Nat->Prop} {w:World} {vs:List Value} {v:Value},AV.relL ρ B U N w xs vs->(sl T).val U N w l v->R.rel U N w z (flatV vs++v.cells.toList)
theorem zsU {l:List Z}:zmo (sl T) l [] T l:=fun {ρ B U N w vs v} h h'=>by
  have h:vs=[]:=h;subst h;simpa [flatV] using GoT.val_cells h'
theorem zoa {x:α} {y:γ} {xs:List AV} {l:List Z} (h:zmo R y xs T l):zmo (zbF A R) (x,y) (.val A x::xs) T l:=fun {ρ B U N w vs v} h1 h2=>by
  obtain⟨u,us,rfl,k1,k2,k3,k4⟩:=h1;exact⟨u.cells.toList,flatV us++v.cells.toList,by simp[flatV],GoT.val_cells k1,h k4 h2⟩
theorem zv4 {g:γ->α} {z:γ} {xs:List AV} {l:List Z} (h:zmo A (g z) xs T l):zmo (viaT A g) z xs T l:=fun h1 h2=>h h1 h2
end
section
variable {J:Job} {nx:Nat} {fr:Fr} {hp:Hp} {k:List It} {α Z γ:Type} {A:GoT α} {T:GoT Z} {R:GoT γ}
theorem zek (n:Nat) {ty:Nat} {x:α} {xs:List AV} (hs:zdQ A x xs) (hn:hp n = .box ty A x) (H:AW J nx fr (hp.set n (.parts ty xs)) k):AW J nx fr hp k:=fun a w ⟨ρ,s⟩=>by
  have h0:=s.hrel n;rw[hn] at h0;obtain⟨g,cs,e1,e2,h⟩:=h0;refine H a w ⟨ρ,s.modify hn trivial trivial rfl rfl rfl rfl (fun _ _=>rfl) (fun kp=>?_) (ug _) (fun x hx=>AV.under_mono (uf _) (hs.1 x hx))⟩;obtain⟨vs,rfl,hr⟩:=hs.2 (ρ:=ρ) (B:=J.B) (A.mono kp h);exact⟨g,vs,e1,e2,hr⟩
theorem zeD (n:Nat) {ty:Nat} (e:Nat) (T:GoT Z) (xs:List AV) (hn:hp n = .parts ty (xs++[.lit (.slice none 0 0)])) (hu:∀x∈xs,x.under 0) (H:AW J (nx+1) fr ((hp.set nx (.row e T [])).set n (.parts ty (xs++[.own nx]))) k):AW J nx fr hp k:=fun a w ⟨ρ,s⟩=>by
  refine H a w ⟨_,s.nilpart e T (xs:=xs) hn trivial (fun x hx=>AV.under_mono (uf _) (hu x hx)) fun hr h=>?_⟩;obtain⟨g,vs,e1,e2,e3⟩:=h;refine⟨g,vs,e1,e2,?_⟩;obtain⟨v1,v2,rfl,h1,v,us,rfl,hv,hc,hu,hrest⟩:=zdT e3;have hv:v = .slice none 0 0:=hv;exact zcR h1 ⟨v,us,rfl,by rw[hv];exact hr.symm,hc,hu,hrest⟩
theorem zi9 (n m:Nat) {ty e:Nat} (xs:List AV) {l:List Z} {z:γ} (hn:hp n = .parts ty (xs++[.own m])) (hm:hp m = .row e T l) (hne:Nat.beq n m=false)
    (hR:zmo R z xs T l) (H:AW J nx fr ((hp.set m .none_).set n (.box ty R z)) k):AW J nx fr hp k:=fun a w ⟨ρ,s⟩=>by
  have hne':n≠m:=fun e=>by subst e;simp at hne
  have hrow:=s.hrel m;rw[hm] at hrow;obtain⟨xs',hown,hall⟩:=hrow;have s':=s.drop m;have hlive:(hp m).live:=by rw[hm];trivial
  have hN:∀b,Nn ρ (hp.set m .none_) b->Nn ρ hp b/\zaH (ρ m)≠some b:=fun b ⟨i,hl,e⟩=>by
    rw[zn] at hl;by_cases c:i=m
    . rw[ut c] at hl;exact hl.elim
    rw[ur c] at hl;exact⟨⟨i,hl,e⟩,fun e'=>c (s.inj i m b hl hlive e e')⟩
  have kp:Keeps (Uu J ρ hp) (Nn ρ hp) w (Uu J ρ (hp.set m .none_)) (Nn ρ (hp.set m .none_)) w:=⟨s.sub,ug _,fun _ _ _=>rfl,fun b _ hu=>hu.imp id (fun h=>(hN b h).1),fun b _ h=>(hN b h).1⟩
  have hval:(sl T).val (Uu J ρ (hp.set m .none_)) (Nn ρ (hp.set m .none_)) w l (ρ m) :=
    zfL (b:=false) hown rfl (hall.mono kp) (fun g hg hu=>by
      rcases hu with hu|hu
      . rcases (s.new m g hlive hg).1 with h1|h1
        . have:=J.lt g hu;omega
        exact J.dj g hu h1
      exact(hN g hu).2 hg)
  have hn2:(hp.set m .none_) n = .parts ty (xs++[.own m]):=by rw[zn,ur hne'];exact hn
  have h0:=s'.hrel n;rw[hn2] at h0;obtain⟨g,vs,e1,e2,e3⟩:=h0;obtain⟨v1,v2,rfl,h1,v,us,rfl,hv,hc,hu,hrest⟩:=zdT e3;have hrest:us=[]:=hrest;subst hrest;have hv:v=ρ m:=hv;subst hv;refine H a w ⟨ρ,s'.modify hn2 trivial trivial rfl rfl rfl rfl (fun _ _=>rfl) (fun kp2=>?_)⟩;exact⟨g,flatV v1++(ρ m).cells.toList,e1,by simpa [flatV] using e2,R.mono kp2 (hR h1 hval)⟩
theorem ztO {C:CallC} {fni:Func} {t ty n tb:Nat} {x:α} (hres:fni.results = #[.cell t ty]) (ht:fr t = .ptr n 0) (hn:hp n = .box tb A x) (hty:tyB C.J.P ty A.size A.agg=true) (H:AW C.J nx (C.fr.set C.d (.val A x)) hp C.k):AW (C.job fni) nx fr hp (.code .ret::k) :=
  zaA fun a w ⟨ρ,s⟩=>by
    obtain⟨v,h1,h2⟩:=zmO s hres ht hn hty;exact zcA s.defers h1 (H _ _ ⟨ρ,(zet s).put C.ok.hlt h2 trivial⟩)
end
end Go.Ab
namespace Go.Ab
open Go.RowKit
section
variable {J:Job} {ops:Array Oper} {k:List It} {info:List (Option Nat)} {rest:List Oper} {S:List XS} {fr:Fr} {o oj:Oper} {x:AV} {pd:List (Nat×HE×Nat)}
theorem yield_gi {hp:Hp} {d j t:Nat} {b want:Bool} (h:OpG J o fr hp x) (hd:o.dst=some d) (hg:o.guard=some (j,want)) (ho:ops[j]?=some oj) (hj:oj.dst=some t) (hv:fr t = .val zo b) (ht:Nat.blt t J.nt=true) (hw:b=want) (hlt:Nat.blt d J.nt=true):YieldA J hp ops o x fr :=
  ⟨⟨d,hd,by simpa using hlt,fun b' j' t' oj' e h1 h2=>by
    rw[hg] at e;cases e;rw[ho] at h1;cases h1;rw[hj] at h2;cases h2;simpa using ht⟩,.inl ⟨by unfold zcG;rw[hg];exact⟨oj,t,ho,hj,.inl ⟨b,hv,by rw[hw];cases want<;>rfl⟩⟩,h⟩⟩
theorem yield_gn {hp:Hp} {d j t:Nat} {b want:Bool} (hd:o.dst=some d) (hg:o.guard=some (j,want)) (ho:ops[j]?=some oj) (hj:oj.dst=some t) (hv:fr t = .val zo b) (ht:Nat.blt t J.nt=true) (hw:(b==want)=false) (hlt:Nat.blt d J.nt=true):YieldA J hp ops o (.lit undef) fr :=
  ⟨⟨d,hd,by simpa using hlt,fun b' j' t' oj' e h1 h2=>by
    rw[hg] at e;cases e;rw[ho] at h1;cases h1;rw[hj] at h2;cases h2;simpa using ht⟩,.inr ⟨by unfold zcG;rw[hg];exact⟨oj,t,ho,hj,.inl ⟨b,hv,hw.symm⟩⟩,rfl⟩⟩
theorem XK.gi {s:XS} {d j t:Nat} {b want:Bool} (h:OpG J o fr s.hp x) (hd:o.dst=some d) (hg:o.guard=some (j,want)) (ho:ops[j]?=some oj) (hj:oj.dst=some t) (hv:fr t = .val zo b) (ht:Nat.blt t J.nt=true) (hw:b=want) (hlt:Nat.blt d J.nt=true)
    (H:XK J ops k info rest (s::S) (fr.set d x) pd):XK J ops k (some 1::info) (o::rest) (s::S) fr pd :=
  XK.y (x:=x) yl (fun s' hs=>by
    have:s'=s:=by simpa using hs
    subst this;exact yield_gi h hd hg ho hj hv ht hw hlt) yaO
theorem XK.gn {s:XS} {m d j t:Nat} {b want:Bool} (hm:Nat.blt m 1000000=true) (hd:o.dst=some d) (hg:o.guard=some (j,want)) (ho:ops[j]?=some oj) (hj:oj.dst=some t) (hv:fr t = .val zo b) (ht:Nat.blt t J.nt=true) (hw:(b==want)=false) (hlt:Nat.blt d J.nt=true)
    (H:XK J ops k info rest (s::S) (fr.set d (.lit undef)) pd):XK J ops k (some m::info) (o::rest) (s::S) fr pd :=
  XK.y (x:=.lit undef) (by simpa using hm) (fun s' _=>yield_gn hd hg ho hj hv ht hw hlt) yaO
end
end Go.Ab
namespace Go.Ab
open Go.RowKit
def strV (l:List UInt8):Value:=.string ⟨l.toArray⟩
section
variable {J:Job} {fr:Fr} {hp:Hp} {o:Oper}
theorem g_cvs {s d e:TypeId} {x:Operand} {b:Bool} {l:List UInt8} (ho:o.op = .convert s d x) (hx:fr.ev x = .val (slT b u8T) l) (hs:J.P.underlying s=some (.slice e)) (he:J.P.underlying e=some (.int .u8)) (hd:J.P.underlying d=some .string):OpG J o fr hp (.lit (strV l)):=by
  refine .of_run (fun {_ ρ a w} sm hr _=>?_) (fun _ _=>trivial);have h:=hr x ym;rw[hx] at h;obtain⟨p,cap,hv,h1,h2,h3⟩:=zhM h;have hex:(convert s d (a.eval x)).run J.P w = .ok (strV l) w:=by
    rw[hv];by_cases hl:l=[]
    . subst hl
      cases p with
      | none=>exact Lib.run_convert_nil_bytes (P:=J.P) w s d e cap hs he hd
      | some p=>exact run_convert_bytes_back (P:=J.P) w s d e p cap [] hs he hd (fun j hj=>absurd hj (not_lt_zero _))
    obtain⟨ad,ds,rfl,_,hr,hc⟩:=h3 hl;have hds:ds=l.map fun b=>Value.int .u8 b.toNat:=znQ hr
    exact run_convert_bytes_back (P:=J.P) w s d e ad cap l hs he hd (fun j hj=>hc j _ (by rw[hds];simp[hj]))
  refine⟨strV l,?_,rfl⟩;unfold execOp;rw[ho];simp only[Sem.run_bind,hex];rfl
theorem beq_str (l m:List UInt8):((⟨l.toArray⟩:ByteArray).toList==(⟨m.toArray⟩:ByteArray).toList)=decide (l=m):=by
  rw[ByteArray.toList_eq,ByteArray.toList_eq];show(l==m)=_;by_cases h:l=m
  . subst h;simp
  simp[h]
theorem zqM {op:BinOp} (t:TypeId) (x y:Operand) (a b:ByteArray) (P:Program) (w:World):(eqGuard op t x y (.string a) (.string b)).run P w = .ok () w:=by
  unfold eqGuard;cases op<;>simp[Sem.run_pure]
theorem g_neqstr {t t':TypeId} {x y:Operand} {l m:List UInt8} (ho:o.op = .binOp .neq t x y t') (hx:fr.ev x = .lit (strV l)) (hy:fr.ev y = .lit (strV m)):OpG J o fr hp (.val zo (!decide (l=m))) :=
  zd2 ho hx hy (fun {ρ U N w u v} hu hv=>by
    have hu:u=strV l:=hu;have hv:v=strV m:=hv;subst hu;subst hv;refine⟨.bool (!decide (l=m)),?_,zqM ..,zbo.2 rfl⟩;show(Op.stringOp .neq ⟨l.toArray⟩ ⟨m.toArray⟩).run J.P w=_;simp only[Op.stringOp,beq_str];rfl) (fun _=>trivial)
end
end Go.Ab
namespace Go.Ab
open Go.RowKit
def PanPost (gr:Nat->Prop) (w0:World) (pv:Value):Ending->World->Prop
  | .panicked ch,w=>ch=[{ v:=pv,recovered:=false }]/\BelowX gr w0 w
  | _,_=>False
def Pans (P:Program) (f:FuncId) (args:List AV) (pv:Value):Prop :=
  ∀(ext:Nat->Prop) (w:World) (vs:List Value),(∀b,ext b->b<w.heap.size)->zbJ ext w args vs->Calls P f vs.toArray w (PanPost (fun _=>False) w pv)
def zoY (P:Program) (f:FuncId) (args:List AV) (c:Prop) (pv:Value) (res:AV):Prop:=(c->Tells P f args res)/\(¬c->Pans P f args pv)
def zo2 (ext gr:Nat->Prop) (w0:World) (c:Prop) (pv:Value) (res:AV):Ending->World->Prop
  | .returned v,w=>c/\BelowX gr w0 w/\res.rel ρ0 (fun b=>w0.heap.size<=b\/gr b) ext ext w v
  | .panicked ch,w=>¬c/\ch=[{ v:=pv,recovered:=false }]/\BelowX gr w0 w
  | .outgrown,_=>False
def Job.ofR (P:Program) (fn:Func) (R:Ending->World->Prop) (ext:Nat->Prop) (w:World) (h:∀b,ext b->b<w.heap.size):Job :=
  { P,fn,w0:=w,ext,gr:=fun _=>False,kg:=0,ρg:=ρ0,dj:=fun _ _ h=>h,nt:=fn.ntmps,R:=R,rd:=none,ds:=[],bg:=[],bn:=0,bgb:=fun p hp=>(nomatch hp),post:=bodyPostM Fence.wide 0 P fn R,nrm:=fun _ _ _ h=>h,fin:=fun _ _ _ _ h1 h2 _ h3=>zcA h1 h2 h3,mark:=fun _ _ _ _ _ h1 h2 h3=>zg8 h1 h2 h3,lt:=h }
abbrev Job.ofP (P:Program) (fn:Func) (c:Prop) (pv:Value) (res:AV) (ext:Nat->Prop) (w:World) (h:∀b,ext b->b<w.heap.size):Job:=Job.ofR P fn (zo2 ext (fun _=>False) w c pv res) ext w h
def Job.Pan (J:Job) (pv:Value):Prop:=∀a w,BelowX J.gr J.w0 w->a.defers=J.ds->J.post (.panic [{ v:=pv,recovered:=false }]) a w
theorem ztC {P:Program} {fn:Func} {R:Ending->World->Prop} {a:Act} {w:World} {ch:List PanicEntry} (h1:a.defers=[]) (h3:R (.panicked ch) w):bodyPostM Fence.wide 0 P fn R (.panic ch) a w:=by
  show LeavesInM Fence.wide 0 P fn a.tmps R a.defers (.panicking ch) w;rw[h1];exact h3
theorem pan_of {P:Program} {fn:Func} {c:Prop} {pv:Value} {res:AV} {ext:Nat->Prop} {w0:World} {h:∀b,ext b->b<w0.heap.size} (hc:¬c):(Job.ofP P fn c pv res ext w0 h).Pan pv :=
  fun _ _ hb hd=>ztC hd ⟨hc,rfl,hb⟩
theorem Kont.panic (J:Job):∀(k:List It) {ch:List PanicEntry} {a:Act} {w:World},J.post (.panic ch) a w->Kont J k (.panic ch) a w
  | [],_,_,_,h=>h
  | .code _::k,_,_,_,h=>Kont.panic J k h
  | .ops ..::k,_,_,_,h=>Kont.panic J k h
  | .inBlock _::k,_,_,_,h=>Kont.panic J k h
  | .again _::k,_,_,_,h=>Kont.panic J k h
  | .inScope ..::k,_,_,_,h=>Kont.panic J k h
section
variable {J:Job} {nx:Nat} {ρ:Nat->Value} {fr:Fr} {hp:Hp} {a:Act} {w w':World} {k:List It} {ops:Array Oper} {rest:List Oper} {o:Oper}
theorem zwX {A:AV} {c:Prop} {pv:Value} (hR:J.R=zo2 J.ext J.gr J.w0 c pv A) (hA:A = .lit (.tuple #[])) (hfn:J.fn.results = #[]) (hc:c) (hds:J.ds=[]/\J.rd=none:=by exact⟨rfl,rfl⟩):AR J nx fr hp:=by
  intro a w ⟨ρ,s⟩;refine J.fin hds.2 _ _ _ (s.defers.trans hds.1) (results_none hfn _ _ _) s.below ?_;rw[hR,hA];exact⟨hc,s.below,rfl⟩
theorem zrL {t:Tmp} {A:AV} {c:Prop} {pv:Value} (hR:J.R=zo2 J.ext J.gr J.w0 c pv A) (hfn:J.fn.results = #[.tmp t]) (hc:c) (h:zfC J hp (fr t) A) (hds:J.ds=[]/\J.rd=none:=by exact⟨rfl,rfl⟩):AW J nx fr hp (.code .ret::k):=zaA (by
  intro a w ⟨ρ,s⟩;refine xa ?_;rw[hR];exact⟨hc,s.below,h _ _ _ _ s.toSimH (s.frel t)⟩)
end
theorem zoM {P:Program} {f:FuncId} {fn:Func} {c:Code} {As:List AV} {R:Ending->World->Prop} (hf:P.funcs[f]?=some fn) (hb:fn.body=some c) (hn:Nat.ble As.length fn.ntmps=true) (hu:As.all AV.under0=true)
    {ext:Nat->Prop} {w:World} {vs:List Value} (hext:∀b,ext b->b<w.heap.size) (ha:zbJ ext w As vs)
    (H:AW (Job.ofR P fn R ext w hext) 0 (Fr.args 0 As Fr.none) Hp.none [.code c]):Calls P f vs.toArray w R:=by
  obtain⟨hl,hrel⟩:=ha.spec;have hn:As.length<=fn.ntmps:=ycc;have hu:∀A∈As,A.under 0:=fun A hA=>AV.under0_spec (List.all_eq_true.1 hu A hA)
  refine ze0 hf hb ?_;have hNN:∀b,Nn (fun _=>undef) Hp.none b->False:=fun b ⟨n,hl,_⟩=>hl
  have k:Keeps ext noN w (Uu (Job.ofR P fn R ext w hext) ρ0 Hp.none) (Nn ρ0 Hp.none) w:=⟨fun _ h=>h.elim,ug _,fun _ _ _=>rfl,fun b _ h=>h.elim id (fun h=>(hNN b h).elim),fun b _ h=>(hNN b h).elim⟩
  have hfr:=zeF (P:=fun _ A v=>A.rel ρ0 (Job.ofR P fn R ext w hext).B (Uu (Job.ofR P fn R ext w hext) ρ0 Hp.none) (Nn ρ0 Hp.none) w v/\A.under 0) (fun _ _=>⟨trivial,trivial⟩) (i:=0) (f:=Fr.none) (g:=fun _=>undef) hl
    (fun j A v h1 h2 _=>by
      have hu':=hu A (ud h1);exact⟨AV.rel_mono k hu' (AV.rel_B hu' (hrel j A v h1 h2)),hu'⟩) (fun t=>⟨trivial,trivial⟩) (fun _ _=>rfl)
  refine H _ w ⟨ρ0,{ kle:=ug _,ble:=uf _,brel:=fun q hq=>(nomatch hq),named:=fun _ _=>rfl,below:=BelowX.refl _ _,hrel:=fun _=>trivial,hun:=fun _=>trivial,hnx:=fun _ _=>rfl,new:=fun n b hl _=>hl.elim,inj:=fun n m b hl=>hl.elim,size:=?_,defers:=rfl,frel:=fun t=>?_,fnx:=fun t=>(hfr t).2 }⟩
  . show(vs.toArray++_).size=fn.ntmps
    simp;omega
  have e : (vs.toArray ++ Array.replicate (fn.ntmps - vs.toArray.size) undef).getD t undef = (vs[t]?).getD undef := by
    rw[getD_eq_getD_getElem?,Array.getElem?_append];by_cases c:t<vs.toArray.size
    . rw[ut c];simp
    rw[ur c];have hv:vs[t]?=none:=ybP;rw[hv,Array.getElem?_replicate]
    split<;>rfl
  rw[e];have h1:=(hfr t).1;rw[ur (not_lt_zero t),sub_zero] at h1;exact h1
theorem zis {P:Program} {f:FuncId} {fn:Func} {c:Code} {As:List AV} {res:AV} {cd:Prop} {pv:Value} (hf:P.funcs[f]?=some fn) (hb:fn.body=some c) (hn:Nat.ble As.length fn.ntmps=true) (hu:As.all AV.under0=true)
    (H:∀(ext:Nat->Prop) (w:World) (h:∀b,ext b->b<w.heap.size),AW (Job.ofP P fn cd pv res ext w h) 0 (Fr.args 0 As Fr.none) Hp.none [.code c]):zoY P f As cd pv res:=by
  constructor
  . intro hc ext w vs hext ha
    refine Calls.mono (zoM hf hb hn hu hext ha (H ext w hext)) fun e w' he=>?_
    cases e with
    | returned v=>exact za8.pure (e:=.returned v) he.2
    | panicked ch=>exact absurd hc he.1
    | outgrown=>exact he.elim
  intro hc ext w vs hext ha;refine Calls.mono (zoM hf hb hn hu hext ha (H ext w hext)) fun e w' he=>?_
  cases e with
  | returned v=>exact absurd he.1 hc
  | panicked ch=>exact he.2
  | outgrown=>exact he.elim
end Go.Ab
namespace Go.Ab
open Go.RowKit
def AP (J:Job) (nx:Nat) (fr:Fr) (hp:Hp) (pv:Value):Prop:=∀a w,Sim J nx fr hp a w->J.post (.panic [{ v:=pv,recovered:=false }]) a w
def dOf (f:FuncId) (b:Nat):Deferred:={ target:=.fn (.func f) #[.pointer (some ⟨b,0,none⟩)],args:=#[] }
structure Catches (P:Program) (f:FuncId) (bt:TypeId) (pv:Value):Prop where
  fn:fnB P f=true
  idle:∀(b:Nat) (w:World),CallsDIn Fence.wide 0 P f #[.pointer (some ⟨b,0,none⟩)] .returning w fun e u w'=>e = .returned (.tuple #[])/\u = .returning/\w'=w
  caught:∀(b:Nat) (w:World) (x:Bool),w.heap[b]?=some (.cells #[.bool x] bt (0,0))->CallsDIn Fence.wide 0 P f #[.pointer (some ⟨b,0,none⟩)] (.panicking [{ v:=pv,recovered:=false }]) w
    fun e u w'=>e = .returned (.tuple #[])/\u = .panicking [{ v:=pv,recovered:=true }]/\w'=w.putObj b (.cells #[.bool false] bt (0,0))
section
variable {J:Job} {nx:Nat} {ρ:Nat->Value} {fr:Fr} {hp:Hp} {a:Act} {w w':World} {k:List It} {ops:Array Oper} {rest:List Oper} {o:Oper} {pv:Value}
theorem aw_panic {x:Operand} {t:TypeId} {v:Value} (ho:o.op = .panic x) (hg:o.guard=none) (hx:fr.ev x = .lit (.iface t v)) (H:AP J nx fr hp (.iface t v)):AW J nx fr hp (.ops ops (o::rest)::k):=by
  intro a w ⟨ρ,s⟩;refine zU hg yq fun K hK=>?_
  have hv:=zak s x;rw[hx] at hv;have hv:a.eval x = .iface t v:=hv;have hex:(execOp a.eval o).run J.P w = .halt (.panic (.iface t v)) w:=by
    unfold execOp;rw[ho];have hp:∀w,(Instr.panic (.iface t v)).run J.P w = .halt (.panic (.iface t v)) w:=fun _=>rfl
    simp[hv,Sem.run_bind,hp]
  unfold Oper.wp;rw[hex,Oper.upon_panic];exact Kont.panic J k (H a w ⟨ρ,s⟩)
theorem ap_inl {C:CallC} {fni:Func} (H:AP C.J nx C.fr hp pv):AP (C.job fni) nx fr hp pv :=
  fun _ w ⟨ρ,s⟩=>ztC s.defers (Kont.panic C.J C.k (H C.a w ⟨ρ,zet s⟩))
theorem zoX {P:Program} {fn:Func} {c:Prop} {res:AV} {ext:Nat->Prop} {w0:World} {h:∀b,ext b->b<w0.heap.size} (hc:¬c):AP (Job.ofP P fn c pv res ext w0 h) nx fr hp pv :=
  fun a w ⟨_,s⟩=>pan_of hc a w s.below s.defers
theorem zbf {f : FuncId} {xs : Array Operand} {ts : Array TypeId} {As : List AV} {X : AV} {c : Prop} (hc : zoY J.P f As c pv X) (ho : o.op = .call { callee := .value (.func f), args := xs, argTypes := ts }) (hf : fnB J.P f = true) (hg : o.guard = none)
    (ha:zhY J fr hp xs.toList As) (hpan:¬c->AP J nx fr hp pv) (H:c->AW J nx fr hp (.ops ops (o::rest)::k)):AW J nx fr hp (.ops ops (o::rest)::k):=by
  by_cases h:c
  . exact H h
  intro a w ⟨ρ,s⟩;refine zU hg yq fun K hK=>?_
  obtain⟨fn,h1,h2,h3⟩:=zbG hf;unfold Oper.wp;rw[zfv ho h1 h2 h3,Oper.upon_enter];have hargs:=zgs (s:=s.toSimH) (a:=a) (fun y _=>zak s y) ha;have e:(xs.toList.map a.eval).toArray=xs.map a.eval:=yca
  have:=hc.2 h (Uu J ρ hp) w _ (fun b hb=>s.uu_lt hb) hargs
  rw[e] at this;refine Calls.mono this fun e w' he=>?_
  cases e with
  | returned v=>exact he.elim
  | panicked ch =>
    obtain⟨rfl,hb⟩:=he;exact Kont.panic J k (hpan h _ _ ⟨ρ,s.later (BelowX.none hb)⟩)
  | outgrown=>exact he.elim
theorem g_mkif {x:Operand} {t:TypeId} {v:Value} (ho:o.op = .makeInterface t x) (hx:fr.ev x = .lit v) (hu:(match J.P.underlying t with|some (.interface _)=>false|some _=>true|none=>false)=true):OpG J o fr hp (.lit (.iface t v)):=by
  refine .of_run (fun {_ _ _ w} s hr _=>?_) (fun _ _=>trivial);have h:=hr x ym;rw[hx] at h;have h:_=v:=h;refine⟨.iface t v,?_,rfl⟩;unfold execOp;rw[ho];cases hd:J.P.underlying t with
  | none=>simp[hd] at hu
  | some d=>cases d<;>first|(simp[hd] at hu;done)|simp[h,Instr.makeInterface,run_underlying hd,Sem.run_bind]
theorem aw_fall (h:AR J nx fr hp) (hrd:J.rd=none:=by exact rfl):AW J nx fr hp []:=fun a w s=>J.nrm hrd a w (h a w s)
theorem SimR.tobox (s:SimR J nx ρ fr hp a w) {n b bt:Nat} {x:Bool} (hn:hp n = .objAt b (.cells #[.bool x] bt (0,0))):SimR J nx ρ fr (hp.set n (.box bt zo x)) a w:=by
  have hh:=s.hrel n;rw[hn] at hh;obtain⟨e,hb⟩:=hh;exact s.modify hn trivial trivial rfl rfl rfl rfl (fun _ _=>rfl) fun _=>⟨b,[.bool x],e,hb,rfl,trivial⟩
theorem SimR.toobj (s:SimR J nx ρ fr hp a w) {n bt:Nat} {x:Bool} (hn:hp n = .box bt zo x):∃b,ρ n = .pointer (some ⟨b,0,none⟩)/\SimR J nx ρ fr (hp.set n (.objAt b (.cells #[.bool x] bt (0,0)))) a w:=by
  have hh:=s.hrel n;rw[hn] at hh;obtain⟨b,cs,e,hb,hr,_⟩:=hh;subst hr;exact⟨b,e,s.modify hn trivial trivial rfl rfl rfl rfl (fun _ _=>rfl) fun _=>⟨e,hb⟩⟩
theorem opInD {J:Job} {o:Oper} {a:Act} {w:World} {K:Act->World->Prop} {Q:Exit->Act->World->Prop} (hrd:J.rd=none) {d:Deferred} (hex:(execOp a.eval o).run J.P w = .ok (.defer d) w) (ha:o.about J.P w a.eval=none)
    (h:K ({ a with defers:=d::a.defers }.put o.dst undef) w):o.wpIn J.F 0 J.P a w K Q:=by
  refine⟨fun f hf=>(by rw[ha] at hf;cases hf),?_⟩;have e:J.F.round=none:=hrd;rw[e,Oper.semAt_none,hex];exact h
theorem zwT {y : Operand} {ts : Array TypeId} {f : FuncId} {n bt : Nat} {x : Bool} (ho : o.op = .defer { callee := .value y, args := #[], argTypes := ts }) (hd : o.dst = none) (hg : o.guard = none) (hy : fr.ev y = .clo f [n]) (hn : hp n = .box bt zo x) (hds : J.ds = []) (hrd : J.rd = none)
    (H:∀b,AW (J.withDs [dOf f b]) nx fr (hp.set n (.objAt b (.cells #[.bool x] bt (0,0)))) (.ops ops rest::k)):AW J nx fr hp (.ops ops (o::rest)::k):=by
  intro a w ⟨ρ,s⟩;have hv:=zak s y;rw[hy] at hv;obtain⟨b,e,s'⟩:=s.toobj hn;have hv:a.eval y = .func (.func f) #[] #[.pointer (some ⟨b,0,none⟩)]:=by
    have hv:a.eval y = .func (.func f) #[] ([n].map ρ).toArray:=hv;rw[hv,map_cons,map_nil,e]
  refine wpListIn_plain hg fun K hK=>?_;refine opInD hrd (d:=dOf f b) ?_ ?_ ?_
  . unfold execOp;rw[ho]
    simp[resolve,hv,Deferred.ofValue,Sem.run_bind,dOf]
  . unfold Oper.about;rw[ho]
  rw[hd];refine hK _ _ ?_;have h2:=H b { a with defers:=[dOf f b] } w ⟨ρ,SimR.job s'.toSimH yac s'.ble s'.size rfl s'.frel s'.fnx s'.brel⟩;rw[zin] at h2;have e2:({ a with defers:=dOf f b::a.defers }:Act) = { a with defers:=[dOf f b] }:=by rw[s.defers,hds]
  show Kont J (.ops ops rest::k) .normal ({ a with defers:=dOf f b::a.defers }:Act) w;rw[e2];exact h2
theorem zqo {t:TypeId} {x y:Operand} {n b bt:Nat} {v z:Bool} (ho:o.op = .store t x y) (hd:o.dst=none) (hg:o.guard=none) (hx:fr.ev x = .ptr n 0) (hn:hp n = .objAt b (.cells #[.bool v] bt (0,0)))
    (ht:tyB J.P t zo.size zo.agg=true) (hy:fr.ev y = .val zo z) (H:AW J nx fr (hp.set n (.objAt b (.cells #[.bool z] bt (0,0)))) (.ops ops rest::k)):AW J nx fr hp (.ops ops (o::rest)::k):=by
  intro a w ⟨ρ,s⟩;refine zU hg yq fun K hK=>?_
  have h:=zak s x;have h':=zak s y;rw[hx] at h;rw[hy] at h';obtain⟨g,e1,e2⟩:=h;have hh:=s.hrel n;rw[hn] at hh;obtain⟨e3,hgc⟩:=hh;obtain rfl:g=b:=yb8;have hz:a.eval y = .bool z:=zbo.1 h';have hrun:=zb5 (w:=w) (off:=0) (v:=a.eval y) ht (by rw[hz];rfl) (by rw[hz];intro u hu;simp[Value.cells] at hu;subst hu;rfl) hgc (by show 0+1<=1;omega);have hw:(w.setRow g ((#[Value.bool v]:Array Value).toList.take 0++(a.eval y).cells.toList++(#[Value.bool v]:Array Value).toList.drop (0+zo.size)).toArray)=w.setRow g #[.bool z]:=by rw[hz];rfl
  rw[hw] at hrun;have hex:(execOp a.eval o).run J.P w = .ok .skip (w.setRow g #[.bool z]):=by
    unfold execOp;rw[ho];simp only[e2,Instr.storeAt,Instr.sureAddr,Sem.run_bind,Sem.run_pure,Result.andThen_ok,hrun]
  unfold Oper.wp;rw[hex,Oper.upon_skip,hd];refine hK _ _ ?_;refine H _ _ ⟨ρ,s.modify hn trivial trivial yw rfl rfl rfl (fun b hb=>setRow_other w g b _ (fun e=>hb yaq)) fun kp=>⟨e1,setRow_heap w g _ _ bt (0,0) hgc⟩⟩
theorem zpz {P:Program} {f:FuncId} (hf:fnB P f=true) (vs:Array Value) (w:World):(invoke (.fn (.func f) vs) #[]).run P w = .ok (.enter f vs) w:=by
  obtain⟨fn,h1,h2,h3⟩:=zbG hf
  have hne : fn.name ≠ "runtime.NumGoroutine" := by simpa using h3
  have hbn:fn.body≠none:=yci;simp[invoke,callFunc,Sem.run_bind,h1,hne,hbn]
theorem znx {C:CallC} {fni:Func} {ds:List Deferred} (s:SimR ((C.job fni).withDs ds) nx ρ fr hp a w):SimR C.J nx ρ C.fr hp C.a w :=
  SimR.job s.toSimH yac (Nat.le_trans C.ok.hbn s.ble) C.ok.hsz C.ok.had (s.brel (C.fr,C.a) (mem_cons_self ..)) (fun t=>AV.under_mono s.ble (C.ok.hfr t)) fun p hp t=>s.brel p (mem_cons_of_mem _ hp) t
theorem zqq {C:CallC} {fni:Func} {f:FuncId} {t ty n b bt:Nat} {x:Bool} (hc:Catches C.J.P f bt pv) (hres:fni.results = #[.cell t ty]) (ht:fr t = .ptr n 0) (hn:hp n = .objAt b (.cells #[.bool x] bt (0,0))) (hty:tyB C.J.P ty zo.size zo.agg=true)
    (H:AW C.J nx (C.fr.set C.d (.val zo x)) (hp.set n (.box bt zo x)) C.k):AW ((C.job fni).withDs [dOf f b]) nx fr hp (.code .ret::k) :=
  zaA fun a w ⟨ρ,s⟩=>by
    show LeavesInM Fence.wide 0 C.J.P fni a.tmps C.R a.defers .returning w;rw[s.defers];refine⟨by simp,.inr ⟨fun h=>(by cases h),_,_,f,_,rfl,zpz hc.fn _ w,fun _ _=>trivial,?_⟩⟩;refine(hc.idle b w).mono fun e u w' ⟨h1,h2,h3⟩=>?_
    subst h1;subst h2;subst h3;have s':=s.tobox hn;obtain⟨v,h4,h5⟩:=zmO s' hres ht (by rw[zn,ut rfl]) hty;exact⟨v,h4,H _ _ ⟨ρ,(znx s').put C.ok.hlt h5 trivial⟩⟩
theorem ap_fine {C:CallC} {fni:Func} {f:FuncId} {t ty n b bt:Nat} {x:Bool} (hc:Catches C.J.P f bt pv) (hres:fni.results = #[.cell t ty]) (ht:fr t = .ptr n 0) (hn:hp n = .objAt b (.cells #[.bool x] bt (0,0))) (hty:tyB C.J.P ty zo.size zo.agg=true)
    (H:AW C.J nx (C.fr.set C.d (.val zo false)) (hp.set n (.box bt zo false)) C.k):AP ((C.job fni).withDs [dOf f b]) nx fr hp pv:=fun a w ⟨ρ,s⟩=>by
  show LeavesInM Fence.wide 0 C.J.P fni a.tmps C.R a.defers (.panicking [{ v:=pv,recovered:=false }]) w;rw[s.defers];refine⟨by simp,.inr ⟨fun h=>(by cases h),_,_,f,_,rfl,zpz hc.fn _ w,fun _ _=>trivial,?_⟩⟩;refine(hc.caught b w x (s.getObj hn)).mono fun e u w' ⟨h1,h2,h3⟩=>?_
  subst h1;subst h2;subst h3;have s1:=(s.putObj (o':=.cells #[.bool false] bt (0,0)) hn).2;have s':=s1.tobox (n:=n) (b:=b) (bt:=bt) (x:=false) (by rw[zn,ut rfl]);have e2:((hp.set n (.objAt b (.cells #[.bool false] bt (0,0)))).set n (.box bt zo false))=hp.set n (.box bt zo false):=by
    funext m
    rw[zn,zn,zn];by_cases c:m=n
    . rw[ut c,ut c]
    rw[ur c,ur c,ur c]
  rw[e2] at s';obtain⟨v,h4,h5⟩:=zmO s' hres ht (by rw[zn,ut rfl]) hty;exact⟨v,h4,H _ _ ⟨ρ,(znx s').put C.ok.hlt h5 trivial⟩⟩
end
end Go.Ab
namespace Go.Ab
open Go.RowKit
section
variable {J:Job} {nx:Nat} {ρ:Nat->Value} {fr:Fr} {hp:Hp} {a:Act} {w w':World} {k:List It} {ops:Array Oper} {rest:List Oper} {o:Oper}
variable {α:Type} {T:GoT α}
theorem g_s2a {arr n:Nat} (e:Nat) {b:Bool} {x:Operand} {l:List α} (hn:0<n) (ho:o.op = .sliceToArrayPointer arr x) (hx:fr.ev x = .val (slT b T) l) (hu:J.P.underlying arr=some (.array n e)) (hl:l.length=n):OpG J o fr hp (.rptr (arrT n hn T) l):=by
  refine .of_run (fun {_ _ _ w} s hr _=>?_) (fun _ _=>trivial);have h:=hr x ym;rw[hx] at h;obtain⟨ad,cap,hv,h1,h2,h3⟩:=zhM h;obtain⟨ad,ds,rfl,hU,hrel,hcell⟩:=h3 (by intro e;rw[e] at hl;simp at hl;omega);refine⟨.pointer (some ad),?_,ad,rfl,?_,?_⟩
  . unfold execOp;rw[ho]
    have:¬l.length<n:=ya
    simp[hv,Instr.arrayAt,Sem.run_bind,run_underlying hu,this]
  . cases b
    . exact fun hn=>hU (s.sub _ hn)
    exact hU
  exact⟨ds,⟨hl,hrel⟩,hcell⟩
end
end Go.Ab
namespace Go.Ab
open Go.RowKit
def catL:List AV->AV
  | []=>.idk
  | [x]=>x
  | x::y::r=>.cat x (catL (y::r))
def sumC (xs:List AV):Nat:=(xs.map AV.cells).sum
def AV.pcs:AV->List AV
  | .cat a b=>a::b.pcs
  | x=>[x]
theorem pcs_ne:∀x:AV,x.pcs≠[]
  | .cat ..=>by simp[AV.pcs]
  | .idk | .lit _ | .val .. | .ptr .. | .eptr .. | .rptr .. | .own _ | .fresh .. | .clo .. | .bnd .. | .vw .. | .osub .. | .fn1 .. | .fn2 .. | .tup2 .. | .tup3 .. | .ifc ..=>by simp[AV.pcs]
theorem zi5:∀x:AV,catL x.pcs=x
  | .cat a b=>by
    have ih:=zi5 b;show catL (a::b.pcs)=_;cases h:b.pcs with
    | nil=>exact absurd h (pcs_ne b)
    | cons y r=>rw[h] at ih;show AV.cat a (catL (y::r))=_;rw[ih]
  | .idk | .lit _ | .val .. | .ptr .. | .eptr .. | .rptr .. | .own _ | .fresh .. | .clo .. | .bnd .. | .vw .. | .osub .. | .fn1 .. | .fn2 .. | .tup2 .. | .tup3 .. | .ifc ..=>rfl
theorem zg7:∀{xs:List AV},xs≠[]->(catL xs).cells=sumC xs
  | [],h=>absurd rfl h
  | [x],_=>by simp[catL,sumC]
  | x::y::r,_=>by
    show x.cells+(catL (y::r)).cells=_;rw[zg7 (xs:=y::r) yw];simp[sumC]
theorem zi4 {nx:Nat}:∀{xs:List AV},(∀x∈xs,x.under nx)->(catL xs).under nx
  | [],_=>trivial
  | [x],h=>h x yw
  | x::y::r,h=>⟨h x yw,zi4 (xs:=y::r) fun z hz=>h z (mem_cons_of_mem _ hz)⟩
theorem ziM {nx:Nat}:∀{xs:List AV},(catL xs).under nx->∀x∈xs,x.under nx
  | [],_,x,hx=>by cases hx
  | [y],h,x,hx=>by rw[mem_singleton.1 hx];exact h
  | y::z::r,h,x,hx=>by
    rcases mem_cons.1 hx with e|hx
    . rw[e];exact h.1
    exact ziM (xs:=z::r) h.2 x hx
section
variable {ρ:Nat->Value} {B U N:Nat->Prop} {w:World}
theorem ziI (cs:List Value):(Value.agg cs.toArray).cells=cs.toArray:=rfl
theorem zwL:∀{xs:List AV} {vs:List Value},xs≠[]->AV.relL ρ B U N w xs vs->∃v,(catL xs).rel ρ B U N w v/\v.cells=(flatV vs).toArray/\(2<=xs.length->v = .agg (flatV vs).toArray)/\v.cells.size=sumC xs/\∀u∈v.cells.toList,u.oneCell'=true
  | [],_,h,_=>absurd rfl h
  | [x],_,_,⟨v,us,e,h1,h2,h3,h4⟩=>by
    have h4:us=[]:=h4;subst h4;subst e;exact⟨v,h1,by simp[flatV],fun h=>by simp at h,by simpa [sumC] using h2,h3⟩
  | x::y::r,_,_,⟨v,us,e,h1,h2,h3,h4⟩=>by
    obtain⟨u,g1,g2,_,g4,g5⟩:=zwL (xs:=y::r) yw h4;subst e;have hc:(flatV (v::us)).toArray=v.cells++u.cells:=by
      rw[g2];apply Array.ext';simp[flatV]
    refine⟨.agg (flatV (v::us)).toArray,⟨v,u,by rw[hc],h1,g1,⟨h2,by rw[g4,zg7 yw]⟩,h3,g5⟩,rfl,fun _=>rfl,?_,fun z hz=>?_⟩
    . rw[ziI,hc,Array.size_append,h2,g4];simp[sumC]
    rw[ziI,hc,toList_append] at hz;rcases mem_append.1 hz with hz|hz
    . exact h3 z hz
    exact g5 z hz
theorem zty:∀{xs:List AV} {v:Value},xs≠[]->(catL xs).rel ρ B U N w v->v.cells.size=sumC xs->(∀u∈v.cells.toList,u.oneCell'=true)->∃vs,v.cells.toList=flatV vs/\AV.relL ρ B U N w xs vs
  | [],_,h,_,_,_=>absurd rfl h
  | [x],v,_,h,hs,h1=>⟨[v],by simp[flatV],v,[],rfl,h,by simpa [sumC] using hs,h1,rfl⟩
  | x::y::r,v,_,⟨a,b,e,h1,h2,⟨h3,h4⟩,h5,h6⟩,_,_=>by
    obtain⟨vs,g1,g2⟩:=zty (xs:=y::r) yw h2 (by rw[h4,zg7 yw]) h6;refine⟨a::vs,?_,a,vs,rfl,h1,h3,h5,g2⟩;rw[e];show(a.cells++b.cells).toList=_;rw[toList_append,g1];simp[flatV]
theorem zuT {xs:List AV} {v:Value} (h2:Nat.ble 2 xs.length=true) (h:(catL xs).rel ρ B U N w v):v.cells.size=sumC xs/\(∀u∈v.cells.toList,u.oneCell'=true)/\∃vs,v.cells.toList=flatV vs/\AV.relL ρ B U N w xs vs:=by
  match xs,h2,h with
  | x::y::r,_,h =>
    have h':=h;obtain⟨a,b,e,h1,h2,⟨h3,h4⟩,h5,h6⟩:=h';have hs:v.cells.size=sumC (x::y::r):=by
      rw[e];show(a.cells++b.cells).size=_;rw[Array.size_append,h3,h4,zg7 yw];simp[sumC]
    have ho:∀u∈v.cells.toList,u.oneCell'=true:=fun u hu=>by
      rw[e] at hu;have hu:u∈(a.cells++b.cells).toList:=hu;rw[toList_append] at hu;rcases mem_append.1 hu with hu|hu
      . exact h5 u hu
      exact h6 u hu
    exact⟨hs,ho,zty yw h hs ho⟩
end
section
variable {J:Job} {nx:Nat} {ρ:Nat->Value} {fr:Fr} {hp:Hp} {a:Act} {w:World} {k:List It} {ops:Array Oper} {rest:List Oper} {o:Oper} {α Z γ:Type} {A:GoT α} {T:GoT Z} {R:GoT γ}
theorem zvM (s:SimH J nx ρ hp w) {n ty:Nat} {xs:List AV} {v:Value} (hn:hp n = .parts ty xs) (hv:(AV.ptr n 0).rel ρ J.B (Uu J ρ hp) (Nn ρ hp) w v) :
    ∃g vs,ρ n = .pointer (some ⟨g,0,none⟩)/\v = .pointer (some ⟨g,0,none⟩)/\w.heap[g]?=some (.cells (flatV vs).toArray ty (0,0))/\AV.relL ρ J.B (Uu J ρ hp) (Nn ρ hp) w xs vs/\∀(j:Nat) z,(flatV vs)[j]?=some z->w.cell? ((⟨g,0,none⟩:Addr).add j)=some z:=by
  obtain⟨g,e1,e2⟩:=hv;have hh:=s.hrel n;rw[hn] at hh;obtain⟨g',vs,e3,hg,hr⟩:=hh;obtain rfl:g=g':=yb8;refine⟨g,vs,e1,by rw[e2,add_zero],hg,hr,fun j z hz=>?_⟩;rw[zgz,cell_of_row w g _ _ ty (0,0) hg];simpa using hz
theorem zjo {P:Program} {t:TypeId} {ad:Addr} {cs:List Value} (ht:tyB P t cs.length true=true) (h:∀j z,cs[j]?=some z->w.cell? (ad.add j)=some z):(loadVar t ad).run P w = .ok (.agg cs.toArray) w:=by
  obtain⟨_,h1,h2⟩:=zfs ht w;have hl:=run_loadCells_list (P:=P) w ad cs h;simp[loadVar,Sem.run_bind,h1,h2,hl]
theorem zht {ρ:Nat->Value} {B U N:Nat->Prop}:∀{xs:List AV} {vs:List Value},AV.relL ρ B U N w xs vs->(flatV vs).length=sumC xs
  | [],_,h=>by
    have h:_=[]:=h;subst h;rfl
  | x::xs,_,⟨v,us,e,h1,h2,h3,h4⟩=>by
    subst e
    have:=zht h4
    simp only[flatV,flatMap_cons,ue,length_toList,sumC,map_cons,List.sum_cons] at this ⊢;omega
theorem g_loadcat {t n ty:Nat} {x:Operand} {xs:List AV} (ho:o.op = .load t x) (hx:fr.ev x = .ptr n 0) (hn:hp n = .parts ty xs) (h2:Nat.ble 2 xs.length=true) (ht:tyB J.P t (sumC xs) true=true):OpG J o fr hp (catL xs):=by
  refine .of_run (fun {_ ρ a w} s hr _=>?_) (fun {nx} hb _=>?_)
  . have h:=hr x ym
    rw[hx] at h;obtain⟨g,vs,e1,e2,hg,hrel,hc⟩:=zvM s hn h;have hne:xs≠[]:=fun e=>by rw[e] at h2;cases h2
    obtain⟨v,g1,g2,g3,g4,g5⟩:=zwL hne hrel;have g3:=g3 (Nat.le_of_ble_eq_true h2);refine⟨v,?_,g1⟩;rw[g3];unfold execOp;rw[ho];simp[Instr.loadAt,Instr.sureAddr,Sem.run_bind,e2,zjo (P:=J.P) (by rw[zht hrel];exact ht) hc]
  have:=(hb n).2
  rw[hn] at this;exact zi4 this
theorem aw_backcat {C:CallC} {fni:Func} {t ty n tb:Nat} {xs:List AV} (hres:fni.results = #[.cell t ty]) (ht:fr t = .ptr n 0) (hn:hp n = .parts tb xs) (h2:Nat.ble 2 xs.length=true) (hty:tyB C.J.P ty (sumC xs) true=true)
    (H:AW C.J nx (C.fr.set C.d (catL xs)) hp C.k):AW (C.job fni) nx fr hp (.code .ret::k) :=
  zaA fun a w ⟨ρ,s⟩=>by
    have h1:=s.frel t;rw[ht] at h1;obtain⟨g,vs,e1,e2,hg,hrel,hc⟩:=zvM s.toSimH hn h1;have hne:xs≠[]:=fun e=>by rw[e] at h2;cases h2
    obtain⟨v,g1,g2,g3,g4,g5⟩:=zwL hne hrel;have g3:=g3 (Nat.le_of_ble_eq_true h2);have hl:=zjo (P:=C.J.P) (t:=ty) (by rw[zht hrel];exact hty) hc;have hrun:(results fni a.tmps).run C.J.P w = .ok v w:=by
      rw[results,hres];have hv':a.tmps[t]?.getD undef=_:=(getD_eq_getD_getElem? ..).symm.trans e2;simp[hv',asAddr,Sem.run_bind,hl,g3]
    have hu:(catL xs).under nx:=zi4 ybA;exact zcA s.defers hrun (H _ _ ⟨ρ,(zet s).put C.ok.hlt g1 hu⟩)
theorem zuY {t ty n:Nat} {x y:Operand} {X:AV} {c:α} (ho:o.op = .store t x y) (hd:o.dst=none) (hg:o.guard=none) (hx:fr.ev x = .ptr n 0) (hn:hp n = .box ty A c) (hy:fr.ev y=X)
    (h2:Nat.ble 2 X.pcs.length=true) (hs:Nat.beq A.size (sumC X.pcs)=true) (ht:tyB J.P t (sumC X.pcs) true=true) (H:AW J nx fr (hp.set n (.parts ty X.pcs)) (.ops ops rest::k)):AW J nx fr hp (.ops ops (o::rest)::k):=by
  generalize hxs:X.pcs=xs at *;have hy:fr.ev y=catL xs:=by rw[hy,<-hxs,zi5]
  intro a w ⟨ρ,s⟩;refine zU hg yq fun K hK=>?_
  have h:=zak s x;have h':=zak s y;have hu:=zbH s.fnx y;rw[hx] at h;rw[hy] at h' hu;have hux:=ziM hu;obtain⟨g1,g2,vs,g3,g4⟩:=zuT h2 h';obtain⟨g,e1,e2⟩:=h;have hh:=s.hrel n;rw[hn] at hh;obtain⟨g',cs,e3,hgc,hrel⟩:=hh;obtain rfl:g=g':=yb8;have hcl:cs.length=sumC xs:=(A.len hrel).trans (Nat.eq_of_beq_eq_true hs);have hrun:=zb5 (w:=w) (P:=J.P) (off:=0) (v:=a.eval y) ht g1 g2 hgc (by rw[size_toArray,hcl];omega);have hnew:cs.toArray.toList.take 0++(a.eval y).cells.toList++cs.toArray.toList.drop (0+sumC xs)=flatV vs:=by
    rw[toList_toArray,List.take_zero,List.nil_append,List.drop_of_length_le ya,append_nil,g3]
  rw[hnew] at hrun;have hex:(execOp a.eval o).run J.P w = .ok .skip (w.setRow g (flatV vs).toArray):=by
    unfold execOp;rw[ho];simp only[e2,Instr.storeAt,Instr.sureAddr,Sem.run_bind,Sem.run_pure,Result.andThen_ok,hrun]
  unfold Oper.wp;rw[hex,Oper.upon_skip,hd];refine hK _ _ ?_
  exact H _ _ ⟨ρ,s.modify (x:=.parts ty xs) hn trivial trivial yw rfl rfl rfl (fun b hb=>setRow_other w g b _ (fun e=>hb yaq))
    (fun kp=>⟨g,vs,e1,setRow_heap w g _ _ ty (0,0) hgc,AV.relL_mono kp hux g4⟩) (ug _) hux⟩
def AV.pieceB:AV->Bool
  | .val .. | .cat ..=>true
  | _=>false
theorem piece_of {ρ:Nat->Value} {B U N:Nat->Prop}:∀{X:AV} {v:Value},X.pieceB=true->X.rel ρ B U N w v->v.cells.size=X.cells/\(∀u∈v.cells.toList,u.oneCell'=true)/\∃vs,v.cells.toList=flatV vs/\AV.relL ρ B U N w X.pcs vs
  | .val T x,v,_,h=>by
    have hr:=GoT.val_cells h;have hs:v.cells.size=T.size:=by rw[<-length_toList];exact T.len hr
    exact⟨hs,T.one hr,[v],by simp[flatV],v,[],rfl,h,hs,T.one hr,rfl⟩
  | .cat a b,v,_,h=>by
    have h0:=h;rw[<-zi5 (.cat a b)] at h0;have hne:=pcs_ne b;obtain⟨h1,h2,h3⟩:=zuT (xs:=(AV.cat a b).pcs) (by
      show Nat.ble 2 (a::b.pcs).length=true;cases hb:b.pcs with
      | nil=>exact absurd hb hne
      | cons y r=>rw[List.length_cons,List.length_cons];exact Nat.ble_eq_true_of_le ya) h0
    exact⟨by rw[h1,<-zg7 (pcs_ne _),zi5],h2,h3⟩
theorem zsF {ρ:Nat->Value} {e:Operand->Value} {B U N:Nat->Prop}:∀{ys:List Operand},(∀y∈ys,(fr.ev y).rel ρ B U N w (e y))->((ys.map fr.ev).all AV.pieceB)=true->
    (ys.map fun y=>(e y).cells.size)=(ys.map fr.ev).map AV.cells/\(∀y∈ys,∀u∈(e y).cells.toList,u.oneCell'=true)/\∃vs,(ys.flatMap fun y=>(e y).cells.toList)=flatV vs/\AV.relL ρ B U N w ((ys.map fr.ev).flatMap AV.pcs) vs
  | [],_,_=>⟨rfl,fun y hy=>(by cases hy),[],rfl,rfl⟩
  | y::ys,h,hb=>by
    simp only[map_cons,all_cons,uk] at hb;obtain⟨a1,a2,v1,a3,a4⟩:=piece_of hb.1 (h y (mem_cons_self ..));obtain⟨b1,b2,v2,b3,b4⟩:=zsF (ys:=ys) (fun z hz=>h z (mem_cons_of_mem _ hz)) hb.2;refine⟨by simp only[map_cons,a1,b1],fun z hz=>?_,v1++v2,?_,?_⟩
    . rcases mem_cons.1 hz with e|hz
      . rw[e];exact a2
      exact b2 z hz
    . rw[flatMap_cons,a3,b3];simp[flatV]
    rw[map_cons,flatMap_cons];exact zcR a4 b4
theorem pcs_under {nx:Nat}:∀{X:AV},X.under nx->∀x∈X.pcs,x.under nx:=fun {X} h=>ziM (by rw[zi5];exact h)
theorem fill_two {a b:Value} {z:Array Value} {n0 n1:Nat} (hz:z.size=n0+n1) (ha:a.cells.size=n0) (hb:b.cells.size=n1):Instr.fill ((#[(0,n0),(n0,n1)]:Array (Nat×Nat))[·]?) z [(0,a),(1,b)]=some (a.cells++b.cells):=by
  have e:∀(v:Value) (off:Nat) (cells:Array Value),v.cells.zipIdx.foldl (fun cs (x:Value×Nat)=>cs.setIfInBounds (off+x.2) x.1) cells=(v.cells.toList.zipIdx 0).foldl (fun cs (x:Value×Nat)=>cs.setIfInBounds (off+x.2) x.1) cells:=fun v off cells=>by
    rw[<-Array.foldl_toList];simp
  obtain⟨f1,f2⟩:=zkW a.cells.toList 0 0 z;have f2:=f2 (by simp[ha];omega);generalize hy:(a.cells.toList.zipIdx 0).foldl (fun cs (x:Value×Nat)=>cs.setIfInBounds (0+x.2) x.1) z=y at f1 f2;obtain⟨g1,g2⟩:=zkW b.cells.toList n0 0 y;have g2:=g2 (by simp[hb];omega);have h1:(decide (a.cells.size≠n0)||decide (0+a.cells.size>z.size))=false:=by rw[Bool.or_eq_false_iff];constructor<;>simp<;>omega
  have h2:(decide (b.cells.size≠n1)||decide (n0+b.cells.size>y.size))=false:=by rw[Bool.or_eq_false_iff];constructor<;>simp<;>omega
  have p0:(#[(0,n0),(n0,n1)]:Array (Nat×Nat))[0]?=some (0,n0):=rfl;have p1:(#[(0,n0),(n0,n1)]:Array (Nat×Nat))[1]?=some (n0,n1):=rfl;simp only[Instr.fill,p0,h1,Bool.false_eq_true,if_false,e,hy,p1,h2];congr 1;apply Array.ext';rw[g2,f2];simp only[zero_add,Nat.add_zero,List.take_zero,List.nil_append,length_toList,ha,hb,toList_append];rw[take_left' (by simpa using ha),List.drop_of_length_le (by simp[ha];omega),append_nil]
theorem run_build2 {P:Program} {t n0 n1:Nat} {y0 y1:Operand} {z:Array Value} (hz:∀w:World,(zeroValue t).run P w = .ok (.agg z) w) (hzs:z.size=n0+n1) (hall:(match P.underlying t with|some (.struct fs)=>fs.all fun f=>(P.info? f.type).isSome|_=>false)=true)
    (hpl:(match P.underlying t with|some (.struct fs)=>fs.map fun f=>(f.offset,P.cellsOf f.type)|_=>#[]) = #[(0,n0),(n0,n1)]) (ho:o.op = .build t #[(0,y0),(1,y1)])
    (e:Operand->Value) (w:World) (h:([y0,y1].map fun y=>(e y).cells.size)=[n0,n1]):(execOp e o).run P w = .ok (.value (.agg ([y0,y1].flatMap fun y=>(e y).cells.toList).toArray)) w:=by
  have h0:(e y0).cells.size=n0:=by simp at h;exact h.1
  have h1:(e y1).cells.size=n1:=by simp at h;exact h.2
  cases hu:P.underlying t with
  | none=>simp[hu] at hall
  | some d =>
    cases d<;>simp[hu] at hall;rename_i fs;rw[hu] at hpl;have hpl:fs.map (fun f=>(f.offset,P.cellsOf f.type)) = #[(0,n0),(n0,n1)]:=hpl;have hpl2:=zlw (P:=P) (w:=w) fs.toList (fun f hf=>by
      obtain⟨i,hi,rfl⟩:=List.getElem_of_mem hf
      have:=hall i ybs
      simp only[Array.getElem_toList];exact Option.isSome_iff_exists.1 this)
    have hpl':(fs.mapM (m:=Sem) fun f=>do pure (f.offset,<-sizeOf f.type)).run P w = .ok #[(0,n0),(n0,n1)] w:=by
      rw[Array.mapM_eq_mapM_toList,Sem.run_map,hpl2]
      have:(fs.toList.map fun f=>(f.offset,P.cellsOf f.type)).toArray=fs.map fun f=>(f.offset,P.cellsOf f.type):=yca
      simp only[Result.andThen_ok,this,hpl]
    have key:(Instr.build t #[(0,e y0),(1,e y1)]).run P w = .ok (.agg ((e y0).cells++(e y1).cells)) w:=by
      simp only[Instr.build,Sem.run_bind,hz,Result.andThen_ok,run_underlying hu,hpl',Value.cells,fill_two hzs h0 h1,Sem.run_pure]
    unfold execOp;rw[ho]
    have:([y0,y1].flatMap fun y=>(e y).cells.toList).toArray=(e y0).cells++(e y1).cells:=yca
    rw[this];simp[key,Sem.run_bind]
theorem zoR {t ty:TypeId} {x y:Operand} {n off:Nat} {xs:List AV} {c z:Z} (ho:o.op = .store t x y) (hd:o.dst=none) (hg:o.guard=none) (hx:fr.ev x = .ptr n off) (hn:hp n = .parts ty xs) (hX:zii off xs=some (.val T c))
    (hy:fr.ev y = .val T z) (ht:tyB J.P t T.size T.agg=true) (H:AW J nx fr (hp.set n (.parts ty (ze9 off (.val T z) xs))) (.ops ops rest::k)):AW J nx fr hp (.ops ops (o::rest)::k):=by
  intro a w ⟨ρ,s⟩;refine zU hg yq fun K hK=>?_
  have h:=zak s x;have h':=zak s y;have hu:=zbH s.fnx y;rw[hx] at h;rw[hy] at h' hu;have hcr:=GoT.val_cells h';have hlen:(a.eval y).cells.size=T.size:=by rw[<-length_toList];exact T.len hcr
  have hone:=T.one hcr;obtain⟨g,pre,u,post,e1,e2,hgc,h2,h3,h4,h5,h6,_⟩:=znW s.toSimH hn hX h;have hu1:u.cells.size=T.size:=h4;have hrun:=zb5 (w:=w) (P:=J.P) (off:=off) (v:=a.eval y) ht hlen hone hgc (by
    have:(flatV (pre++u::post)).length=(flatV pre).length+(u.cells.size+(flatV post).length):=yck
    rw[size_toArray,this,h2,hu1];omega)
  have hnew:(flatV (pre++u::post)).toArray.toList.take off++(a.eval y).cells.toList++(flatV (pre++u::post)).toArray.toList.drop (off+T.size)=flatV (pre++a.eval y::post):=by
    have e3:flatV (pre++u::post)=flatV pre++(u.cells.toList++flatV post):=ycl;have e4:flatV (pre++a.eval y::post)=flatV pre++((a.eval y).cells.toList++flatV post):=ycl;rw[toList_toArray,e3,e4,<-h2,take_left' rfl,<-drop_drop,drop_left' rfl,drop_left' (by simpa using hu1),List.append_assoc]
  rw[hnew] at hrun;have hex:(execOp a.eval o).run J.P w = .ok .skip (w.setRow g (flatV (pre++a.eval y::post)).toArray):=by
    unfold execOp;rw[ho];simp only[e2,Instr.storeAt,Instr.sureAddr,Sem.run_bind,Sem.run_pure,Result.andThen_ok,hrun]
  unfold Oper.wp;rw[hex,Oper.upon_skip,hd];refine hK _ _ ?_;have hux:∀x∈ze9 off (.val T z) xs,x.under nx:=zhl ybA hu
  exact H _ _ ⟨ρ,s.modify (x:=.parts ty (ze9 off (.val T z) xs)) hn trivial trivial yw rfl rfl rfl (fun b hb=>setRow_other w g b _ (fun e=>hb yaq))
    (fun kp=>⟨g,pre++a.eval y::post,e1,setRow_heap w g _ _ ty (0,0) hgc,AV.relL_mono kp hux (h6 (.val T z) _ h' hlen hone)⟩) (ug _) hux⟩
theorem ztH (n:Nat) {ty:Nat} {x:α} {pre post xs:List AV} (hs:zdQ A x xs) (hn:hp n = .parts ty (pre ++ .val A x::post)) (H:AW J nx fr (hp.set n (.parts ty (pre++(xs++post)))) k):AW J nx fr hp k:=fun a w ⟨ρ,s⟩=>by
  have h0:=s.hrel n;have hun:=s.hun n;rw[hn] at h0 hun;obtain⟨g,vs,e1,e2,e3⟩:=h0;obtain⟨v1,v2,rfl,r1,v,us,rfl,hv,hc,hone,r2⟩:=zdT e3;have hux:∀y∈pre++(xs++post),y.under nx:=fun y hy=>by
    rcases mem_append.1 hy with hy|hy
    . exact hun y (mem_append_left _ hy)
    rcases mem_append.1 hy with hy|hy
    . exact AV.under_mono (uf _) (hs.1 y hy)
    exact hun y (mem_append_right _ (mem_cons_of_mem _ hy))
  obtain⟨ws,e4,r3⟩:=hs.2 (ρ:=ρ) (B:=J.B) (GoT.val_cells hv);refine H a w ⟨ρ,s.modify hn trivial trivial rfl rfl rfl rfl (fun _ _=>rfl) (fun kp=>?_) (ug _) hux⟩;refine⟨g,v1++(ws++us),e1,?_,AV.relL_mono kp hux (zcR r1 (zcR r3 r2))⟩
  have:flatV (v1++v::us)=flatV (v1++(ws++us)):=by
    simp only[flatV,List.flatMap_append,flatMap_cons];rw[e4]
  show w.heap[g]?=some (.cells (flatV (v1++(ws++us))).toArray ty (0,0));rw[<-this];exact e2
theorem zeC (n m:Nat) {ty e:Nat} {pre post:List AV} {l:List Z} (hn:hp n = .parts ty (pre ++ .own m::post)) (hm:hp m = .row e T l) (hne:Nat.beq n m=false)
    (H:AW J nx fr ((hp.set m .none_).set n (.parts ty (pre ++ .val (sl T) l::post))) k):AW J nx fr hp k:=fun a w ⟨ρ,s⟩=>by
  have hne':n≠m:=fun e=>by subst e;simp at hne
  have hrow:=s.hrel m;rw[hm] at hrow;obtain⟨xs',hown,hall⟩:=hrow;have s':=s.drop m;have hlive:(hp m).live:=by rw[hm];trivial
  have hN:∀b,Nn ρ (hp.set m .none_) b->Nn ρ hp b/\zaH (ρ m)≠some b:=fun b ⟨i,hl,e⟩=>by
    rw[zn] at hl;by_cases c:i=m
    . rw[ut c] at hl;exact hl.elim
    rw[ur c] at hl;exact⟨⟨i,hl,e⟩,fun e'=>c (s.inj i m b hl hlive e e')⟩
  have kp:Keeps (Uu J ρ hp) (Nn ρ hp) w (Uu J ρ (hp.set m .none_)) (Nn ρ (hp.set m .none_)) w:=⟨s.sub,ug _,fun _ _ _=>rfl,fun b _ hu=>hu.imp id (fun h=>(hN b h).1),fun b _ h=>(hN b h).1⟩
  have hval:(sl T).val (Uu J ρ (hp.set m .none_)) (Nn ρ (hp.set m .none_)) w l (ρ m) :=
    zfL (b:=false) hown rfl (hall.mono kp) (fun g hg hu=>by
      rcases hu with hu|hu
      . rcases (s.new m g hlive hg).1 with h1|h1
        . have:=J.lt g hu;omega
        exact J.dj g hu h1
      exact(hN g hu).2 hg)
  have hn2:(hp.set m .none_) n = .parts ty (pre ++ .own m::post):=by rw[zn,ur hne'];exact hn
  have h0:=s'.hrel n;have hun:=s'.hun n;rw[hn2] at h0 hun;obtain⟨g,vs,e1,e2,e3⟩:=h0;obtain⟨v1,v2,rfl,r1,v,us,rfl,hv,hc,hone,r2⟩:=zdT e3;have hv:v=ρ m:=hv;subst hv;have hux:∀y∈pre ++ .val (sl T) l::post,y.under nx:=fun y hy=>by
    rcases mem_append.1 hy with hy|hy
    . exact hun y (mem_append_left _ hy)
    rcases mem_cons.1 hy with e|hy
    . rw[e];trivial
    exact hun y (mem_append_right _ (mem_cons_of_mem _ hy))
  refine H a w ⟨ρ,s'.modify hn2 trivial trivial rfl rfl rfl rfl (fun _ _=>rfl) (fun kp2=>?_) (ug _) hux⟩;refine⟨g,v1++ρ m::us,e1,e2,AV.relL_mono kp2 hux (zcR r1 ⟨ρ m,us,rfl,hval,?_,hone,r2⟩)⟩;rw[hc];rfl
def zo0 (R:GoT γ) (z:γ) (xs:List AV):Prop:=∀{ρ:Nat->Value} {B U N:Nat->Prop} {w:World} {vs:List Value},AV.relL ρ B U N w xs vs->R.rel U N w z (flatV vs)
theorem zbR {x:α}:zo0 A x [.val A x]:=fun h=>by
  obtain⟨v,us,rfl,h1,h2,h3,h4⟩:=h;have h4:us=[]:=h4;subst h4;simpa [flatV] using GoT.val_cells h1
theorem zb6 {x:α} {y:Z} {xs ys:List AV} (h1:zo0 A x xs) (h2:zo0 T y ys):zo0 (zbF A T) (x,y) (xs++ys):=fun h=>by
  obtain⟨v1,v2,rfl,r1,r2⟩:=zdT h;exact⟨flatV v1,flatV v2,by simp[flatV],h1 r1,h2 r2⟩
theorem zkM {g:γ->α} {z:γ} {xs:List AV} (h:zo0 A (g z) xs):zo0 (viaT A g) z xs:=fun k=>h k
theorem aw_joina (n:Nat) {ty:Nat} {xs:List AV} {z:γ} (hR:zo0 R z xs) (hn:hp n = .parts ty xs) (H:AW J nx fr (hp.set n (.box ty R z)) k):AW J nx fr hp k:=fun a w ⟨ρ,s⟩=>by
  have h0:=s.hrel n;rw[hn] at h0;obtain⟨g,vs,e1,e2,e3⟩:=h0;refine H a w ⟨ρ,s.modify hn trivial trivial rfl rfl rfl rfl (fun _ _=>rfl) (fun kp=>?_)⟩;exact⟨g,flatV vs,e1,e2,R.mono kp (hR e3)⟩
end
end Go.Ab
namespace Go.Ab
open Go.RowKit
section
variable {J:Job} {nx:Nat} {ρ:Nat->Value} {fr:Fr} {hp:Hp} {a:Act} {w:World} {k:List It} {ops:Array Oper} {rest:List Oper} {o:Oper}
theorem zqp (As : List AV) {f : FuncId} {fni : Func} {c : Code} {xs : Array Operand} {ts : Array TypeId} {d : Nat} (ho : o.op = .call { callee := .value (.func f), args := xs, argTypes := ts }) (hd : o.dst = some d) (hg : o.guard = none) (hlt : Nat.blt d J.nt = true) (hAs : xs.toList.map fr.ev = As)
    (hf:J.P.funcs[f]?=some fni) (hfb:fnB J.P f=true) (hb:fni.body=some c) (hn:Nat.ble xs.size fni.ntmps=true)
    (H:∀(a:Act) (ok:CallOk J nx fr a d),AW (CallC.job ⟨J,nx,fr,a,d,.ops ops rest::k,ok⟩ fni) nx (Fr.args 0 As Fr.none) hp [.code c]) :
    AW J nx fr hp (.ops ops (o::rest)::k):=by
  subst hAs;exact z6 ho hd hg hlt hf hfb hb hn H
theorem zuy {ty:Nat} {y0 y1:Operand} (ho:o.op = .build ty #[(0,y0),(1,y1)]) (hrun:∀(e:Operand->Value) (w:World),([y0,y1].map fun y=>(e y).cells.size)=([y0,y1].map fr.ev).map AV.cells->(execOp e o).run J.P w = .ok (.value (.agg ([y0,y1].flatMap fun y=>(e y).cells.toList).toArray)) w)
    (hone:([y0,y1].map fr.ev).all AV.pieceB=true) (h2:Nat.ble 2 (([y0,y1].map fr.ev).flatMap AV.pcs).length=true):OpG J o fr hp (catL (([y0,y1].map fr.ev).flatMap AV.pcs)):=by
  have hm:∀y∈[y0,y1],y∈o.op.operands:=fun y hy=>by
    rw[ho];simp only[mem_cons,List.not_mem_nil,or_false] at hy;rcases hy with rfl|rfl<;>simp[Op.operands]
  refine .of_run (fun {_ ρ a w} s hr _=>?_) (fun {nx} _ hf=>?_)
  . obtain⟨h0,_,vs,h3,h4⟩:=zsF (e:=a.eval) (fun y hy=>hr y (hm y hy)) hone
    have hne:([y0,y1].map fr.ev).flatMap AV.pcs≠[]:=fun e=>by rw[e] at h2;cases h2
    obtain⟨v,g1,_,g3,_⟩:=zwL hne h4;refine⟨v,?_,g1⟩;rw[g3 (Nat.le_of_ble_eq_true h2),hrun a.eval w h0,h3]
  refine zi4 fun x hx=>?_
  obtain⟨X,hX,hx⟩:=List.mem_flatMap.1 hx;obtain⟨y,hy,rfl⟩:=mem_map.1 hX;exact pcs_under (hf y (hm y hy)) x hx
theorem aw_boxcat {ty d:Nat} {y:Operand} {X:AV} (ho:o.op = .box ty y) (hd:o.dst=some d) (hg:o.guard=none) (hlt:Nat.blt d J.nt=true) (hy:fr.ev y=X) (h2:Nat.ble 2 X.pcs.length=true)
    (H:AW J (nx+1) (fr.set d (.ptr nx 0)) (hp.set nx (.parts ty X.pcs)) (.ops ops rest::k)):AW J nx fr hp (.ops ops (o::rest)::k):=by
  have hy':fr.ev y=catL X.pcs:=by rw[hy,zi5]
  generalize X.pcs=xs at *;intro a w ⟨ρ,s⟩;refine zU hg yq fun K hK=>?_
  have h':=zak s y;have hu:=zbH s.fnx y;rw[hy'] at h' hu;have hux:=ziM hu;obtain⟨_,_,vs,g3,g4⟩:=zuT h2 h';have hcells:(a.eval y).cells=(flatV vs).toArray:=by apply Array.ext';simpa using g3
  have hrun:(execOp a.eval o).run J.P w = .ok (.value (.pointer (some ⟨w.heap.size,0,none⟩))) (w.alloc (.cells (flatV vs).toArray ty)):=by
    unfold execOp;rw[ho];simp[Instr.box,Sem.run_bind,newVar,newRow,newObj,Sem.run,hcells]
  unfold Oper.wp;rw[hrun,Oper.upon_value,hd]
  refine hK _ _ (H _ _ ⟨_,(s.bind (p:=.pointer (some ⟨w.heap.size,0,none⟩)) (x:=.parts ty xs) (zbl _ _) (fun b e=>by simp only[zaH,Option.some.injEq] at e;subst e;exact⟨ug _,by simp⟩)
    (fun kp=>⟨w.heap.size,vs,rfl,heap_alloc_new w _,AV.relL_ren (nx:=nx) (fun n hn=>by unfold ren;rw[ur ya]) hux (AV.relL_mono kp hux g4)⟩)
    (fun x hx=>AV.under_mono (le_succ nx) (hux x hx))).put yK ⟨w.heap.size,by unfold ren;simp,rfl⟩ (lt_succ_self nx)⟩)
theorem zoS {γ:Type} {R:GoT γ} (n:Nat) {ty:Nat} {pre xs post:List AV} {z:γ} (hR:zo0 R z xs) (hagg:R.agg=true) (hn:hp n = .parts ty (pre++(xs++post))) (H:AW J nx fr (hp.set n (.parts ty (pre ++ .val R z::post))) k):AW J nx fr hp k:=fun a w ⟨ρ,s⟩=>by
  have h0:=s.hrel n;have hun:=s.hun n;rw[hn] at h0 hun;obtain⟨g,vs,e1,e2,e3⟩:=h0;obtain⟨v1,v2,rfl,r1,r2⟩:=zdT e3;obtain⟨v3,v4,rfl,r3,r4⟩:=zdT r2;have hr:=hR r3;have hux:∀y∈pre ++ .val R z::post,y.under nx:=fun y hy=>by
    rcases mem_append.1 hy with hy|hy
    . exact hun y (mem_append_left _ hy)
    rcases mem_cons.1 hy with e|hy
    . rw[e];trivial
    exact hun y (mem_append_right _ (mem_append_right _ hy))
  refine H a w ⟨ρ,s.modify hn trivial trivial rfl rfl rfl rfl (fun _ _=>rfl) (fun kp=>?_) (ug _) hux⟩;refine⟨g,v1 ++ .agg (flatV v3).toArray::v4,e1,?_,AV.relL_mono kp hux (zcR r1 ⟨.agg (flatV v3).toArray,v4,rfl,⟨flatV v3,hr,.inl ⟨hagg,rfl⟩⟩,?_,fun u hu=>R.one hr u (by simpa [ziI] using hu),r4⟩)⟩
  . have : flatV (v1 ++ (v3 ++ v4)) = flatV (v1 ++ .agg (flatV v3).toArray :: v4) := by
      simp[flatV,ziI]
    show w.heap[g]?=some (.cells (flatV (v1 ++ .agg (flatV v3).toArray::v4)).toArray ty (0,0));rw[<-this];exact e2
  rw[ziI,size_toArray];exact R.len hr
end
theorem consEq {α:Type 1} {a b:α} {l m:List α} (h:a=b) (h2:l=m):a::l=b::m:=by rw[h,h2]
theorem hpP {x y:HE} {ty:TypeId} {xs:List AV} (h1:x = .parts ty xs) (h2:y = .parts ty xs):x=y:=h1.trans h2.symm
end Go.Ab
