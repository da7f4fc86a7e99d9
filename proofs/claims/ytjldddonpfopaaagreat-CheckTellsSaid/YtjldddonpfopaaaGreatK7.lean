/- Parts of the proof: the layer that reads Go values as data, and what the functions of the program tell. -/
import Derived.Test.YtjldddonpfopaaaGreatK6
set_option linter.unusedVariables false
set_option linter.unusedSimpArgs false
set_option maxRecDepth 20000
namespace Go.Proofs.YtjldddonpfopaaaGreat
open Go.Ab Go.RowKit
def checkFrom:Tip→List Block→Tip×Int
  | t,[]=>(t,0)
  | t,b::l=>if pushE t b=0 then checkFrom (pushT t b) l else (zTip,pushE t b)
def checkOf (l:List Block):Tip×Int :=
  match l with
  | []=>(zTip,9)
  | g::r=>if tgtOk g.h.bits=true∧(firstTip g.h.bits).b=g then checkFrom (firstTip g.h.bits) r else (zTip,12)
def growE (l:List Block) (t:List Tx) (nonce:UInt64):Int:=if (checkOf l).2=0 then mineBE (checkOf l).1 t nonce 200 else (checkOf l).2
def growOf (l:List Block) (t:List Tx) (nonce:UInt64):List Block:=if growE l t nonce=0 then l++[mineB (checkOf l).1 t nonce 200] else l
def findOf (l:List Block) (id:Ab.Id):Int:=idx (fun b=>decide (headId b.h=id)) l
def levelsOf (l:List Block):List Int:=l.map fun b=>headLevel b.h
def leavesOf (l:List Block):List Total:=l.map fun b=>leafH b.h
def smallC (l:List Block):Prop:=l.length*232≤140737488351232∧∀b∈l,smallB b
def Chain (l:List Block) (t:Tip):Prop:=checkOf l=(t,0)
theorem checkFrom_app:∀{l m:List Block} {t:Tip},checkFrom t (l++m)=if (checkFrom t l).2=0 then checkFrom (checkFrom t l).1 m else checkFrom t l
  | [],m,t=>by simp [checkFrom]
  | b::l,m,t=>by
    rw [List.cons_append,checkFrom,checkFrom]
    by_cases h:pushE t b=0
    · rw [if_pos h,if_pos h];exact checkFrom_app
    · rw [if_neg h,if_neg h,if_neg h]
theorem checkOf_app {l m:List Block} (h:¬l=[]):checkOf (l++m)=if (checkOf l).2=0 then checkFrom (checkOf l).1 m else checkOf l:=by
  cases l with
  | nil=>exact absurd rfl h
  | cons g r =>
    rw [List.cons_append]
    unfold checkOf
    simp only []
    by_cases h:tgtOk g.h.bits=true∧(firstTip g.h.bits).b=g
    · rw [if_pos h,if_pos h];exact checkFrom_app
    · rw [if_neg h,if_neg h];rfl
theorem chain_ne {l:List Block} (h:(checkOf l).2=0):¬l=[]:=fun e=>by rw [e] at h;exact absurd h (by decide)
theorem checkOf_snoc {l:List Block} {b:Block} (h:(checkOf l).2=0):checkOf (l++[b])=if pushE (checkOf l).1 b=0 then (pushT (checkOf l).1 b,0) else (zTip,pushE (checkOf l).1 b):=by
  rw [checkOf_app (chain_ne h),if_pos h];rfl
theorem chain_of {l:List Block} (h:(checkOf l).2=0):Chain l (checkOf l).1:=by unfold Chain;rw [←h]
theorem chain_one {b:Block} {t:Tip} (h:Chain [b] t):tgtOk b.h.bits=true∧b=⟨firstH b.h.bits,[],[]⟩∧t=firstTip b.h.bits:=by
  unfold Chain checkOf at h
  simp only [] at h
  by_cases c:tgtOk b.h.bits=true∧(firstTip b.h.bits).b=b
  · rw [if_pos c] at h
    refine ⟨c.1,?_,(congrArg (·.1) h).symm⟩
    have:=c.2
    rw [zfi c.1] at this
    exact this.symm
  · rw [if_neg c] at h;exact absurd (congrArg (·.2) h) (by show ¬(12:Int)=0;decide)
theorem chain_snoc {l:List Block} {b:Block} {t:Tip} (hl:¬l=[]) (h:Chain (l++[b]) t):∃t',Chain l t'∧pushE t' b=0∧t=pushT t' b:=by
  unfold Chain at h
  rw [checkOf_app hl] at h
  by_cases c:(checkOf l).2=0
  · rw [if_pos c] at h
    rw [checkFrom] at h
    by_cases d:pushE (checkOf l).1 b=0
    · rw [if_pos d,checkFrom] at h
      exact ⟨_,chain_of c,d,(congrArg (·.1) h).symm⟩
    · rw [if_neg d] at h;exact absurd (congrArg (·.2) h) d
  · rw [if_neg c] at h;exact absurd (congrArg (·.2) h) c
theorem chain_ind {P:List Block→Tip→Prop} (h1:∀bits,tgtOk bits=true→P [⟨firstH bits,[],[]⟩] (firstTip bits)) (h2:∀l t b,Chain l t→P l t→pushE t b=0→P (l++[b]) (pushT t b)):∀(n:Nat) (l:List Block) (t:Tip),l.length=n→Chain l t→P l t
  | 0,l,t,hn,h=>absurd (List.eq_nil_of_length_eq_zero hn) (chain_ne (congrArg (·.2) h))
  | n+1,l,t,hn,h=>by
    have hl:¬l=[]:=fun e=>by rw [e] at hn;cases hn
    obtain ⟨r,b,rfl⟩:∃r b,l=r++[b]:=⟨l.dropLast,l.getLast hl,(List.dropLast_concat_getLast hl).symm⟩
    by_cases hr:r=[]
    · subst hr
      obtain ⟨e1,e2,e3⟩:=chain_one h
      rw [e3,List.nil_append]
      have:=h1 b.h.bits e1
      rw [←e2] at this;exact this
    · obtain ⟨t',e1,e2,e3⟩:=chain_snoc hr h
      rw [e3]
      exact h2 _ _ _ e1 (chain_ind h1 h2 n r t' (by simp at hn;omega) e1) e2
theorem chain_tip {l:List Block} {t:Tip} (h:Chain l t):l.getLast?=some t.b∧t.b.h.height=(l.length:Int)-1∧l.length≤48∧t.p=(leavesOf l).foldl mmrAppend []∧(∃g,l[0]?=some g∧t.b.h.bits=g.h.bits):=by
  refine chain_ind (P:=fun l t=>l.getLast?=some t.b∧t.b.h.height=(l.length:Int)-1∧l.length≤48∧t.p=(leavesOf l).foldl mmrAppend []∧(∃g,l[0]?=some g∧t.b.h.bits=g.h.bits)) (fun bits hb=>?_) (fun l t b hc hi hp=>?_) l.length l t rfl h
  · rw [zfi hb]
    exact ⟨rfl,rfl,Nat.le_of_ble_eq_true rfl,rfl,_,rfl,rfl⟩
  · obtain ⟨i1,i2,i3,i4,g,i5,i6⟩:=hi
    obtain ⟨p1,p2,_⟩:=push_iff.1 hp
    have hne:0<l.length:=List.length_pos_iff.2 (chain_ne (congrArg (·.2) hc))
    have e:b.h.height=IntKind.i64.wrap (t.b.h.height+1):=congrArg (·.height) p2
    rw [i2,zai (by omega)] at e
    rw [pushT_eq hp]
    refine ⟨by simp,?_,?_,?_,g,?_,?_⟩
    · show b.h.height=_
      rw [e,List.length_append,List.length_singleton];omega
    · rw [List.length_append,List.length_singleton];omega
    · show mmrAppend t.p (leafH b.h)=_
      rw [i4];unfold leavesOf;rw [List.map_append,List.foldl_append];rfl
    · rw [List.getElem?_append_left hne];exact i5
    · show b.h.bits=_
      rw [show b.h.bits=t.b.h.bits from congrArg (·.bits) p2,i6]
theorem chain_take {l:List Block} {t:Tip} {i:Nat} (h:Chain l t) (hi:1≤i) (hl:i≤l.length):∃t',Chain (l.take i) t'∧checkFrom t' (l.drop i)=(t,0):=by
  have hne:¬l.take i=[]:=fun e=>by have:=congrArg List.length e;rw [List.length_take] at this;change min i l.length=0 at this;omega
  have h0:checkOf (l.take i++l.drop i)=(t,0):=by rw [List.take_append_drop];exact h
  rw [checkOf_app hne] at h0
  by_cases c:(checkOf (l.take i)).2=0
  · rw [if_pos c] at h0;exact ⟨_,chain_of c,h0⟩
  · rw [if_neg c] at h0;exact absurd (congrArg (·.2) h0) c
theorem chain_at {l:List Block} {t:Tip} {i:Nat} {b:Block} (h:Chain l t) (hi:1≤i) (hb:l[i]?=some b):∃t',Chain (l.take i) t'∧pushE t' b=0∧l[i-1]?=some t'.b:=by
  obtain ⟨hl,e⟩:=List.getElem?_eq_some_iff.1 hb
  obtain ⟨t',h1,h2⟩:=chain_take h hi (Nat.le_of_lt hl)
  rw [List.drop_eq_getElem_cons hl,e,checkFrom] at h2
  refine ⟨t',h1,?_,?_⟩
  · by_cases c:pushE t' b=0
    · exact c
    · rw [if_neg c] at h2;exact absurd (congrArg (·.2) h2) c
  · have:=(chain_tip h1).1
    have h5:(l.take i)[i-1]?=l[i-1]?:=by rw [List.getElem?_take];split<;>first|rfl|omega
    rw [List.getLast?_eq_getElem?,List.length_take,Nat.min_eq_left (Nat.le_of_lt hl),h5] at this
    exact this
theorem small_nil {t:Tip} (h1:t.b.l=[]) (h2:t.b.t=[]) (h3:Nat.ble t.p.length 1=true) (h4:t.c=[]):smallTip t:=by
  have:=Nat.le_of_ble_eq_true h3
  refine ⟨⟨by rw [h1];decide,by rw [h2];decide,fun x hx=>by rw [h2] at hx;cases hx⟩,by omega,by rw [h4];decide⟩
def smallN (t:Tip) (n:Nat):Prop:=smallTip t∧t.p.length≤n+1∧t.b.h.height=n
theorem push_smallN {t:Tip} {b:Block} {n:Nat} (ht:smallN t n) (hn:n≤1000000000000) (hb:smallB b) (h:pushE t b=0):smallN (pushT t b) (n+1):=by
  obtain ⟨h6,h7,_,_,h5⟩:=push_iff.1 h
  rw [pushT_eq h]
  have h1:=mmrAppend_len (p:=t.p) (x:=leafH b.h)
  have h2:=zbV (applyOf_tot (l:=b.t) (apply_may h5)).1
  obtain ⟨_,h3,h4⟩:=ht
  have e:b.h.height=IntKind.i64.wrap (t.b.h.height+1):=congrArg (·.height) h7
  rw [h4,zai (by omega)] at e
  refine ⟨⟨hb,?_,?_⟩,?_,?_⟩
  · show (mmrAppend t.p (leafH b.h)).length≤1000
    omega
  · show (applyOf t.c b.t).1.length≤1000
    omega
  · show (mmrAppend t.p (leafH b.h)).length≤n+1+1
    omega
  · show b.h.height=_
    rw [e];omega
theorem first_small {bits:UInt32}:smallN (firstTip bits) 0:=by
  by_cases h:tgtOk bits=true
  · rw [zfi h];exact ⟨small_nil rfl rfl rfl rfl,Nat.le_of_ble_eq_true rfl,rfl⟩
  · have:firstTip bits=zTip:=by unfold firstTip;rw [if_neg h]
    rw [this];exact ⟨small_nil rfl rfl rfl rfl,Nat.le_of_ble_eq_true rfl,rfl⟩
theorem checkFrom_small:∀{l:List Block} {t:Tip} {n:Nat},smallN t n→n+l.length≤1000000000000→(∀b∈l,smallB b)→smallTip (checkFrom t l).1
  | [],t,n,ht,_,_=>ht.1
  | b::l,t,n,ht,hn,hl=>by
    rw [checkFrom]
    rw [List.length_cons] at hn
    split
    · rename_i h
      exact checkFrom_small (push_smallN ht (by omega) (hl b (by simp)) h) (by omega) fun x hx=>hl x (by simp [hx])
    · exact small_nil rfl rfl rfl rfl
theorem check_small {l:List Block} (h:smallC l):smallTip (checkOf l).1:=by
  cases l with
  | nil=>exact small_nil rfl rfl rfl rfl
  | cons g r =>
    unfold checkOf
    simp only []
    split
    · refine checkFrom_small first_small ?_ fun x hx=>h.2 x (by simp [hx])
      have:=h.1
      rw [List.length_cons] at this
      omega
    · exact small_nil rfl rfl rfl rfl
set_option maxRecDepth 20000
def lastAt (v:Nat→Int) (n:Int):Nat→Nat
  | 0=>0
  | i+1=>if 1≤i∧n≤v i∧0<n then i else lastAt v n i
theorem lastAt_congr {v u:Nat→Int} {n:Int}:∀{i:Nat},(∀k,k<i→v k=u k)→lastAt v n i=lastAt u n i
  | 0,_=>rfl
  | i+1,h=>by
    rw [lastAt,lastAt,h i (by omega),lastAt_congr (i:=i) fun k hk=>h k (by omega)]
theorem lastAt_lt {v:Nat→Int} {n:Int}:∀{i:Nat},lastAt v n i<i∨lastAt v n i=0
  | 0=>.inr rfl
  | i+1=>by
    rw [lastAt]
    split
    · left;omega
    · have:=lastAt_lt (v:=v) (n:=n) (i:=i);omega
def levelAt (l:List Block) (k:Nat):Int:=(l[k]?.map fun b=>headLevel b.h).getD 0
def idAt (l:List Block) (k:Nat):Ab.Id:=(l[k]?.map fun b=>headId b.h).getD []
def Linked (l:List Block) (L:List Ab.Id):Prop:=1≤L.length∧L.length≤32∧L[0]?=some (idAt l 0)∧∀n:Nat,1≤n→n≤31→(n<L.length→0<lastAt (levelAt l) n l.length∧L[n]?=some (idAt l (lastAt (levelAt l) n l.length)))∧(L.length≤n→lastAt (levelAt l) n l.length=0)
theorem at_snoc {l:List Block} {b:Block} {k:Nat} (h:k<l.length):levelAt (l++[b]) k=levelAt l k∧idAt (l++[b]) k=idAt l k:=by
  unfold levelAt idAt;rw [List.getElem?_append_left h];exact ⟨rfl,rfl⟩
theorem at_last {l:List Block} {b:Block}:levelAt (l++[b]) l.length=headLevel b.h∧idAt (l++[b]) l.length=headId b.h:=by
  unfold levelAt idAt;rw [List.getElem?_append_right (Nat.le_refl _),Nat.sub_self];exact ⟨rfl,rfl⟩
theorem linked_step {l:List Block} {L:List Ab.Id} {b:Block} (hl:1≤l.length) (h:Linked l L):Linked (l++[b]) (linkNext L (headId b.h) (headLevel b.h)):=by
  obtain ⟨h1,h2,h3,h4⟩:=h
  have e0:idAt (l++[b]) 0=idAt l 0:=(at_snoc (by omega)).2
  have la:∀n:Nat,lastAt (levelAt (l++[b])) n (l++[b]).length=if n≤headLevel b.h∧(0:Int)<n then l.length else lastAt (levelAt l) n l.length:=fun n=>by
    rw [List.length_append,List.length_singleton,lastAt,(at_last (l:=l) (b:=b)).1,lastAt_congr fun k hk=>(at_snoc hk).1]
    by_cases c:(n:Int)≤headLevel b.h∧(0:Int)<n
    · rw [if_pos c,if_pos ⟨hl,c.1,c.2⟩]
    · rw [if_neg c,if_neg fun x=>c ⟨x.2.1,x.2.2⟩]
  have ll:∀n:Nat,lastAt (levelAt l) n l.length<l.length:=fun n=>by
    have:=lastAt_lt (v:=levelAt l) (n:=n) (i:=l.length);omega
  unfold linkNext
  rw [if_neg (by omega),if_neg (by omega)]
  by_cases c:headLevel b.h<1
  · rw [if_pos c]
    refine ⟨h1,h2,by rw [e0];exact h3,fun n hn hn'=>?_⟩
    rw [la n,if_neg (by omega)]
    rw [(at_snoc (ll n)).2]
    exact h4 n hn hn'
  · rw [if_neg c]
    obtain ⟨m,hm⟩:∃m,m=(min (headLevel b.h) 31).toNat:=⟨_,rfl⟩
    rw [←hm]
    have hm1:1≤m∧m≤31:=by omega
    have hlen:(L.take 1++List.replicate m (headId b.h)++L.drop (m+1)).length=max (m+1) L.length:=by
      simp only [List.length_append,List.length_take,List.length_replicate,List.length_drop];omega
    have ht1:(L.take 1).length=1:=by rw [List.length_take];omega
    have get_lo:∀n:Nat,1≤n→n≤m→(L.take 1++List.replicate m (headId b.h)++L.drop (m+1))[n]?=some (headId b.h):=fun n hn hn'=>by
      rw [List.append_assoc,List.getElem?_append_right (by omega),List.getElem?_append_left (by rw [List.length_replicate];omega),List.getElem?_replicate,if_pos (by omega)]
    have get_hi:∀n:Nat,m<n→(L.take 1++List.replicate m (headId b.h)++L.drop (m+1))[n]?=L[n]?:=fun n hn=>by
      rw [List.getElem?_append_right (by simp only [List.length_append,ht1,List.length_replicate];omega),List.getElem?_drop]
      congr 1;simp only [List.length_append,ht1,List.length_replicate];omega
    refine ⟨by rw [hlen];omega,by rw [hlen];omega,?_,fun n hn hn'=>?_⟩
    · rw [List.append_assoc,List.getElem?_append_left (by omega),List.getElem?_take,e0];simpa using h3
    · rw [hlen,la n]
      by_cases d:n≤m
      · rw [if_pos (by omega),get_lo n hn d,(at_last (l:=l) (b:=b)).2]
        exact ⟨fun _=>⟨by omega,rfl⟩,fun h=>by omega⟩
      · rw [if_neg (by omega),get_hi n (by omega),(at_snoc (ll n)).2]
        obtain ⟨a1,a2⟩:=h4 n hn hn'
        exact ⟨fun h=>a1 (by omega),fun h=>a2 (by omega)⟩
theorem chain_links {l:List Block} {t:Tip} (h:Chain l t):Linked l (linksT t):=by
  refine chain_ind (P:=fun l t=>Linked l (linksT t)) (fun bits hb=>?_) (fun l t b hc hi hp=>?_) l.length l t rfl h
  · rw [zfi hb]
    show Linked _ (linkNext [] (headId (firstH bits)) _)
    unfold linkNext
    rw [if_neg (by decide),if_pos (show ([]:List Ab.Id).length=0 from rfl)]
    refine ⟨Nat.le_of_ble_eq_true rfl,Nat.le_of_ble_eq_true rfl,rfl,fun n hn hn'=>⟨fun h=>?_,fun _=>rfl⟩⟩
    rw [List.length_singleton] at h;omega
  · have e : linksT (pushT t b) = linkNext (linksT t) (headId b.h) (headLevel b.h) := by
      rw [pushT_eq hp]
      show linkNext b.l _ _=_
      rw [(push_iff.1 hp).2.2.1]
    rw [e]
    exact linked_step (List.length_pos_iff.2 (chain_ne (congrArg (·.2) hc))) hi
theorem find_range {l:List Block} {id:Ab.Id}:-1≤findOf l id∧findOf l id<l.length∧(0≤findOf l id→∃b,l[(findOf l id).toNat]?=some b∧headId b.h=id):=by
  unfold findOf
  have h1:=idx_ge (fun b:Block=>decide (headId b.h=id)) l
  refine ⟨h1,?_,fun h=>?_⟩
  · rcases idx_lt (p:=fun b:Block=>decide (headId b.h=id)) (l:=l) with h|h
    · exact h
    · subst h;show (-1:Int)<0;decide
  · obtain ⟨x,h2,h3,_⟩:=idx_some h
    exact ⟨x,h2,of_decide_eq_true h3⟩
set_option maxRecDepth 20000
def easyB0:Block:=⟨easyH,[],[]⟩
theorem zfm:checkOf [easyB0]=(easyTip,0):=by
  unfold checkOf
  simp only []
  have e:firstTip easyB0.h.bits=easyTip:=easy_tip
  rw [e,if_pos ⟨easy_ok,rfl⟩];rfl
theorem easy_growE:growE [easyB0] [] 0=0:=by
  unfold growE;rw [zfm,if_pos rfl];exact easy_mineE
theorem easy_grown:growOf [easyB0] [] 0=[easyB0,easyB]:=by
  unfold growOf;rw [easy_growE,if_pos rfl,zfm,easy_mineB];rfl
theorem easy_chain1:checkOf [easyB0,easyB]=(easyTip2,0):=by
  rw [show [easyB0,easyB]=[easyB0]++[easyB] from rfl,checkOf_snoc (by rw [zfm]),zfm,easy_pushE,if_pos rfl,easy_pushT]
theorem easy_level1:decide (0≤headLevel easyB.h)=true:=by kernel_rfl
theorem easy_nz:decide (headId easyB.h=zId)=false:=by kernel_rfl
theorem small_easyB0:smallB easyB0:=by refine ⟨by decide,by decide,fun t ht=>by cases ht⟩
theorem small_easyC0:smallC [easyB0]:=⟨by decide,fun b hb=>by rw [List.mem_singleton.1 hb];exact small_easyB0⟩
theorem small_easyC:smallC [easyB0,easyB]:=⟨by decide,fun b hb=>by
  rcases List.mem_cons.1 hb with h|h
  · rw [h];exact small_easyB0
  · rw [List.mem_singleton.1 h];exact small_easyB⟩
def fewC (l:List Block):Bool:=l.all fewB&&decide ((l.length:Int)≤50)
theorem fewC_small {l:List Block} (h:fewC l=true):smallC l:=by
  unfold fewC at h
  rw [Bool.and_eq_true,decide_eq_true_eq] at h
  exact ⟨by omega,fun b hb=>fewB_small (List.all_eq_true.1 h.1 b hb)⟩
set_option maxRecDepth 20000
theorem indexFuncBlock (l:List Block) (p:Block→Bool):Tells P 99 [.val (bsl blockT) l,.fn1 P blockT boolT p] (.val i64T (idx p l)):=by
 refine zc Tryz.func99 rfl rfl rfl (fun ext w hext=>?_)
 refine ze (d:=0) rfl zi (fun hsl0=>?_)
 refine CQR ?_;refine qah ?_;refine qcj ?_;refine qaI ?_;refine Lp (ι:=Nat) 0 (fun (k:Nat)=>(((((Fr.none).set 0 (.val (bsl blockT) l)).set 1 (.fn1 P blockT boolT p)).set 6 (.val (bsl blockT) l)).set 7 (.val i64T (l.length:Int))).set 8 (.val i64T (k:Int))) (fun (k:Nat)=>Hp.none) (fun (k:Nat)=>k≤l.length∧idx p l=shift k (idx p (l.drop k))) (fun (k:Nat)=>l.length-k) (0) (⟨Nat.zero_le _,zdd p l⟩) ?_
 intro k hinv
 refine qao ?_;refine Cf (p:=k<l.length) (fun ht9=>?_) (fun ht9=>?_)
 ·
  obtain ⟨x,hx⟩:∃x,l[k]?=some x:=⟨_,List.getElem?_eq_getElem ht9⟩
  refine qaL ?_;refine qai ?_;refine A0 mF ?_;refine qag ?_;refine A0 (zaQ rfl rfl rfl zcR (by assumption)) ?_;refine A0 (zf rfl rfl zb8) ?_;refine A0 (zeo rfl rfl (by first|exact zq rfl|exact zC rfl|exact zy rfl rfl|exact zA rfl|exact zr rfl|exact zL rfl rfl|exact zB rfl)) ?_;refine CN ?_;refine zj (p:=p x=true) rfl (by simp) (fun ht16=>?_) (fun ht16=>?_)
  ·
   refine qb8 ?_
   exact zb rfl rfl (za rfl (hinv.2.trans (idx_yes hx ht16)).symm)
  ·
   refine qbn ?_
   exact Nx (k+1) (⟨by omega,hinv.2.trans (idx_no hx ht16)⟩) (by omega)
 ·
  refine qbE ?_
  exact zb rfl rfl (za rfl (hinv.2.trans (idx_end (by omega))).symm)
theorem checkOf_start {l:List Block} {g:Block} (h:l[0]?=some g) (h1:tgtOk g.h.bits=true) (h2:(firstTip g.h.bits).b=g):checkOf l=checkFrom (firstTip g.h.bits) (l.drop 1):=by
  cases l with
  | nil=>cases h
  | cons x r =>
    injection h with h;subst h
    unfold checkOf;simp only [];rw [if_pos ⟨h1,h2⟩];rfl
theorem zbv {l:List Block} {g:Block} (h:l[0]?=some g) (h1:¬(tgtOk g.h.bits=true∧(firstTip g.h.bits).b=g)):checkOf l=(zTip,12):=by
  cases l with
  | nil=>cases h
  | cons x r =>
    injection h with h;subst h
    unfold checkOf;simp only [];rw [if_neg h1]
theorem check_step {r:List Block} {k:Nat} {b:Block} {t:Tip} (hb:r[k]?=some b) (h:pushE t b=0):checkFrom t (r.drop k)=checkFrom (pushT t b) (r.drop (k+1)):=by
  obtain ⟨hk,rfl⟩:=List.getElem?_eq_some_iff.1 hb
  rw [List.drop_eq_getElem_cons hk,checkFrom,if_pos h]
theorem check_stop {r:List Block} {k:Nat} {b:Block} {t:Tip} (hb:r[k]?=some b) (h:¬pushE t b=0):checkFrom t (r.drop k)=(zTip,pushE t b):=by
  obtain ⟨hk,rfl⟩:=List.getElem?_eq_some_iff.1 hb
  rw [List.drop_eq_getElem_cons hk,checkFrom,if_neg h]
theorem check_end {r:List Block} {k:Nat} {t:Tip} (h:r.length≤k):checkFrom t (r.drop k)=(t,0):=by
  rw [List.drop_of_length_le h];rfl
theorem zfo {l:List Block} (h:l.length=0):checkOf l=(zTip,9):=by rw [List.eq_nil_of_length_eq_zero h];rfl
def newOf (bits:UInt32):List Block:=if tgtOk bits=true then [(firstTip bits).b] else []
theorem own11_ok (t:Tx) (ht:smallTx t):Tells P 174 [.val txT t] (.val txT t):=by
 refine zc Tryz.func174 rfl rfl rfl (fun ext w hext=>?_)
 refine qad ?_;refine zI ze_140 rfl rfl rfl rfl ?_;refine CNQ ?_;refine zx [some 1,some 1,some 1,some 1,some 1,some 1,some 1,none] mixed (by decide +kernel) ?_;refine X0 (oFp zbg) ?_;refine X0 (oLb zbD zda) ?_;refine X0 (oCl (zs (cloneIn t.ins (by unfold smallTx at ht;constructor<;>omega))) rfl fn_175 ⟨(zd rfl),trivial⟩) ?_;refine X0 (oFp zbf) ?_;refine X0 (oLb zaU zc9) ?_;refine X0 (oCl (zs (cloneOut t.outs (by unfold smallTx at ht;constructor<;>omega))) rfl fn_176 ⟨(zd rfl),trivial⟩) ?_
 refine X0 (zV rfl ze_140 bd_140 (.cons zbg zbD zda rfl (.cons zbf zaU zc9 rfl .nil)) rfl) ?_;refine XK.e (x:=.idk) (fun fr' hfr kk H=>by exact zh rfl rfl rfl ((hfr 2 (by decide +kernel)).trans rfl) rfl (Lens.self _) ty_140 ((hfr 9 (by decide +kernel)).trans rfl) (zz H)) ?_;refine XK.nil' ?_
 exact zu rfl rfl rfl rfl ty_140 (rfl)
theorem toldTx_ok (l:List Tx) (hl:smallL l):Tells P 173 [.val (bsl txT) l,.clo 174 []] (.fresh 140 txT l):=by
 have hll:=hl.1
 refine zc Tryz.func173 rfl rfl rfl (fun ext w hext=>?_)
 refine ze (d:=0) rfl zi (fun hsl0=>?_)
 refine qbP ?_;refine A0 aL ?_;refine qbb ?_;refine qbq ?_;refine qaI ?_;refine za0 (T:=txT) (d:=5) 140 rfl ?_;refine Lp (ι:=Nat) 1 (fun (k:Nat)=>((((((Fr.none).set 0 (.val (bsl txT) l)).set 1 (.clo 174 [])).set 5 (.own 0)).set 8 (.val (bsl txT) l)).set 9 (.val i64T (l.length:Int))).set 10 (.val i64T (k:Int))) (fun (k:Nat)=>(Hp.none).set 0 (.row 140 txT (l.take k))) (fun (k:Nat)=>k≤l.length) (fun (k:Nat)=>l.length-k) (0) (Nat.zero_le _) ?_
 intro k hinv
 refine qao ?_;refine Cf (p:=k<l.length) (fun ht11=>?_) (fun ht11=>?_)
 ·
  obtain ⟨x,hx⟩:∃x,l[k]?=some x:=⟨_,List.getElem?_eq_getElem ht11⟩
  have hxm:=List.mem_of_getElem? hx
  refine CSQBQR ?_;refine qaU ?_;refine qbN ?_;refine CNR ?_;refine A0 mO ?_;refine A0 mC ?_;refine qbd ?_;refine A0 (zeA (As:=[_]) (Cs:=[]) (own11_ok x (hl.2 x hxm)) rfl rfl fn_174 ⟨(zd rfl),trivial⟩ (by intro n hn;cases hn) trivial rfl) ?_;refine A0 (zo (T:=txT) (xs:=[_]) rfl zec row_58 ⟨rfl,rfl,trivial⟩ rfl rfl) ?_;refine zn rfl rfl rfl rfl rfl rfl rfl row_58 (by simp;omega) ?_;refine A0 aO ?_;refine qbw ?_;refine zaB 2 0 3 rfl rfl rfl rfl rfl rfl ?_;refine zK (n:=0) (y:=l.take (k+1)) rfl (by rw [List.take_add_one,hx];rfl) ?_
  exact Nx (k+1) (by omega) (by omega)
 ·
  refine qat ?_
  exact zb rfl rfl (zg rfl rfl (by rw [List.take_of_length_le (by omega)]))
theorem own1_ok (b:Block) (hb:smallB b):Tells P 172 [.val blockT b] (.val blockT b):=by
 have hb1:=hb.1
 refine zc Tryz.func172 rfl rfl rfl (fun ext w hext=>?_)
 refine qad ?_;refine zI ze_60 rfl rfl rfl rfl ?_;refine CNQR ?_;refine A0 (oFp zbR) ?_;refine A0 (oLb zaH zbj) ?_;refine A0 (oCl (zs (cloneId b.l (by constructor<;>omega))) rfl fn_124 ⟨(zd rfl),trivial⟩) ?_;refine A0 (oFp zbR) ?_;refine zh rfl rfl rfl rfl rfl zaH zbj rfl ?_;refine CNQR ?_;refine qbX ?_
 refine A0 (oCl (zs (toldTx_ok b.t hb.2)) rfl fn_173 ⟨(zd rfl),(by first|exact zc4 (Cs:=[]) rfl fn_174 (by intro n hn;cases hn) trivial rfl (fun x=>own11_ok _ (by assumption))|exact zc3 (Cs:=[]) rfl fn_174 (by intro n hn;cases hn) trivial rfl (fun x y=>own11_ok _ (by assumption))|exact zc5 rfl),trivial⟩) ?_;refine A0 (oFp zd5) ?_;refine zh rfl rfl rfl rfl rfl zcw ty_58 rfl ?_;refine CNQR ?_;refine A0 (oLs rfl rfl rfl zb8) ?_;refine qbv ?_;refine CN ?_
 exact zu rfl rfl rfl rfl zb8 (rfl)
theorem toldBlock_ok (l:List Block) (hl:smallC l):Tells P 171 [.val (bsl blockT) l,.clo 172 []] (.fresh 60 blockT l):=by
 have hll:=hl.1
 refine zc Tryz.func171 rfl rfl rfl (fun ext w hext=>?_)
 refine ze (d:=0) rfl zi (fun hsl0=>?_)
 refine qbP ?_;refine A0 aL ?_;refine qbb ?_;refine qcj ?_;refine qaI ?_;refine za0 (T:=blockT) (d:=5) 60 rfl ?_;refine Lp (ι:=Nat) 1 (fun (k:Nat)=>((((((Fr.none).set 0 (.val (bsl blockT) l)).set 1 (.clo 172 [])).set 5 (.own 0)).set 8 (.val (bsl blockT) l)).set 9 (.val i64T (l.length:Int))).set 10 (.val i64T (k:Int))) (fun (k:Nat)=>(Hp.none).set 0 (.row 60 blockT (l.take k))) (fun (k:Nat)=>k≤l.length) (fun (k:Nat)=>l.length-k) (0) (Nat.zero_le _) ?_
 intro k hinv
 refine qao ?_;refine Cf (p:=k<l.length) (fun ht11=>?_) (fun ht11=>?_)
 ·
  obtain ⟨x,hx⟩:∃x,l[k]?=some x:=⟨_,List.getElem?_eq_getElem ht11⟩
  have hxm:=List.mem_of_getElem? hx
  refine CSQBQR ?_;refine A0 (zaQ rfl rfl rfl zcR (by assumption)) ?_;refine A0 (zf rfl rfl zb8) ?_;refine zI ze_60 rfl rfl rfl rfl ?_;refine qbv ?_;refine CNR ?_;refine A0 mO ?_;refine A0 mC ?_;refine A0 (oLs rfl rfl rfl zb8) ?_;refine A0 (zeA (As:=[_]) (Cs:=[]) (own1_ok x (hl.2 x hxm)) rfl rfl fn_172 ⟨(zd rfl),trivial⟩ (by intro n hn;cases hn) trivial rfl) ?_;refine A0 (zo (T:=blockT) (xs:=[_]) rfl zcR row_52 ⟨rfl,rfl,trivial⟩ rfl rfl) ?_;refine zn rfl rfl rfl rfl rfl rfl rfl row_52 (by simp;omega) ?_;refine A0 aO ?_;refine qbw ?_
  refine zaB 2 0 3 rfl rfl rfl rfl rfl rfl ?_;refine zK (n:=0) (y:=l.take (k+1)) rfl (by rw [List.take_add_one,hx];rfl) ?_
  exact Nx (k+1) (by omega) (by omega)
 ·
  refine qat ?_
  exact zb rfl rfl (zg rfl rfl (by rw [List.take_of_length_le (by omega)]))
theorem ownC_ok (l:List Block) (hl:smallC l):Tells P 120 [.val (bsl blockT) l] (.fresh 60 blockT l):=by
 refine zc Tryz.func120 rfl rfl rfl (fun ext w hext=>?_)
 refine ze (d:=0) rfl zi (fun hsl0=>?_)
 refine qay ?_;refine qbx ?_;refine zaE (toldBlock_ok l hl) rfl fn_171 ⟨(zd rfl),(by first|exact zc4 (Cs:=[]) rfl fn_172 (by intro n hn;cases hn) trivial rfl (fun x=>own1_ok _ (by assumption))|exact zc3 (Cs:=[]) rfl fn_172 (by intro n hn;cases hn) trivial rfl (fun x y=>own1_ok _ (by assumption))|exact zc5 rfl),trivial⟩ rfl rfl rfl ?_;refine qbe ?_
 exact zb rfl rfl (zg rfl rfl rfl)
theorem levelC_ok (b:Block):Tells P 179 [.val blockT b] (.val i64T (headLevel b.h)):=by
 refine zc Tryz.func179 rfl rfl rfl (fun ext w hext=>?_)
 refine qad ?_;refine qai ?_;refine A0 (oFp zan) ?_;refine A0 (oLb zE zao) ?_;refine A0 (oCl (zem _) rfl fn_35 ⟨(zd rfl),trivial⟩) ?_;refine qab ?_
 exact zb rfl rfl (by first|exact zca rfl|exact ze8 rfl rfl|exact zau rfl|exact zco rfl rfl|exact zH rfl|exact ze9 rfl)
theorem toldInt_ok (l:List Block) (f:Block→Int) (hl:l.length≤1000000000000):Tells P 178 [.val (bsl blockT) l,.fn1 P blockT i64T f] (.fresh 3 i64T (l.map f)):=by
 refine zc Tryz.func178 rfl rfl rfl (fun ext w hext=>?_)
 refine ze (d:=0) rfl zi (fun hsl0=>?_)
 refine qbP ?_;refine A0 aL ?_;refine qbb ?_;refine qcj ?_;refine qaI ?_;refine za0 (T:=i64T) (d:=5) 3 rfl ?_;refine Lp (ι:=Nat) 1 (fun (k:Nat)=>((((((Fr.none).set 0 (.val (bsl blockT) l)).set 1 (.fn1 P blockT i64T f)).set 5 (.own 0)).set 8 (.val (bsl blockT) l)).set 9 (.val i64T (l.length:Int))).set 10 (.val i64T (k:Int))) (fun (k:Nat)=>(Hp.none).set 0 (.row 3 i64T ((l.take k).map f))) (fun (k:Nat)=>k≤l.length) (fun (k:Nat)=>l.length-k) (0) (Nat.zero_le _) ?_
 intro k hinv
 refine qao ?_;refine Cf (p:=k<l.length) (fun ht11=>?_) (fun ht11=>?_)
 ·
  obtain ⟨x,hx⟩:∃x,l[k]?=some x:=⟨_,List.getElem?_eq_getElem ht11⟩
  have hxm:=List.mem_of_getElem? hx
  refine CSQBQR ?_;refine A0 (zaQ rfl rfl rfl zcR (by assumption)) ?_;refine A0 (zf rfl rfl zb8) ?_;refine zI ze_60 rfl rfl rfl rfl ?_;refine qbv ?_;refine CNR ?_;refine A0 mO ?_;refine A0 mF ?_;refine A0 (oLs rfl rfl rfl zb8) ?_;refine A0 (zeo rfl rfl (zd rfl)) ?_;refine A0 (zo (T:=i64T) (xs:=[_]) rfl sl_29 zeg ⟨rfl,rfl,trivial⟩ rfl rfl) ?_;refine zn rfl rfl rfl rfl rfl rfl rfl zeg (by simp;omega) ?_;refine A0 aO ?_;refine qbw ?_;refine zaB 2 0 3 rfl rfl rfl rfl rfl rfl ?_
  refine zK (n:=0) (y:=(l.take (k+1)).map f) rfl (by rw [List.take_add_one,hx];simp) ?_
  exact Nx (k+1) (by omega) (by omega)
 ·
  refine qat ?_
  exact zb rfl rfl (zg rfl rfl (by rw [List.take_of_length_le (by omega)]))
theorem levels_ok (l:List Block) (hl:l.length≤1000000000000):Tells P 122 [.val (bsl blockT) l] (.fresh 3 i64T (levelsOf l)):=by
 refine zc Tryz.func122 rfl rfl rfl (fun ext w hext=>?_)
 refine ze (d:=0) rfl zi (fun hsl0=>?_)
 refine qay ?_;refine qbx ?_;refine zaE (toldInt_ok l (fun b=>headLevel b.h) hl) rfl fn_178 ⟨(zd rfl),(by first|exact zc4 (Cs:=[]) rfl fn_179 (by intro n hn;cases hn) trivial rfl (fun x=>levelC_ok x)|exact zc3 (Cs:=[]) rfl fn_179 (by intro n hn;cases hn) trivial rfl (fun x y=>levelC_ok x)|exact zc5 rfl),trivial⟩ rfl rfl rfl ?_;refine qbe ?_
 exact zb rfl rfl (zg rfl rfl rfl)
theorem findC1_ok (id:Ab.Id) (b:Block):Tells P 100 [.val blockT b,.rptr idT id] (.val boolT (decide (headId b.h=id))):=by
 refine zc Tryz.func100 rfl rfl rfl (fun ext w hext=>?_)
 refine qad ?_;refine qbF ?_;refine G0 (oFp zan) ?_;refine G0 (oLb zE zao) ?_;refine G0 (oCl (zdx _) rfl fn_14 ⟨(zd rfl),trivial⟩) ?_;refine qb4 ?_;refine G0 (zcM rfl rfl rfl (zbJ)) ?_;refine qa3 ?_
 exact zb rfl rfl (by first|exact zca rfl|exact ze8 rfl rfl|exact zau rfl|exact zco rfl rfl|exact zH rfl|exact ze9 rfl)
theorem findC_ok (l:List Block) (id:Ab.Id):Tells P 56 [.val (bsl blockT) l,.val idT id] (.val i64T (findOf l id)):=by
 refine zc Tryz.func56 rfl rfl rfl (fun ext w hext=>?_)
 refine ze (d:=0) rfl zi (fun hsl0=>?_)
 refine qad ?_;refine qa7 ?_;refine A0 (g_mkf (caps:=[_]) rfl rfl) ?_
 refine A0 (oCl (indexFuncBlock l (fun b=>decide (headId b.h=id))) rfl fn_99 ⟨(zd rfl),(by first|exact zc4 (Cs:=[_]) rfl fn_100 (by intro n hn;simp only [List.mem_cons,List.not_mem_nil,or_false] at hn;rcases hn with rfl<;>exact ⟨_,_,_,_,rfl⟩) ⟨(by exact za4 rfl),trivial⟩ rfl (fun x=>findC1_ok id x)|exact zc3 (Cs:=[_]) rfl fn_100 (by intro n hn;simp only [List.mem_cons,List.not_mem_nil,or_false] at hn;rcases hn with rfl<;>exact ⟨_,_,_,_,rfl⟩) ⟨(by exact za4 rfl),trivial⟩ rfl (fun x y=>findC1_ok id x)|exact zc5 rfl),trivial⟩) ?_;refine qab ?_
 exact zb rfl rfl (za rfl rfl)
theorem check_ok (l:List Block) (hl:smallC l):Tells P 28 [.val (bsl blockT) l] (.tup2 (.val tipT (checkOf l).1) (.val i64T (checkOf l).2)):=by
 have hll:=hl.1
 refine zc Tryz.func28 rfl rfl rfl (fun ext w hext=>?_)
 refine ze (d:=0) rfl zi (fun hsl0=>?_)
 refine CQR ?_;refine qbm ?_;refine qab ?_;refine aw_scope (ι:=Block) 2 0 rfl rfl rfl (fun (g:Block)=>((((Fr.none).set 0 (.val (bsl blockT) l)).set 2 (.ptr 0 0)).set 4 (.ptr 1 0)).set 6 (.val i64T 0)) (fun (g:Block)=>((Hp.none).set 0 (.box 64 tipT zTip)).set 1 (.box 64 tipT (firstTip g.h.bits))) (fun (g:Block)=>l[0]?=some g∧tgtOk g.h.bits=true∧(firstTip g.h.bits).b=g) (fun (g:Block)=>0) ?_ (fun hreach=>?_)
 ·
  intro g hinv
  have hl1:=(List.getElem?_eq_some_iff.1 hinv.1).1
  refine qa9 ?_;refine A0 (zeP rfl rfl rfl zcR (by first|assumption|omega|(simp;omega))) ?_;refine qcj ?_;refine qaI ?_
  refine Lp (ι:=Nat×Tip) 2 (fun (i:Nat×Tip)=>match i with|(k,t)=>(((((((Fr.none).set 0 (.val (bsl blockT) l)).set 2 (.ptr 0 0)).set 4 (.ptr 1 0)).set 6 (.val i64T 0)).set 35 (.val (bsl blockT) (l.drop 1))).set 36 (.val i64T ((l.drop 1).length:Int))).set 37 (.val i64T (k:Int))) (fun (i:Nat×Tip)=>match i with|(k,t)=>((Hp.none).set 0 (.box 64 tipT zTip)).set 1 (.box 64 tipT t)) (fun (i:Nat×Tip)=>match i with|(k,t)=>k≤(l.drop 1).length∧smallN t k∧checkOf l=checkFrom t ((l.drop 1).drop k)) (fun (i:Nat×Tip)=>match i with|(k,t)=>(l.drop 1).length-k) ((0,firstTip g.h.bits)) (⟨Nat.zero_le _,first_small,checkOf_start hinv.1 hinv.2.1 hinv.2.2⟩) ?_
  intro ⟨k,t⟩ hin
  dsimp only at hin
  refine qao ?_;refine Cf (p:=k<(l.drop 1).length) (fun ht38=>?_) (fun ht38=>?_)
  ·
   have hk38:k<l.length:=by rw [List.length_drop] at ht38;omega
   obtain ⟨b,hb⟩:∃b,(l.drop 1)[k]?=some b:=⟨_,List.getElem?_eq_getElem ht38⟩
   have hbm:=hl.2 b (List.mem_of_mem_drop (List.mem_of_getElem? hb))
   refine CSQBQR ?_;refine A0 (zm (i:=k) rfl rfl rfl (by omega) zcR (by assumption)) ?_;refine A0 (zf rfl rfl zb8) ?_;refine zI ze_60 rfl rfl rfl rfl ?_;refine qbv ?_;refine CNQR ?_;refine A0 (oLs rfl rfl rfl zaM) ?_;refine A0 (oLs rfl rfl rfl zb8) ?_;refine A0 (oCl (push_ok t b hin.2.1.1 hbm) rfl fn_66 ⟨(zd rfl),(zd rfl),trivial⟩) ?_;refine A0 mX ?_;refine A0 (by first|exact zW rfl rfl|exact zU rfl rfl) ?_;refine A0 (by first|exact zY rfl rfl|exact zX rfl rfl) ?_;refine qan ?_;refine qa7 ?_;refine qaB ?_
   refine zj (p:=¬pushE t b=0) rfl (by simp [IntL.toI]) (fun ht48=>?_) (fun ht48=>?_)
   ·
    refine CE ?_;refine qa9 ?_;refine qaB ?_;refine aw_if_t rfl (by simpa [IntL.toI] using ht48) ?_;refine CQR ?_;refine A0 (zV rfl ze_64 bd_64 .nil rfl) ?_;refine qar ?_;refine qan ?_;refine qab ?_
    exact zF rfl rfl (zw rfl rfl zaM (by rw [hin.2.2,check_stop hb ht48])) (zac (za rfl (by rw [hin.2.2,check_stop hb ht48])))
   ·
    refine qbn ?_;refine zp (d:=6) (y:=(0:Int)) rfl (Classical.not_not.1 ht48) ?_
    exact Nx ((k+1,pushT t b)) (⟨by omega,push_smallN hin.2.1 (by rw [List.length_drop] at ht38;omega) hbm (Classical.not_not.1 ht48),hin.2.2.trans (check_step hb (Classical.not_not.1 ht48))⟩) (by show (l.drop 1).length-(k+1)<(l.drop 1).length-k;omega)
  ·
   refine CE ?_;refine qa9 ?_;refine qaB ?_;refine Cg ?_;refine CSQR ?_;refine A0 (oLs rfl rfl rfl zaM) ?_;refine qan ?_;refine qab ?_
   exact zF rfl rfl (zw rfl rfl zaM (by rw [hin.2.2,check_end (by omega)])) (zac (za rfl (by rw [hin.2.2,check_end (by omega)])))
 ·
  refine qa9 ?_;refine qcj ?_;refine A0 zbU ?_;refine CN ?_;refine Cf (p:=l.length=0) (fun ht11=>?_) (fun ht11=>?_)
  ·
   refine CQR ?_;refine A0 (zV rfl ze_64 bd_64 .nil rfl) ?_;refine qan ?_;refine qab ?_
   exact zF rfl rfl (zw rfl rfl zaM (by rw [zfo ht11])) (zac (za rfl (by rw [zfo ht11])))
  ·
   obtain ⟨g,hg⟩:∃g,l[0]?=some g:=⟨_,List.getElem?_eq_getElem (by omega)⟩
   refine qbG ?_;refine A0 (zm (i:=0) rfl rfl rfl (by omega) zcR (by assumption)) ?_;refine A0 (oFr zan zE) ?_;refine qbS ?_;refine A0 (oCl (firstTip_ok g.h.bits) rfl fn_31 ⟨(by first|exact zq rfl|exact zC rfl|exact zy rfl rfl|exact zA rfl|exact zr rfl|exact zL rfl rfl|exact zB rfl),trivial⟩) ?_;refine A0 mX ?_;refine A0 (by first|exact zW rfl rfl|exact zU rfl rfl) ?_;refine A0 (by first|exact zY rfl rfl|exact zX rfl rfl) ?_;refine qbm ?_;refine qan ?_;refine qaA ?_;refine qcd ?_;refine G0 oN ?_;refine G0 mV ?_
   refine zab (d:=24) (p:=¬tgtOk g.h.bits=true) rfl (by cases tgtOk g.h.bits<;>rfl) (fun g24=>?_) (fun g24=>?_)
   ·
    refine qaa ?_;refine G2 ?_;refine qaK ?_;refine Ct ?_;refine CQR ?_;refine A0 (zV rfl ze_64 bd_64 .nil rfl) ?_;refine qan ?_;refine qab ?_
    exact zF rfl rfl (zw rfl rfl zaM (by rw [zbv hg fun h=>g24 h.1])) (zac (za rfl (by rw [zbv hg fun h=>g24 h.1])))
   ·
    refine G1 (oFp zcH) ?_;refine G1 (oLb za6 zb8) ?_;refine G1 mV ?_;refine G1 (zm (i:=0) rfl rfl rfl (by omega) zcR (by assumption)) ?_;refine G1 (zf rfl rfl zb8) ?_;refine G1 (oCl (sameB_ok _ _) rfl fn_65 ⟨(zd rfl),(by first|exact zq rfl|exact zC rfl|exact zy rfl rfl|exact zA rfl|exact zr rfl|exact zL rfl rfl|exact zB rfl),trivial⟩) ?_;refine G1 oN ?_;refine qaK ?_;refine zj (p:=¬(firstTip g.h.bits).b=g) rfl (by simp) (fun ht32=>?_) (fun ht32=>?_)
    ·
     refine CQR ?_;refine A0 (zV rfl ze_64 bd_64 .nil rfl) ?_;refine qan ?_;refine qab ?_
     exact zF rfl rfl (zw rfl rfl zaM (by rw [zbv hg fun h=>ht32 h.2])) (zac (za rfl (by rw [zbv hg fun h=>ht32 h.2])))
    ·
     refine CSQR ?_;refine qaA ?_
     exact aw_reach hreach (g) rfl (⟨hg,Classical.not_not.1 g24,Classical.not_not.1 ht32⟩) rfl (by (repeat refine Fr.le_set ?_ (by first|rfl|(simp;done)));exact Fr.le_none _) (by (repeat refine Hp.le_set ?_ rfl);exact Hp.le_none _) (by (repeat refine Fr.below_setB ?_ rfl);exact Fr.below_none _) (by (repeat refine Hp.below_set ?_ (by decide));exact Hp.below_none _)
theorem newC_ok (bits:UInt32):Tells P 67 [.val u32T bits] (.tup2 (.val (sl blockT) (newOf bits)) (.val boolT (tgtOk bits))):=by
 refine zc Tryz.func67 rfl rfl rfl (fun ext w hext=>?_)
 refine qay ?_;refine qa7 ?_;refine A0 (oCl (firstTip_ok bits) rfl fn_31 ⟨(zd rfl),trivial⟩) ?_;refine A0 mX ?_;refine A0 (by first|exact zW rfl rfl|exact zU rfl rfl) ?_;refine A0 (by first|exact zY rfl rfl|exact zX rfl rfl) ?_;refine qbm ?_;refine qan ?_;refine qah ?_;refine qaE ?_;refine zj (p:=¬tgtOk bits=true) rfl (by cases tgtOk bits<;>rfl) (fun ht12=>?_) (fun ht12=>?_)
 ·
  refine qay ?_;refine qab ?_
  exact z7 rfl rfl (by unfold newOf;rw [if_neg ht12];exact zau rfl) (za rfl (by simpa using ht12))
 ·
  refine CSQR ?_;refine A0 (oFp zcH) ?_;refine A0 (oLb za6 zb8) ?_;refine A0 (zo (T:=blockT) (xs:=[_]) rfl zcR row_52 ⟨rfl,rfl,trivial⟩ rfl rfl) ?_;refine qaY ?_
  exact z7 rfl rfl (za rfl (by unfold newOf;rw [if_pos (Classical.not_not.1 ht12)])) (za rfl (Classical.not_not.1 ht12).symm)
theorem growC_ok (l:List Block) (t:List Tx) (nonce:UInt64) (hl:smallC l) (ht:smallL t):Tells P 68 [.val (bsl blockT) l,.val (sl txT) t,.val u64T nonce] (.tup2 (.fresh 60 blockT (growOf l t nonce)) (.val i64T (growE l t nonce))):=by
 have hll:=hl.1
 refine zc Tryz.func68 rfl rfl rfl (fun ext w hext=>?_)
 refine ze (d:=0) rfl zi (fun hsl0=>?_)
 refine ze (d:=1) rfl zi (fun hsl1=>?_)
 refine qay ?_;refine qa7 ?_;refine zaE (ownC_ok l hl) rfl fn_120 ⟨(zd rfl),trivial⟩ rfl rfl rfl ?_;refine A0 aO ?_;refine qbx ?_;refine A0 (oCl (check_ok l hl) rfl fn_28 ⟨(zd rfl),trivial⟩) ?_;refine A0 mX ?_;refine A0 (by first|exact zW rfl rfl|exact zU rfl rfl) ?_;refine A0 (by first|exact zY rfl rfl|exact zX rfl rfl) ?_;refine qbm ?_;refine qan ?_;refine qah ?_;refine qaB ?_;refine zj (p:=¬(checkOf l).2=0) rfl (by simp [IntL.toI]) (fun ht20=>?_) (fun ht20=>?_)
 ·
  have hE:growE l t nonce=(checkOf l).2:=by unfold growE;rw [if_neg ht20]
  have hG:growOf l t nonce=l:=by unfold growOf;rw [hE,if_neg ht20]
  refine CQR ?_;refine A0 mO ?_;refine qar ?_;refine A0 aO ?_;refine qab ?_
  exact z7 rfl rfl (zg rfl rfl (by rw [hG])) (za rfl hE.symm)
 ·
  refine CSQR ?_;refine A0 (oLs rfl rfl rfl zaM) ?_;refine qag ?_;refine A0 (oCl (mineB_ok (checkOf l).1 t nonce 200 (check_small hl) ht) rfl fn_121 ⟨(zd rfl),(zd rfl),(zd rfl),(zd rfl),trivial⟩) ?_;refine A0 mX ?_;refine A0 (by first|exact zW rfl rfl|exact zU rfl rfl) ?_;refine A0 (by first|exact zY rfl rfl|exact zX rfl rfl) ?_;refine zI ze_60 rfl rfl rfl rfl ?_;refine qbv ?_;refine qah ?_;refine qaB ?_;refine zj (p:=¬mineBE (checkOf l).1 t nonce 200=0) rfl (by simp [IntL.toI]) (fun ht31=>?_) (fun ht31=>?_)
  ·
   have hE:growE l t nonce=mineBE (checkOf l).1 t nonce 200:=by unfold growE;rw [if_pos (Classical.not_not.1 ht20)]
   have hG:growOf l t nonce=l:=by unfold growOf;rw [hE,if_neg ht31]
   refine CQR ?_;refine A0 mO ?_;refine qar ?_;refine A0 aO ?_;refine qab ?_
   exact z7 rfl rfl (zg rfl rfl (by rw [hG])) (za rfl hE.symm)
  ·
   have hE:growE l t nonce=0:=by unfold growE;rw [if_pos (Classical.not_not.1 ht20)];exact Classical.not_not.1 ht31
   have hG:growOf l t nonce=l++[mineB (checkOf l).1 t nonce 200]:=by unfold growOf;rw [if_pos hE]
   refine CSQR ?_;refine A0 mO ?_;refine A0 (oLs rfl rfl rfl zb8) ?_;refine A0 (zo (T:=blockT) (xs:=[_]) rfl zcR row_52 ⟨rfl,rfl,trivial⟩ rfl rfl) ?_;refine zn rfl rfl rfl rfl rfl rfl rfl row_52 (by simp;omega) ?_;refine A0 aO ?_;refine qab ?_
   exact z7 rfl rfl (zg rfl rfl (by rw [hG])) (za rfl hE.symm)
set_option maxRecDepth 20000
theorem refInts_ok (l m:List Int):Tells P 22 [.val (bsl i64T) l,.val (bsl i64T) m] (.val boolT (decide (l=m))):=by
 refine zc Tryz.func22 rfl rfl rfl (fun ext w hext=>?_)
 refine ze (d:=0) rfl zi (fun hsl0=>?_)
 refine ze (d:=1) rfl zi (fun hsl1=>?_)
 refine CQR ?_;refine qah ?_;refine qch ?_;refine qar ?_;refine qch ?_;refine qaB ?_;refine zj (p:=¬l.length=m.length) rfl (by simp [IntL.toI];omega) (fun ht10=>?_) (fun ht10=>?_)
 ·
  refine qam ?_
  exact zb rfl rfl (za rfl (decide_eq_false (fun e=>ht10 (by rw [e]))).symm)
 ·
  refine CSQQR ?_;refine qbC ?_;refine Lp (ι:=Nat) 0 (fun (k:Nat)=>(((Fr.none).set 0 (.val (bsl i64T) l)).set 1 (.val (bsl i64T) m)).set 5 (.val i64T (k:Int))) (fun (k:Nat)=>Hp.none) (fun (k:Nat)=>k≤l.length∧l.take k=m.take k) (fun (k:Nat)=>l.length-k) (0) (⟨Nat.zero_le _,rfl⟩) ?_
  intro k hinv
  refine qbg ?_;refine qch ?_;refine qaz ?_;refine Cf (p:=k<l.length) (fun ht14=>?_) (fun ht14=>?_)
  ·
   obtain ⟨x,hx⟩:∃x,l[k]?=some x:=⟨_,List.getElem?_eq_getElem ht14⟩
   obtain ⟨y,hy⟩:∃y,m[k]?=some y:=⟨_,List.getElem?_eq_getElem (by omega)⟩
   refine qa4 ?_;refine qa0 ?_;refine qaF ?_;refine G0 (zm (i:=k) rfl rfl rfl (by omega) sl_29 (by assumption)) ?_;refine G0 (zf rfl rfl ty_3) ?_;refine qaF ?_;refine G0 (zm (i:=k) rfl rfl rfl (by omega) sl_29 (by assumption)) ?_;refine G0 (zf rfl rfl ty_3) ?_;refine G0 zd2 ?_;refine GK.nil ?_;refine zj (p:=¬x=y) rfl (by simp [IntL.toI]) (fun ht25=>?_) (fun ht25=>?_)
   ·
    refine qam ?_
    exact zb rfl rfl (za rfl (decide_eq_false (zdJ hx hy ht25)).symm)
   ·
    refine qb3 ?_
    exact Nx (k+1) (⟨by omega,zbw hx hy hinv.2 (Classical.not_not.1 ht25)⟩) (by omega)
  ·
   refine qbE ?_
   exact zb rfl rfl (za rfl (decide_eq_true (by have h:=hinv.2;rw [List.take_of_length_le (by omega),List.take_of_length_le (by omega)] at h;exact h)).symm)
theorem rfindC_ok (l:List Block) (id:Ab.Id):Tells P 59 [.val (bsl blockT) l,.val idT id] (.val i64T (findOf l id)):=by
 refine zc Tryz.func59 rfl rfl rfl (fun ext w hext=>?_)
 refine ze (d:=0) rfl zi (fun hsl0=>?_)
 refine qad ?_;refine qbr ?_;refine Lp (ι:=Nat) 1 (fun (k:Nat)=>(((Fr.none).set 0 (.val (bsl blockT) l)).set 3 (.ptr 0 0)).set 5 (.val i64T (k:Int))) (fun (k:Nat)=>(Hp.none).set 0 (.box 32 idT id)) (fun (k:Nat)=>k≤l.length∧findOf l id=shift k (idx (fun b=>decide (headId b.h=id)) (l.drop k))) (fun (k:Nat)=>l.length-k) (0) (⟨Nat.zero_le _,zdd _ l⟩) ?_
 intro k hinv
 refine qbg ?_;refine qcj ?_;refine qaz ?_;refine Cf (p:=k<l.length) (fun ht9=>?_) (fun ht9=>?_)
 ·
  obtain ⟨x,hx⟩:∃x,l[k]?=some x:=⟨_,List.getElem?_eq_getElem ht9⟩
  refine qa4 ?_;refine qa0 ?_;refine qaF ?_;refine G0 (zm (i:=k) rfl rfl rfl (by omega) zcR (by assumption)) ?_;refine qbs ?_;refine G0 (oCl (zdf x.h) rfl fn_51 ⟨(by first|exact zq rfl|exact zC rfl|exact zy rfl rfl|exact zA rfl|exact zr rfl|exact zL rfl rfl|exact zB rfl),trivial⟩) ?_;refine G0 (oLs rfl rfl rfl zM) ?_;refine G0 (zcM rfl rfl rfl (zbJ)) ?_;refine GK.nil ?_;refine zj (p:=(decide (headId x.h=id))=true) rfl (by simp) (fun ht19=>?_) (fun ht19=>?_)
  ·
   refine qb8 ?_
   exact zb rfl rfl (za rfl (hinv.2.trans (idx_yes hx ht19)).symm)
  ·
   refine qb3 ?_
   exact Nx (k+1) (⟨by omega,hinv.2.trans (idx_no hx ht19)⟩) (by omega)
 ·
  refine qbE ?_
  exact zb rfl rfl (za rfl (hinv.2.trans (idx_end (by omega))).symm)
set_option maxRecDepth 20000
theorem rcheck_ok (l:List Block) (hl:smallC l):Tells P 58 [.val (bsl blockT) l] (.tup2 (.val tipT (checkOf l).1) (.val i64T (checkOf l).2)):=by
 have hll:=hl.1
 refine zc Tryz.func58 rfl rfl rfl (fun ext w hext=>?_)
 refine ze (d:=0) rfl zi (fun hsl0=>?_)
 refine CQR ?_;refine qbm ?_;refine qah ?_;refine qcj ?_;refine A0 zbU ?_;refine CN ?_;refine Cf (p:=l.length=0) (fun ht12=>?_) (fun ht12=>?_)
 ·
  refine CQR ?_;refine A0 (zV rfl ze_64 bd_64 .nil rfl) ?_;refine qan ?_;refine qab ?_
  exact zF rfl rfl (zw rfl rfl zaM (by rw [zfo ht12])) (zac (za rfl (by rw [zfo ht12])))
 ·
  obtain ⟨g,hg⟩:∃g,l[0]?=some g:=⟨_,List.getElem?_eq_getElem (by omega)⟩
  refine qbG ?_;refine A0 (zm (i:=0) rfl rfl rfl (by omega) zcR (by assumption)) ?_;refine A0 (oFr zan zE) ?_;refine qbS ?_;refine A0 (oCl (rfirstTip_ok g.h.bits) rfl fn_61 ⟨(by first|exact zq rfl|exact zC rfl|exact zy rfl rfl|exact zA rfl|exact zr rfl|exact zL rfl rfl|exact zB rfl),trivial⟩) ?_;refine A0 mX ?_;refine A0 (by first|exact zW rfl rfl|exact zU rfl rfl) ?_;refine A0 (by first|exact zY rfl rfl|exact zX rfl rfl) ?_;refine qbm ?_;refine qan ?_;refine qbF ?_;refine G0 (oFp zcH) ?_;refine G0 (oLb za6 zb8) ?_
  refine G0 mV ?_;refine G0 (zm (i:=0) rfl rfl rfl (by omega) zcR (by assumption)) ?_;refine G0 (zf rfl rfl zb8) ?_;refine G0 (oCl (refB_ok (firstTip g.h.bits).b g) rfl fn_101 ⟨(zd rfl),(by first|exact zq rfl|exact zC rfl|exact zy rfl rfl|exact zA rfl|exact zr rfl|exact zL rfl rfl|exact zB rfl),trivial⟩) ?_;refine qa3 ?_;refine qa9 ?_;refine A0 oN ?_;refine qar ?_;refine zaa (d:=31) (p:=¬tgtOk g.h.bits=true) rfl (by cases tgtOk g.h.bits<;>rfl) (fun g31=>?_) (fun g31=>?_)
  ·
   refine qcc ?_;refine Ct ?_;refine CQR ?_;refine A0 (zV rfl ze_64 bd_64 .nil rfl) ?_;refine qan ?_;refine qab ?_
   exact zF rfl rfl (zw rfl rfl zaM (by rw [zbv hg fun h=>g31 h.1])) (zac (za rfl (by rw [zbv hg fun h=>g31 h.1])))
  ·
   refine A1 mV ?_;refine A1 oN ?_;refine qaq ?_;refine zj (p:=¬(firstTip g.h.bits).b=g) rfl (by simp) (fun ht34=>?_) (fun ht34=>?_)
   ·
    refine CQR ?_;refine A0 (zV rfl ze_64 bd_64 .nil rfl) ?_;refine qan ?_;refine qab ?_
    exact zF rfl rfl (zw rfl rfl zaM (by rw [zbv hg fun h=>ht34 h.2])) (zac (za rfl (by rw [zbv hg fun h=>ht34 h.2])))
   ·
    refine CSQQR ?_;refine qbC ?_;refine Lp (ι:=Nat×Tip) 2 (fun (i:Nat×Tip)=>match i with|(k,t)=>((((Fr.none).set 0 (.val (bsl blockT) l)).set 2 (.ptr 0 0)).set 4 (.ptr 1 0)).set 7 (.val i64T ((k+1:Nat):Int))) (fun (i:Nat×Tip)=>match i with|(k,t)=>((Hp.none).set 0 (.box 64 tipT zTip)).set 1 (.box 64 tipT t)) (fun (i:Nat×Tip)=>match i with|(k,t)=>k+1≤l.length∧smallN t k∧checkOf l=checkFrom t ((l.drop 1).drop k)) (fun (i:Nat×Tip)=>match i with|(k,t)=>l.length-k) ((0,firstTip g.h.bits)) (⟨by omega,first_small,checkOf_start hg (Classical.not_not.1 g31) (Classical.not_not.1 ht34)⟩) ?_
    intro ⟨k,t⟩ hin
    dsimp only at hin
    refine qbg ?_;refine qcj ?_;refine qaz ?_;refine Cf (p:=k+1<l.length) (fun ht39=>?_) (fun ht39=>?_)
    ·
     have hb0:∃b,l[k+1]?=some b:=⟨_,List.getElem?_eq_getElem ht39⟩
     obtain ⟨b,hb0⟩:=hb0
     have hb:(l.drop 1)[k]?=some b:=by rw [List.getElem?_drop,Nat.add_comm];exact hb0
     have hbm:=hl.2 b (List.mem_of_getElem? hb0)
     have hbt:=hbm.2.1
     have hpl:=hin.2.1.2.1
     have hpl2:=hin.2.1.1.2.1
     refine qa4 ?_;refine CQ ?_;refine zx [some 1000001,some 1000001,some 1000001,some 1000001,some 1000001,some 1000001,some 1000001,some 1000001,some 1000001,none,none,some 1] mixed (by decide +kernel) ?_;refine XK.gf (t:=4) rfl rfl (fun _ he=>zl rfl rfl he (Lens.self _) zaM) ⟨rfl,trivial⟩ rfl rfl rfl ?_;refine XK.ga (fun _=>g_mv (.inl rfl) rfl) rfl rfl rfl ?_;refine XK.ga (fun _=>g_mv (.inl rfl) rfl) rfl rfl rfl ?_;refine XK.ga (fun _=>zm (i:=k+1) rfl rfl rfl (by omega) zcR (by assumption)) rfl rfl rfl ?_;refine XK.ga (fun _=>zf rfl rfl zb8) rfl rfl rfl ?_
     refine XK.ga (fun _=>zb5 (rpush_ok t b (by omega) (by omega)) rfl fn_102 ⟨(zd rfl),(by first|exact zq rfl|exact zC rfl|exact zy rfl rfl|exact zA rfl|exact zr rfl|exact zL rfl rfl|exact zB rfl),trivial⟩ rfl) rfl rfl rfl ?_
     refine XK.ga (fun _=>by first|exact g_mv (.inl rfl) rfl|exact g_mp (.inl rfl) rfl|exact g_mo (.inl rfl) rfl|exact g_ml (.inl rfl) rfl|exact g_mc (.inl rfl) rfl|exact g_mr (.inl rfl) rfl|exact g_mf1 (.inl rfl) rfl|exact g_mf2 (.inl rfl) rfl|exact g_mw (.inl rfl) rfl|exact g_me (.inl rfl) rfl|exact g_ms (.inl rfl) rfl|exact zeR (.inl rfl) rfl|exact zeQ (.inl rfl) rfl|exact g_mi (.inl rfl) rfl) rfl rfl rfl ?_;refine XK.ga (fun _=>by first|exact zW rfl rfl|exact zU rfl rfl) rfl rfl rfl ?_;refine XK.ga (fun _=>by first|exact zY rfl rfl|exact zX rfl rfl) rfl rfl rfl ?_
     refine XK.e (fun fr' hfr kk H=>by exact zI ze_64 rfl rfl rfl rfl (zz H)) ?_;refine XK.e (x:=.idk) (fun fr' hfr kk H=>by exact zh rfl rfl rfl ((hfr 8 (by decide +kernel)).trans rfl) rfl (Lens.self _) zaM ((hfr 49 (by decide +kernel)).trans rfl) (zz H)) ?_;refine X0 aV ?_;refine XK.nilp ⟨⟨rfl,rfl,trivial⟩,trivial⟩ ?_;refine qa9 ?_;refine qaB ?_;refine zj (p:=¬pushE t b=0) rfl (by simp [IntL.toI]) (fun ht52=>?_) (fun ht52=>?_)
     ·
      refine CQR ?_;refine A0 (zV rfl ze_64 bd_64 .nil rfl) ?_;refine qar ?_;refine qan ?_;refine qab ?_
      exact zF rfl rfl (zw rfl rfl zaM (by rw [hin.2.2,check_stop hb ht52])) (zac (za rfl (by rw [hin.2.2,check_stop hb ht52])))
     ·
      refine CS ?_;refine CR ?_;refine A0 (oLs rfl rfl rfl zaM) ?_;refine qan ?_;refine qaR ?_
      exact Nx ((k+1,pushT t b)) (⟨by omega,push_smallN hin.2.1 (by omega) hbm (Classical.not_not.1 ht52),hin.2.2.trans (check_step hb (Classical.not_not.1 ht52))⟩) (by show l.length-(k+1)<l.length-k;omega)
    ·
     refine CE ?_;refine qaG ?_
     exact zF rfl rfl (zw rfl rfl zaM (by rw [hin.2.2,check_end (by rw [List.length_drop];omega)])) (zac (za rfl (by rw [hin.2.2,check_end (by rw [List.length_drop];omega)])))
set_option maxRecDepth 20000
def sortI_ren:Go.Shelf.Ren:=⟨fun|189=>222|125=>82|257=>254|128=>139|129=>140|294=>271|295=>272|296=>273|297=>274|298=>275|299=>276|216=>277|300=>278|301=>279|328=>293|329=>294|330=>295|331=>296|332=>297|215=>284|343=>301|n=>n,fun|28=>29|3=>3|46=>130|0=>0|51=>36|53=>33|4=>4|183=>292|182=>291|131=>259|5=>5|9=>9|218=>305|222=>309|228=>313|229=>314|n=>n,fun|n=>n⟩
theorem sortI:Go.Proofs.Lays.n189 P sortI_ren:={
  mixed:=by kernel_rfl,
  f125:=Tryz.func82.trans (congrArg some (by kernel_rfl)),
  f128:=Tryz.func139.trans (congrArg some (by kernel_rfl)),
  f129:=Tryz.func140.trans (congrArg some (by kernel_rfl)),
  f189:=Tryz.func222.trans (congrArg some (by kernel_rfl)),
  f215:=Tryz.func284.trans (congrArg some (by kernel_rfl)),
  f216:=Tryz.func277.trans (congrArg some (by kernel_rfl)),
  f257:=Tryz.func254.trans (congrArg some (by kernel_rfl)),
  f294:=Tryz.func271.trans (congrArg some (by kernel_rfl)),
  f295:=Tryz.func272.trans (congrArg some (by kernel_rfl)),
  f296:=Tryz.func273.trans (congrArg some (by kernel_rfl)),
  f297:=Tryz.func274.trans (congrArg some (by kernel_rfl)),
  f298:=Tryz.func275.trans (congrArg some (by kernel_rfl)),
  f299:=Tryz.func276.trans (congrArg some (by kernel_rfl)),
  f300:=Tryz.func278.trans (congrArg some (by kernel_rfl)),
  f301:=Tryz.func279.trans (congrArg some (by kernel_rfl)),
  f328:=Tryz.func293.trans (congrArg some (by kernel_rfl)),
  f329:=Tryz.func294.trans (congrArg some (by kernel_rfl)),
  f330:=Tryz.func295.trans (congrArg some (by kernel_rfl)),
  f331:=Tryz.func296.trans (congrArg some (by kernel_rfl)),
  f332:=Tryz.func297.trans (congrArg some (by kernel_rfl)),
  f343:=Tryz.func301.trans (congrArg some (by kernel_rfl)),
  t0:=Tryz.underlying0,
  a0:=Tryz.isAgg0,
  z0:=Tryz.sizeOf0,
  v0:=Tryz.zeroValue0,
  t3:=Tryz.underlying3,
  a3:=Tryz.isAgg3,
  z3:=Tryz.sizeOf3,
  v3:=Tryz.zeroValue3,
  t4:=Tryz.underlying4,
  a4:=Tryz.isAgg4,
  z4:=Tryz.sizeOf4,
  v4:=Tryz.zeroValue4,
  t5:=Tryz.underlying5,
  a5:=Tryz.isAgg5,
  z5:=Tryz.sizeOf5,
  v5:=Tryz.zeroValue5,
  t9:=Tryz.underlying9,
  a9:=Tryz.isAgg9,
  z9:=Tryz.sizeOf9,
  v9:=Tryz.zeroValue9,
  t28:=Tryz.underlying29,
  a28:=Tryz.isAgg29,
  z28:=Tryz.sizeOf29,
  v28:=Tryz.zeroValue29,
  t46:=Tryz.underlying130,
  a46:=Tryz.isAgg130,
  z46:=Tryz.sizeOf130,
  v46:=Tryz.zeroValue130,
  t51:=Tryz.underlying36,
  a51:=Tryz.isAgg36,
  z51:=Tryz.sizeOf36,
  v51:=Tryz.zeroValue36,
  t53:=Tryz.underlying33,
  a53:=Tryz.isAgg33,
  z53:=Tryz.sizeOf33,
  v53:=Tryz.zeroValue33,
  t131:=Tryz.underlying259,
  a131:=Tryz.isAgg259,
  z131:=Tryz.sizeOf259,
  v131:=Tryz.zeroValue259,
  t182:=Tryz.underlying291,
  a182:=Tryz.isAgg291,
  z182:=Tryz.sizeOf291,
  v182:=Tryz.zeroValue291,
  t183:=Tryz.underlying292,
  a183:=Tryz.isAgg292,
  z183:=Tryz.sizeOf292,
  v183:=Tryz.zeroValue292,
  t218:=Tryz.underlying305,
  a218:=Tryz.isAgg305,
  z218:=Tryz.sizeOf305,
  v218:=Tryz.zeroValue305,
  t222:=Tryz.underlying309,
  a222:=Tryz.isAgg309,
  z222:=Tryz.sizeOf309,
  v222:=Tryz.zeroValue309,
  t228:=Tryz.underlying313,
  a228:=Tryz.isAgg313,
  z228:=Tryz.sizeOf313,
  v228:=Tryz.zeroValue313,
  t229:=Tryz.underlying314,
  a229:=Tryz.isAgg314,
  z229:=Tryz.sizeOf314,
  v229:=Tryz.zeroValue314 }
theorem sortInt_ok (l:List Int) (hn:l.length<1000000000):TellsM P 222 (.row 3 i64T l) [.own 0] (.lit (.tuple #[])) (.row 3 i64T (sortInts l)):=sorti_tells sortI hn
def mayV (v:List Int):Bool:=decide (0<v.length∧v.length≤200∧v[0]?=some 31) && !(v.any fun n=>decide (n<0∨31<n))
def mayP (v:List Int) (m k:Int):Bool:=mayV v&&decide (1≤m∧1≤k∧k<v.length)
def upR (v:List Int) (n:Int) (a i:Nat):List Int:=((List.range' a (i-a)).filter fun j:Nat=>decide (n≤v.getD j 0)).map fun j:Nat=>(j:Int)
def upOf (v:List Int) (a b n:Int):List Int:=upR v n (max a 0).toNat (min b v.length).toNat
theorem upR_length (v:List Int) (n:Int) (a i:Nat):(upR v n a i).length≤i-a:=by
  unfold upR
  rw [List.length_map]
  exact Nat.le_trans (List.length_filter_le _ _) (by simp)
theorem up_length (v:List Int) (a b n:Int):(upOf v a b n).length≤v.length:=Nat.le_trans (upR_length ..) (by omega)
theorem upR_same (v:List Int) (n:Int) (a:Nat):upR v n a a=[]:=by unfold upR;simp
theorem upR_succ {v:List Int} {n x:Int} {a i:Nat} (hx:v[i]?=some x) (ha:a≤i):upR v n a (i+1)=upR v n a i++(if n≤x then [(i:Int)] else []):=by
  unfold upR
  rw [show i+1-a=(i-a)+1 by omega,List.range'_1_concat,show a+(i-a)=i by omega,List.filter_append,List.map_append]
  congr 1
  have:v.getD i 0=x:=by simp [hx]
  by_cases c:n≤x<;>simp [c,hx]
theorem upR_yes {v:List Int} {n x:Int} {a i:Nat} (hx:v[i]?=some x) (ha:a≤i) (h:n≤x):upR v n a (i+1)=upR v n a i++[(i:Int)]:=by rw [upR_succ hx ha,if_pos h]
theorem upR_no {v:List Int} {n x:Int} {a i:Nat} (hx:v[i]?=some x) (ha:a≤i) (h:¬n≤x):upR v n a (i+1)=upR v n a i:=by rw [upR_succ hx ha,if_neg h,List.append_nil]
theorem upR_empty {v:List Int} {n:Int} {a i:Nat} (h:i≤a):upR v n a i=[]:=by unfold upR;rw [show i-a=0 by omega];rfl
theorem upOf_end {v:List Int} {a b n:Int} {i:Nat} (h1:(max a 0).toNat≤i) (h2:(i:Int)≤min b v.length∨i=(max a 0).toNat) (h3:¬(i:Int)<min b v.length):upR v n (max a 0).toNat i=upOf v a b n:=by
  unfold upOf
  by_cases c:(i:Int)=min b v.length
  · rw [show (min b v.length).toNat=i by omega]
  · rw [upR_empty (by omega),upR_empty (by omega)]
theorem mem_upR {v:List Int} {n:Int} {a i:Nat} {x:Int}:x∈upR v n a i↔∃j:Nat,x=j∧a≤j∧j<i∧n≤v.getD j 0:=by
  unfold upR
  simp only [List.mem_map,List.mem_filter,List.mem_range'_1,decide_eq_true_eq]
  constructor
  · rintro ⟨j,⟨h1,h2⟩,rfl⟩;exact ⟨j,rfl,h1.1,by omega,h2⟩
  · rintro ⟨j,rfl,h1,h2,h3⟩;exact ⟨j,⟨⟨h1,by omega⟩,h3⟩,rfl⟩
theorem mem_up {v:List Int} {a b n x:Int}:x∈upOf v a b n↔∃j:Nat,x=j∧a≤j∧(j:Int)<b∧j<v.length∧n≤v.getD j 0:=by
  unfold upOf
  rw [mem_upR]
  constructor
  · rintro ⟨j,rfl,h1,h2,h3⟩;exact ⟨j,rfl,by omega,by omega,by omega,h3⟩
  · rintro ⟨j,rfl,h1,h2,h3,h4⟩;exact ⟨j,rfl,by omega,by omega,h4⟩
def climbS (v:List Int) (m k:Int):Nat→Int×List Int
  | 0=>(0,[])
  | i+1 =>
    (if m<(upOf v (climbS v m k i).1 ((v.length:Int)-k) (31-(i:Int))).length then (upOf v (climbS v m k i).1 ((v.length:Int)-k) (31-(i:Int))).getD ((upOf v (climbS v m k i).1 ((v.length:Int)-k) (31-(i:Int))).length-m.toNat) 0 else (climbS v m k i).1,
      (upOf v (climbS v m k i).1 ((v.length:Int)-k) (31-(i:Int))).foldl setAdd (climbS v m k i).2)
def prefixOf (v:List Int) (m k:Int):List Int×Bool:=if mayP v m k=true then (sortInts (climbS v m k 32).2,true) else ([],false)
theorem climb_from_yes {v L:List Int} {m k c:Int} {i:Nat} (hL:L=upOf v (climbS v m k i).1 ((v.length:Int)-k) (31-(i:Int))) (hc:L[L.length-m.toNat]?=some c) (h:m<L.length):c=(climbS v m k (i+1)).1:=by
  show c=if _ then _ else _
  rw [←hL,if_pos h];simp [hc]
theorem climb_from_no {v L:List Int} {m k:Int} {i:Nat} (hL:L=upOf v (climbS v m k i).1 ((v.length:Int)-k) (31-(i:Int))) (h:¬m<L.length):(climbS v m k i).1=(climbS v m k (i+1)).1:=by
  show _=if _ then _ else _
  rw [←hL,if_neg h]
theorem fold_setAdd:∀(L K:List Int) (x:Int),x∈L.foldl setAdd K↔x∈K∨x∈L
  | [],K,x=>by simp
  | y::L,K,x=>by rw [List.foldl_cons,fold_setAdd L,mem_setAdd,List.mem_cons];exact ⟨fun h=>by rcases h with (h|h)|h<;>simp [h],fun h=>by rcases h with h|h|h<;>simp [h]⟩
theorem fold_nodup:∀(L K:List Int),K.Nodup→(L.foldl setAdd K).Nodup
  | [],K,h=>h
  | y::L,K,h=>fold_nodup L _ (setAdd_nodup h)
theorem mayP_spec {v:List Int} {m k:Int} (h:mayP v m k=true):mayV v=true∧1≤m∧1≤k∧k<v.length:=by
  unfold mayP at h
  rw [Bool.and_eq_true,decide_eq_true_eq] at h
  exact h
theorem mayV_spec {v:List Int} (h:mayV v=true):0<v.length∧v.length≤200∧v[0]?=some 31∧∀n∈v,0≤n∧n≤31:=by
  unfold mayV at h
  rw [Bool.and_eq_true,decide_eq_true_eq,Bool.not_eq_true',List.any_eq_false] at h
  refine ⟨h.1.1,h.1.2.1,h.1.2.2,fun n hn=>?_⟩
  have:=h.2 n hn
  rw [decide_eq_true_eq] at this
  omega
theorem mayP_len {v:List Int} {m k:Int} (h:mayP v m k=true):1≤m∧1≤k∧k<v.length∧v.length≤200:=⟨(mayP_spec h).2.1,(mayP_spec h).2.2.1,(mayP_spec h).2.2.2,(mayV_spec (mayP_spec h).1).2.1⟩
theorem climb_ok {v:List Int} {m k:Int} (h:mayP v m k=true):∀i:Nat,i≤32→(0≤(climbS v m k i).1∧(climbS v m k i).1<v.length)∧(climbS v m k i).2.Nodup∧∀x∈(climbS v m k i).2,0≤x∧x<(v.length:Int)-k
  | 0,_=>by
    have:=mayP_len h
    exact ⟨⟨Int.le_refl _,by show (0:Int)<_;omega⟩,List.nodup_nil,fun x hx=>by cases hx⟩
  | i+1,hi=>by
    obtain ⟨h1,h2,h3⟩:=climb_ok h i (by omega)
    have hl:=mayP_len h
    obtain ⟨L,hL⟩:∃L,L=upOf v (climbS v m k i).1 ((v.length:Int)-k) (31-(i:Int)):=⟨_,rfl⟩
    have hm:∀x∈L,0≤x∧x<(v.length:Int)-k:=fun x hx=>by
      rw [hL] at hx
      obtain ⟨j,rfl,_,h5,_⟩:=mem_up.1 hx
      omega
    refine ⟨?_,?_,?_⟩
    · by_cases c:m<L.length
      · obtain ⟨z,hz⟩:∃z,L[L.length-m.toNat]?=some z:=⟨_,List.getElem?_eq_getElem (by omega)⟩
        rw [←climb_from_yes hL hz c]
        have:=hm z (List.mem_of_getElem? hz)
        omega
      · rw [←climb_from_no hL c];exact h1
    · show (List.foldl setAdd _ _).Nodup
      exact fold_nodup _ _ h2
    · intro x hx
      have hx:x∈(upOf v (climbS v m k i).1 ((v.length:Int)-k) (31-(i:Int))).foldl setAdd (climbS v m k i).2:=hx
      rw [←hL,fold_setAdd] at hx
      exact hx.elim (h3 x) (hm x)
theorem filter_two {α:Type} (p:α→Bool):∀l:List α,l.length=(l.filter p).length+(l.filter fun x=>!p x).length
  | []=>rfl
  | x::l=>by
    have:=filter_two p l
    cases h:p x<;>simp [h,this]<;>omega
theorem nodup_le:∀{n:Nat} {l:List Nat},l.Nodup→(∀i∈l,i<n)→l.length≤n
  | 0,[],_,_=>Nat.le_refl _
  | 0,x::l,_,h=>absurd (h x (List.mem_cons_self ..)) (Nat.not_lt_zero _)
  | n+1,l,hd,h=>by
    have h1:(l.filter fun i=>decide (i≠n)).length≤n:=nodup_le (hd.sublist List.filter_sublist) (fun i hi=>by
      rw [List.mem_filter] at hi
      have:=h i hi.1
      have:=of_decide_eq_true hi.2
      omega)
    have h2:(l.filter fun i=>!decide (i≠n)).length≤1:=by
      have hs:(l.filter fun i=>!decide (i≠n)).Nodup:=hd.sublist List.filter_sublist
      match hf:l.filter (fun i=>!decide (i≠n)) with
      | []=>simp
      | [_]=>simp
      | a::b::_ =>
        rw [hf] at hs
        have ha:a∈l.filter fun i=>!decide (i≠n):=by rw [hf];simp
        have hb:b∈l.filter fun i=>!decide (i≠n):=by rw [hf];simp
        simp only [List.mem_filter,Bool.not_eq_true',decide_eq_false_iff_not,Decidable.not_not] at ha hb
        simp [ha.2,hb.2] at hs
    have h3:=filter_two (fun i=>decide (i≠n)) l
    omega
theorem seen_step {K : List Int} {seen : List Nat} {i : Nat} {v : Int} (hs : seen.Nodup ∧ ∀ i ∈ seen, i < K.length) (hv : K[i]? = some v) (hi : i ∉ seen) :
    ((seen++[i]).Nodup∧∀j∈seen++[i],j<K.length)∧K.length-(seen++[i]).length<K.length-seen.length∧seen.length<K.length:=by
  have h1:(seen++[i]).Nodup∧∀j∈seen++[i],j<K.length:=⟨List.nodup_append.2 ⟨hs.1,by simp,fun a ha b hb=>by simp at hb;subst hb;exact fun e=>hi (e▸ha)⟩,fun j hj=>by
    rcases List.mem_append.1 hj with h|h
    · exact hs.2 j h
    · simp at h;subst h;exact (List.getElem?_eq_some_iff.1 hv).1⟩
  have h2:=nodup_le h1.1 h1.2
  simp only [List.length_append,List.length_cons,List.length_nil] at h2
  exact ⟨h1,by simp;omega,by omega⟩
theorem seen_all {K:List Int} {seen:List Nat} (hs:seen.Nodup∧∀i∈seen,i<K.length) (h:∀i,i<K.length→i∈seen):(seen.map fun i=>K.getD i 0).Perm K:=by
  have h1:seen.Perm (List.range K.length):=(List.perm_ext_iff_of_nodup hs.1 List.nodup_range).2 fun i=>by rw [List.mem_range];exact ⟨hs.2 i,h i⟩
  refine (h1.map _).trans ?_
  have:(List.range K.length).map (fun i=>K.getD i 0)=K:=by
    apply List.ext_getElem?
    intro i
    rw [List.getElem?_map]
    by_cases c:i<K.length
    · rw [List.getElem?_range c,List.getElem?_eq_getElem c];simp [c]
    · rw [List.getElem?_eq_none (by simpa using c),List.getElem?_eq_none (by omega)];rfl
  rw [this]
theorem sort_mem {l:List Int} {x:Int}:x∈sortInts l↔x∈l:=(List.mergeSort_perm l _).mem_iff
theorem sort_rising (l:List Int):(sortInts l).Pairwise fun a b=>a≤b:=by
  have:=List.pairwise_mergeSort (le:=fun x y:Int=>decide (x≤y)) (fun a b c h1 h2=>by simp at *;omega) (fun a b=>by simp;omega) l
  exact this.imp fun h=>of_decide_eq_true h
theorem sort_perm {l r:List Int} (h:l.Perm r):sortInts l=sortInts r :=
  (((List.mergeSort_perm l _).trans h).trans (List.mergeSort_perm r _).symm).eq_of_pairwise (fun a b _ _ h1 h2=>Int.le_antisymm h1 h2) (sort_rising l) (sort_rising r)
theorem climb_length {v K:List Int} {m k a:Int} (h:(0≤a∧a<v.length)∧K.Nodup∧∀x∈K,0≤x∧x<(v.length:Int)-k) (hl:1≤m∧1≤k∧k<v.length∧v.length≤200):K.length≤200:=by
  have h1:(K.map Int.toNat).length≤v.length:=nodup_le (by
    rw [List.Nodup,List.pairwise_map]
    exact h.2.1.imp_of_mem fun {a b} ha hb hne=>by
      have:=h.2.2 a ha
      have:=h.2.2 b hb
      omega) (fun i hi=>by
    obtain ⟨x,hx,rfl⟩:=List.mem_map.1 hi
    have:=h.2.2 x hx
    omega)
  rw [List.length_map] at h1
  omega
theorem indexFuncInt (l:List Int) (p:Int→Bool):Tells P 270 [.val (bsl i64T) l,.fn1 P i64T boolT p] (.val i64T (idx p l)):=by
 refine zc Tryz.func270 rfl rfl rfl (fun ext w hext=>?_)
 refine ze (d:=0) rfl zi (fun hsl0=>?_)
 refine CQR ?_;refine qah ?_;refine qch ?_;refine qaI ?_;refine Lp (ι:=Nat) 0 (fun (k:Nat)=>(((((Fr.none).set 0 (.val (bsl i64T) l)).set 1 (.fn1 P i64T boolT p)).set 6 (.val (bsl i64T) l)).set 7 (.val i64T (l.length:Int))).set 8 (.val i64T (k:Int))) (fun (k:Nat)=>Hp.none) (fun (k:Nat)=>k≤l.length∧idx p l=shift k (idx p (l.drop k))) (fun (k:Nat)=>l.length-k) (0) (⟨Nat.zero_le _,zdd p l⟩) ?_
 intro k hinv
 refine qao ?_;refine Cf (p:=k<l.length) (fun ht9=>?_) (fun ht9=>?_)
 ·
  obtain ⟨x,hx⟩:∃x,l[k]?=some x:=⟨_,List.getElem?_eq_getElem ht9⟩
  refine qaL ?_;refine qai ?_;refine A0 mF ?_;refine qag ?_;refine A0 (zaQ rfl rfl rfl sl_29 (by assumption)) ?_;refine qb6 ?_;refine A0 (zeo rfl rfl (by first|exact zq rfl|exact zC rfl|exact zy rfl rfl|exact zA rfl|exact zr rfl|exact zL rfl rfl|exact zB rfl)) ?_;refine CN ?_;refine zj (p:=p x=true) rfl (by simp) (fun ht16=>?_) (fun ht16=>?_)
  ·
   refine qb8 ?_
   exact zb rfl rfl (za rfl (hinv.2.trans (idx_yes hx ht16)).symm)
  ·
   refine qbn ?_
   exact Nx (k+1) (⟨by omega,hinv.2.trans (idx_no hx ht16)⟩) (by omega)
 ·
  refine qbE ?_
  exact zb rfl rfl (za rfl (hinv.2.trans (idx_end (by omega))).symm)
theorem containsFuncInt (l:List Int) (p:Int→Bool):Tells P 252 [.val (bsl i64T) l,.fn1 P i64T boolT p] (.val boolT (l.any p)):=by
 refine zc Tryz.func252 rfl rfl rfl (fun ext w hext=>?_)
 refine ze (d:=0) rfl zi (fun hsl0=>?_)
 refine CQR ?_;refine qa7 ?_;refine A0 mF ?_;refine A0 (oCl (indexFuncInt _ _) rfl fn_270 ⟨(zd rfl),(zL rfl rfl),trivial⟩) ?_;refine A0 zez ?_;refine qab ?_
 exact zb rfl rfl (za rfl (idx_any p l))
theorem mayN_ok (n:Int):Tells P 251 [.val i64T n] (.val boolT (decide (n<0∨31<n))):=by
 refine zc Tryz.func251 rfl rfl rfl (fun ext w hext=>?_)
 refine ze (d:=0) rfl zQ (fun hin0=>?_)
 refine CQR ?_;refine qa7 ?_;refine A0 zbh ?_;refine qar ?_;refine Sp (d:=5) (p:=n<0) (fun g5=>?_) (fun g5=>?_)
 ·
  refine A2 ?_;refine A2 ?_;refine qaW ?_
  exact zb rfl rfl (za rfl ((decide_eq_true (.inl g5)).symm))
 ·
  refine A1 mV ?_;refine A1 zbb ?_;refine qaW ?_
  exact zb rfl rfl (za rfl (by rw [decide_eq_decide];simp only [IntL.toI,id_eq];omega))
theorem mayV_ok (v:List Int):Tells P 219 [.val (bsl i64T) v] (.val boolT (mayV v)):=by
 refine zc Tryz.func219 rfl rfl rfl (fun ext w hext=>?_)
 refine ze (d:=0) rfl zi (fun hsl0=>?_)
 refine CQR ?_;refine qai ?_;refine A0 aC ?_;refine qbx ?_;refine qch ?_;refine A0 zbb ?_;refine qar ?_;refine Sp (d:=7) (p:=0<v.length) (fun g7=>?_) (fun g7=>?_)
 ·
  refine A1 mV ?_;refine A1 (zah rfl rfl isl_29) ?_;refine A1 zey ?_;refine qaw ?_;refine Sp (d:=12) (p:=v.length≤200) (fun g12=>?_) (fun g12=>?_)
  ·
   obtain ⟨x,hx⟩:∃x,v[0]?=some x:=⟨_,List.getElem?_eq_getElem g7⟩
   refine A1 mV ?_;refine A1 (zm (i:=0) rfl rfl rfl (by omega) sl_29 (by assumption)) ?_;refine A1 (zf rfl rfl ty_3) ?_;refine A1 zbU ?_;refine qaw ?_;refine Sp (d:=18) (p:=x=31) (fun g18=>?_) (fun g18=>?_)
   ·
    refine A1 mV ?_;refine A1 mC ?_;refine A1 (oCl (containsFuncInt v (fun n=>decide (n<0∨31<n))) rfl fn_252 ⟨(zd rfl),(by first|exact zc4 (Cs:=[]) rfl fn_251 (by intro n hn;cases hn) trivial rfl (fun x=>mayN_ok x)|exact zc3 (Cs:=[]) rfl fn_251 (by intro n hn;cases hn) trivial rfl (fun x y=>mayN_ok x)|exact zc5 rfl),trivial⟩) ?_;refine A1 oN ?_;refine qaW ?_
    exact zb rfl rfl (za rfl ((by unfold mayV;rw [decide_eq_true ⟨g7,g12,by rw [hx,g18]⟩];rfl)))
   ·
    refine qaJ ?_;refine qaW ?_
    exact zb rfl rfl (za rfl ((by unfold mayV;rw [decide_eq_false (fun h=>g18 (by have:=h.2.2;rw [hx] at this;exact Option.some.inj this))];rfl)))
  ·
   refine qaJ ?_;refine qak ?_;refine qab ?_
   exact zb rfl rfl (za rfl ((by unfold mayV;rw [decide_eq_false (fun h=>g12 h.2.1)];rfl)))
 ·
  refine qac ?_;refine qb5 ?_;refine qaW ?_
  exact zb rfl rfl (za rfl ((by unfold mayV;rw [decide_eq_false (fun h=>g7 h.1)];rfl)))
theorem mayP_ok (v:List Int) (m k:Int):Tells P 180 [.val (bsl i64T) v,.val i64T m,.val i64T k] (.val boolT (mayP v m k)):=by
 refine zc Tryz.func180 rfl rfl rfl (fun ext w hext=>?_)
 refine ze (d:=0) rfl zi (fun hsl0=>?_)
 refine ze (d:=1) rfl zQ (fun hin1=>?_)
 refine ze (d:=2) rfl zQ (fun hin2=>?_)
 refine CQR ?_;refine qa7 ?_;refine A0 (oCl (mayV_ok v) rfl fn_219 ⟨(zd rfl),trivial⟩) ?_;refine qar ?_;refine Sp (d:=9) (p:=mayV v=true) (fun g9=>?_) (fun g9=>?_)
 ·
  refine A1 mV ?_;refine A1 zez ?_;refine qaw ?_;refine Sp (d:=13) (p:=1≤m) (fun g13=>?_) (fun g13=>?_)
  ·
   refine A1 mV ?_;refine A1 zez ?_;refine qaw ?_;refine Sp (d:=17) (p:=1≤k) (fun g17=>?_) (fun g17=>?_)
   ·
    refine A1 mV ?_;refine A1 (zah rfl rfl isl_29) ?_;refine A1 mV ?_;refine A1 zbb ?_;refine qaW ?_
    exact zb rfl rfl (za rfl ((by unfold mayP;rw [g9,Bool.true_and,decide_eq_decide];simp only [IntL.toI,id_eq];omega)))
   ·
    refine qaJ ?_;refine qaW ?_
    exact zb rfl rfl (za rfl ((by unfold mayP;rw [decide_eq_false (fun h=>g17 h.2.1),Bool.and_false])))
  ·
   refine A2 ?_;refine A2 ?_;refine qak ?_;refine qab ?_
   exact zb rfl rfl (za rfl ((by unfold mayP;rw [decide_eq_false (fun h=>g13 h.1),Bool.and_false])))
 ·
  refine qaX ?_;refine qak ?_;refine qab ?_
  exact zb rfl rfl (za rfl ((by unfold mayP;rw [Bool.eq_false_iff.2 g9];rfl)))
theorem up_ok (v:List Int) (a b n:Int) (hl:v.length≤1000000000000):Tells P 220 [.val (bsl i64T) v,.val i64T a,.val i64T b,.val i64T n] (.fresh 3 i64T (upOf v a b n)):=by
 refine zc Tryz.func220 rfl rfl rfl (fun ext w hext=>?_)
 refine ze (d:=0) rfl zi (fun hsl0=>?_)
 refine ze (d:=1) rfl zQ (fun hin1=>?_)
 refine ze (d:=2) rfl zQ (fun hin2=>?_)
 refine ze (d:=3) rfl zQ (fun hin3=>?_)
 refine qbP ?_;refine A0 aL ?_;refine qbb ?_;refine A0 (g_max rfl rfl rfl) ?_;refine qbC ?_;refine zp (d:=10) (y:=(((max a 0).toNat:Nat):Int)) rfl (by first|omega|(simp only [IntL.toI,id_eq];omega)) ?_;refine za0 (T:=i64T) (d:=9) 3 rfl ?_;refine zK (n:=0) (y:=upR v n (max a 0).toNat (max a 0).toNat) rfl (upR_same v n _).symm ?_
 refine Lp (ι:=Nat) 1 (fun (i:Nat)=>(((((Fr.none).set 0 (.val (bsl i64T) v)).set 2 (.val i64T b)).set 3 (.val i64T n)).set 9 (.own 0)).set 10 (.val i64T (i:Int))) (fun (i:Nat)=>(Hp.none).set 0 (.row 3 i64T (upR v n (max a 0).toNat i))) (fun (i:Nat)=>(max a 0).toNat≤i∧((i:Int)≤min b v.length∨i=(max a 0).toNat)) (fun (i:Nat)=>v.length-i) ((max a 0).toNat) (⟨Nat.le_refl _,.inr rfl⟩) ?_
 intro i hinv
 refine qbg ?_;refine qar ?_;refine qch ?_;refine A0 (g_min rfl rfl rfl) ?_;refine qaz ?_;refine Cf (p:=(i:Int)<min b v.length) (fun ht18=>?_) (fun ht18=>?_)
 ·
  obtain ⟨x,hx⟩:∃x,v[i]?=some x:=⟨_,List.getElem?_eq_getElem (by omega)⟩
  refine CSQBQR ?_;refine qag ?_;refine A0 (zm (i:=i) rfl rfl rfl (by omega) sl_29 (by assumption)) ?_;refine qb6 ?_;refine qar ?_;refine qbk ?_;refine Cf (p:=n≤x) (fun ht26=>?_) (fun ht26=>?_)
  ·
   refine CR ?_;refine A0 mO ?_;refine qar ?_;refine A0 (zo (T:=i64T) (xs:=[_]) rfl sl_29 zeg ⟨rfl,rfl,trivial⟩ rfl rfl) ?_;refine zn rfl rfl rfl rfl rfl rfl rfl zeg (by have:=upR_length v n (max a 0).toNat i;simp;omega) ?_;refine A0 aO ?_;refine qaR ?_;refine zaB 1 0 2 rfl rfl rfl rfl rfl rfl ?_;refine zK (n:=0) (y:=upR v n (max a 0).toNat (i+1)) rfl (upR_yes hx hinv.1 ht26).symm ?_
   exact Nx (i+1) (⟨by omega,by omega⟩) (by omega)
  ·
   refine qb3 ?_;refine zK (n:=0) (y:=upR v n (max a 0).toNat (i+1)) rfl (upR_no hx hinv.1 ht26).symm ?_
   exact Nx (i+1) (⟨by omega,by omega⟩) (by omega)
 ·
  refine qat ?_
  exact zb rfl rfl (zg rfl rfl (upOf_end hinv.1 hinv.2 ht18))
theorem prefix_ok (v:List Int) (m k:Int):Tells P 123 [.val (bsl i64T) v,.val i64T m,.val i64T k] (.tup2 (.fresh 3 i64T (prefixOf v m k).1) (.val boolT (prefixOf v m k).2)):=by
 refine zc Tryz.func123 rfl rfl rfl (fun ext w hext=>?_)
 refine ze (d:=0) rfl zi (fun hsl0=>?_)
 refine ze (d:=1) rfl zQ (fun hin1=>?_)
 refine ze (d:=2) rfl zQ (fun hin2=>?_)
 refine qay ?_;refine qbB ?_;refine qag ?_;refine qar ?_;refine A0 (oCl (mayP_ok v m k) rfl fn_180 ⟨(zd rfl),(zd rfl),(zd rfl),trivial⟩) ?_;refine qaE ?_;refine zj (p:=¬mayP v m k=true) rfl (by simp) (fun ht13=>?_) (fun ht13=>?_)
 ·
  refine qay ?_;refine qab ?_
  exact z7 rfl rfl (by unfold prefixOf;rw [if_neg ht13];exact zH rfl) (za rfl (by unfold prefixOf;rw [if_neg ht13]))
 ·
  have hmp:mayP v m k=true:=Classical.byContradiction ht13
  have hcl:=climb_ok hmp
  have hvl:=mayP_len hmp
  refine CSQR ?_;refine aw_mkmap rfl rfl rfl rfl (fun b0=>?_)
  refine aw_alloc_p zp_212 rfl rfl rfl rfl rfl rfl ?_;refine zdk rfl rfl rfl rfl rfl rfl rfl rfl rfl rfl ty_212 ?_;refine CNQR ?_;refine qag ?_;refine qar ?_;refine A0 (g_mkf (caps:=[_]) rfl rfl) ?_;refine zcf rfl rfl rfl rfl Tryz.func181 fn_181 rfl rfl (fun ia2 iok2=>?_)
  refine CQR ?_;refine qa7 ?_;refine CNB ?_;refine Lp (ι:=Nat) 2 (fun (i:Nat)=>((((((Fr.none).set 0 (.val (bsl i64T) v)).set 1 (.val i64T m)).set 2 (.val i64T k)).set 3 (.clo 182 [1])).set 8 (.val i64T (climbS v m k i).1)).set 12 (.val i64T (i:Int))) (fun (i:Nat)=>((Hp.none).set 0 (.objAt b0 (setO (climbS v m k i).2))).set 1 (.parts 212 [.lit (.map (some b0))])) (fun (i:Nat)=>i≤32) (fun (i:Nat)=>32-i) (0) (Nat.zero_le _) ?_
  intro i hi
  refine qao ?_;refine Cf (p:=i<32) (fun ht13=>?_) (fun ht13=>?_)
  ·
   have hci:=hcl i (by omega)
   have hup:=zs (up_ok v (climbS v m k i).1 ((v.length:Int)-k) (31-(i:Int)) (by omega))
   obtain ⟨L,hL⟩:∃L,L=upOf v (climbS v m k i).1 ((v.length:Int)-k) (31-(i:Int)):=⟨_,rfl⟩
   rw [←hL] at hup
   have hLl:L.length≤200:=by rw [hL];have:=up_length v (climbS v m k i).1 ((v.length:Int)-k) (31-(i:Int));omega
   refine qaL ?_;refine qa7 ?_;refine A0 zay ?_;refine qb7 ?_;refine qar ?_;refine qch ?_;refine qby ?_;refine qar ?_;refine A0 (oCl (hup) rfl fn_220 ⟨(zd rfl),(zd rfl),(zd rfl),(zd rfl),trivial⟩) ?_;refine qai ?_;refine A0 mC ?_;refine qag ?_;refine qar ?_;refine aw_inlinec rfl rfl rfl rfl rfl Tryz.func182 fn_182 rfl rfl (by intro n hn;simp only [List.mem_cons,List.not_mem_nil,or_false] at hn;rcases hn with rfl<;>rfl) (fun ia3 iok3=>?_)
   refine qa2 ?_;refine qch ?_;refine qaI ?_;refine Lp (ι:=Nat) 2 (fun (j:Nat)=>((((Fr.none).set 3 (.ptr 1 0)).set 9 (.val (sl i64T) L)).set 10 (.val i64T (L.length:Int))).set 11 (.val i64T (j:Int))) (fun (j:Nat)=>((Hp.none).set 0 (.objAt b0 (setO ((L.take j).foldl setAdd (climbS v m k i).2)))).set 1 (.parts 212 [.lit (.map (some b0))])) (fun (j:Nat)=>j≤L.length) (fun (j:Nat)=>L.length-j) (0) (Nat.zero_le _) ?_
   intro j hj
   refine qao ?_;refine Cf (p:=j<L.length) (fun ht12=>?_) (fun ht12=>?_)
   ·
    obtain ⟨x,hx⟩:∃x,L[j]?=some x:=⟨_,List.getElem?_eq_getElem ht12⟩
    refine CSQBQR ?_;refine A0 (zaQ rfl rfl rfl sl_29 (by assumption)) ?_;refine qb6 ?_;refine A0 aX ?_;refine CNR ?_;refine A0 (by first|exact za2 rfl rfl rfl rfl rfl ty_212|exact zcc rfl rfl rfl rfl ty_212) ?_;refine A0 mX ?_;refine A0 (g_build0 rfl zu_214 su_214) ?_;refine aw_mapput (n:=0) rfl rfl rfl rfl rfl rfl rfl mp_212 ui_3 ?_;refine qbw ?_;refine aw_reobj 0 (setO ((L.take (j+1)).foldl setAdd (climbS v m k i).2)) rfl (by rw [List.take_add_one,hx,List.foldl_append];rfl) ?_
    exact Nx (j+1) (by omega) (by omega)
   ·
    refine CE ?_;refine aw_back0f rfl ?_;refine CNQ ?_;refine aw_reobj 0 (setO (L.foldl setAdd (climbS v m k i).2)) rfl (by rw [List.take_of_length_le (by omega)]) ?_;refine CR ?_;refine qar ?_;refine qch ?_;refine qar ?_;refine qcb ?_;refine Cf (p:=m<L.length) (fun ht33=>?_) (fun ht33=>?_)
    ·
     obtain ⟨c,hc⟩:∃c,L[L.length-m.toNat]?=some c:=⟨_,List.getElem?_eq_getElem (by omega)⟩
     refine CR ?_;refine qag ?_;refine qch ?_;refine qby ?_;refine A0 (zm (i:=L.length-m.toNat) rfl rfl rfl (by omega) sl_29 (by assumption)) ?_;refine qb6 ?_;refine A0 aX ?_;refine qbw ?_;refine zp (d:=8) (y:=(climbS v m k (i+1)).1) rfl (climb_from_yes hL hc ht33) ?_;refine aw_reobj 0 (setO (climbS v m k (i+1)).2) rfl (by rw [hL];rfl) ?_
     exact Nx (i+1) (by omega) (by omega)
    ·
     refine qbn ?_;refine zp (d:=8) (y:=(climbS v m k (i+1)).1) rfl (climb_from_no hL ht33) ?_;refine aw_reobj 0 (setO (climbS v m k (i+1)).2) rfl (by rw [hL];rfl) ?_
     exact Nx (i+1) (by omega) (by omega)
  ·
   refine CE ?_;refine aw_back0f rfl ?_;refine CNQ ?_
   have hi32:i=32:=by omega
   subst hi32
   obtain ⟨K,hK⟩:∃K,K=(climbS v m k 32).2:=⟨_,rfl⟩
   have hck:=hcl 32 (by omega)
   rw [←hK] at hck
   refine aw_reobj 0 (setO K) rfl (by rw [hK]) ?_
   have hkeys:∀x∈K,-9223372036854775808≤x∧x≤9223372036854775807:=fun x hx=>by have:=hck.2.2 x hx;omega
   have hKl:=climb_length hck hvl
   refine CR ?_;refine A0 (by first|exact za2 rfl rfl rfl rfl rfl ty_212|exact zcc rfl rfl rfl rfl ty_212) ?_;refine zcf rfl rfl rfl rfl Tryz.func184 fn_184 rfl rfl (fun ia4 iok4=>?_)
   refine CQR ?_;refine aw_box_p rfl rfl rfl rfl rfl rfl rfl ?_;refine A0 aL ?_;refine CNQR ?_;refine A0 (g_mkf (caps:=[_]) rfl rfl) ?_;refine A0 aC ?_;refine CN ?_;refine zc2 rfl ?_;refine zcf rfl rfl rfl rfl Tryz.func183 fn_183 rfl rfl (fun ia6 iok6=>?_)
   refine qbP ?_;refine A0 mC ?_;refine zcf rfl rfl rfl rfl Tryz.func221 fn_221 rfl rfl (fun ia7 iok7=>?_)
   refine qbP ?_;refine A0 mC ?_;refine zcf rfl rfl rfl rfl Tryz.func253 fn_253 rfl rfl (fun ia8 iok8=>?_)
   refine CQR ?_;refine aw_box_p rfl rfl rfl rfl rfl rfl rfl ?_;refine A0 aL ?_;refine CN ?_;refine aw_nilpart 3 3 i64T rfl ?_;refine CQQR ?_;refine A0 mC ?_;refine CNB ?_;refine aw_range rfl rfl rfl Tryz.func223 fn_223 rfl rfl (by intro n hn;simp only [List.mem_cons,List.not_mem_nil,or_false] at hn;rcases hn with rfl<;>rfl) (fun fid11 ca11 lN11 DN11 cok11 rc11 hrc11=>?_)
   refine CQR ?_;refine A0 (by first|exact za2 rfl rfl rfl rfl rfl ty_212|exact zcc rfl rfl rfl rfl ty_212) ?_;refine aw_rangemap (n:=0) rfl rfl rfl rfl rfl rfl mp_212 (fun it0=>?_)
   refine CNB ?_;refine zaB 4 8 9 rfl rfl rfl rfl rfl rfl ?_;refine Lp (ι:=List Nat) 9 (fun (seen:List Nat)=>((Fr.none).set 0 (.lit (.func (.yield lN11) #[] #[]))).set 5 (.ptr 7 0)) (fun (seen:List Nat)=>((((((Hp.none).set 0 (.objAt b0 (setO K))).set 3 (.parts 29 [.own 8])).set 8 (.row 3 i64T (seen.map fun i=>K.getD i 0))).set 5 (.objAt DN11 (.deferred (some [])))).set 6 (.objAt lN11 (rc11 .ready none))).set 7 (.objAt it0 (itO b0 K.length seen))) (fun (seen:List Nat)=>seen.Nodup∧∀i∈seen,i<K.length) (fun (seen:List Nat)=>K.length-seen.length) ([]) (⟨List.nodup_nil,fun i h=>by cases h⟩) ?_
   intro seen hs
   refine CQR ?_;refine aw_nextmap (n1:=0) (n2:=7) rfl rfl rfl rfl rfl (hkeys) rfl rfl (fun hall=>?_) (fun i v hiv his=>?_)
   ·
    refine A0 (g_x1f rfl rfl) ?_;refine CNQ ?_;refine Cg ?_;refine CE ?_;refine zdA (nL:=6) rfl hrc11 rfl (by decide) ?_;refine CI ?_;refine CQR ?_;refine A0 (by first|exact za2 rfl rfl rfl rfl rfl ty_29|exact zcc rfl rfl rfl rfl ty_29) ?_;refine qbe ?_;refine zaK (zc6 (nD:=5) rfl rfl rfl (ar_back1 rfl ?_))
    refine qbe ?_;refine zc2 rfl ?_;refine qaT ?_;refine aw_callu (sortInt_ok (seen.map fun i=>K.getD i 0) (by rw [List.length_map];have:=nodup_le hs.1 hs.2;omega)) rfl fn_222 rfl trivial trivial rfl ⟨(by first|exact zbz rfl|exact zby rfl|exact zaS rfl|exact zbC rfl|exact zbA rfl|exact zbB rfl|exact zbx rfl rfl (by decide)),trivial⟩ rfl rfl rfl ?_;refine CNQR ?_;refine A0 mO ?_;refine qbe ?_;refine zc2 rfl ?_;refine A0 aO ?_;refine qab ?_
    exact z7 rfl rfl (zg rfl rfl (by unfold prefixOf;rw [if_pos hmp,←hK];exact sort_perm (seen_all hs hall))) (za rfl (by unfold prefixOf;rw [if_pos hmp]))
   ·
    obtain ⟨hs1,hs2,hs3⟩:=seen_step hs hiv his
    refine A0 e30 ?_;refine CNQ ?_;refine Ct ?_;refine CS ?_;refine CB ?_;refine CQR ?_;refine aw_entry (n1:=0) (n2:=7) (v:=v) (i:=i) rfl rfl rfl rfl rfl (by exact rfl) (by exact rfl) (by assumption) (hkeys) ?_;refine A0 (by first|exact zW rfl rfl|exact zU rfl rfl) ?_;refine A0 aX ?_;refine CNQR ?_;refine A0 mL ?_;refine A0 mX ?_;refine aw_yield (nL:=6) rfl rfl rfl rfl rfl hrc11 rfl rfl rfl (fun ya12 yok12=>?_)
    refine CR ?_;refine qaV ?_;refine aw_begin (nL:=6) hrc11 rfl ?_;refine CB ?_;refine CR ?_;refine A0 (by first|exact za2 rfl rfl rfl rfl rfl ty_29|exact zcc rfl rfl rfl rfl ty_29) ?_;refine A0 mX ?_;refine A0 (zo (T:=i64T) (xs:=[_]) rfl sl_29 zeg ⟨rfl,rfl,trivial⟩ rfl rfl) ?_;refine zn rfl rfl rfl rfl rfl rfl rfl zeg (by simp;omega) ?_;refine zdk rfl rfl rfl rfl rfl rfl rfl rfl rfl rfl ty_29 ?_;refine CN ?_;refine CI ?_;refine zdz (nL:=6) hrc11 rfl ?_;refine qaE ?_;refine Cg ?_;refine CS ?_;refine CI ?_;refine zaB 9 8 10 rfl rfl rfl rfl rfl rfl ?_
    refine zK (n:=8) (y:=(seen++[i]).map fun i=>K.getD i 0) rfl (by rw [List.map_append];simp [hiv]) ?_
    exact Nx (seen++[i]) (hs1) (hs2)
set_option maxRecDepth 20000
def proverN:GoT (List Block×Int×Int×List Int×Unit):=pairT (bsl blockT) (pairT i64T (pairT i64T (pairT (sl i64T) nilT)))
def proofN:GoT (Int×Int×Unit):=pairT i64T (pairT i64T nilT)
theorem zn_prover:ZeroAt P 163 proverN ([],0,0,[],()):=zam (z6 zcQ (z6 zcx (z6 zcx (z6 zcQ zero_nil)))) (by kernel_rfl)
theorem zn_proof:ZeroAt P 24 proofN (0,0,()):=zam (z6 zcx (z6 zcx zero_nil)) (by kernel_rfl)
theorem split_prover {l:List Block} {m k:Int} {v:List Int}:SplitOk proverN (l,m,k,v,()) [.val (bsl blockT) l,.val i64T m,.val i64T k,.val (sl i64T) v,.lit (.slice none 0 0)]:=zdO zeJ (zdO zeJ (zdO zeJ (zdO zeJ split_nil)))
theorem split_proof {m k:Int}:SplitOk proofN (m,k,()) [.val i64T m,.val i64T k,.lit (.slice none 0 0)]:=zdO zeJ (zdO zeJ split_nil)
theorem join_proof {m k:Int} {l:List Part}:JoinOk proofT (⟨m,k,l⟩:Proof) [.val i64T m,.val i64T k] partT l:=join_via (join_pair (join_pair join_last))
def placesOf (l:List Block) (m k:Int):List Int:=(prefixOf (levelsOf l) m k).1++(List.range k.toNat).map fun j:Nat=>(l.length:Int)-k+(j:Int)
def prPart (l:List Block) (i:Int):Part:=⟨(l.getD i.toNat default).h,(l.getD i.toNat default).l⟩
def prE (l:List Block) (m k:Int):Int:=if ¬(checkOf l).2=0 then (checkOf l).2 else if m<1∨20<m∨k<1∨20<k∨l.length≤k then 1 else 0
def prOf (l:List Block) (m k:Int):Proof:=if prE l m k=0 then ⟨m,k,(placesOf l m k).map (prPart l)⟩ else zProof
theorem prefix_mem {v:List Int} {m k x:Int} (h:x∈(prefixOf v m k).1):0≤x∧x<(v.length:Int)-k:=by
  unfold prefixOf at h
  split at h
  · rename_i c
    exact (climb_ok c 32 (Nat.le_refl _)).2.2 x (sort_mem.1 h)
  · cases h
theorem prefix_length (v:List Int) (m k:Int):(prefixOf v m k).1.length≤200:=by
  unfold prefixOf
  split
  · rename_i c
    have:=climb_length (climb_ok c 32 (Nat.le_refl _)) (mayP_len c)
    simpa [sortInts] using this
  · simp
theorem levels_length (l:List Block):(levelsOf l).length=l.length:=by unfold levelsOf;simp
theorem places_mem {l:List Block} {m k x:Int} (hk:1≤k∧k<l.length) (h:x∈placesOf l m k):0≤x∧x<l.length:=by
  unfold placesOf at h
  rcases List.mem_append.1 h with h|h
  · have:=prefix_mem h
    rw [levels_length] at this
    omega
  · obtain ⟨j,hj,rfl⟩:=List.mem_map.1 h
    rw [List.mem_range] at hj
    omega
theorem places_length {l:List Block} {m k:Int} (hk:k≤20):(placesOf l m k).length≤220:=by
  unfold placesOf
  have:=prefix_length (levelsOf l) m k
  simp;omega
theorem prBuild_ok (l:List Block) (m k:Int) (hl:smallC l):Tells P 30 [.val (bsl blockT) l,.val i64T m,.val i64T k] (.tup2 (.val proofT (prOf l m k)) (.val i64T (prE l m k))):=by
 have hll:=hl.1
 refine zc Tryz.func30 rfl rfl rfl (fun ext w hext=>?_)
 refine ze (d:=0) rfl zi (fun hsl0=>?_)
 refine ze (d:=1) rfl zQ (fun hin1=>?_)
 refine ze (d:=2) rfl zQ (fun hin2=>?_)
 refine CQR ?_;refine zI ze_24 rfl rfl rfl rfl ?_;refine qb7 ?_;refine qar ?_;refine zcf rfl rfl rfl rfl Tryz.func69 fn_69 rfl rfl (fun ia1 iok1=>?_)
 refine qay ?_;refine qah ?_;refine A0 (oCl (check_ok l hl) rfl fn_28 ⟨(zd rfl),trivial⟩) ?_;refine A0 mX ?_;refine A0 (by first|exact zW rfl rfl|exact zU rfl rfl) ?_;refine A0 (by first|exact zY rfl rfl|exact zX rfl rfl) ?_;refine qbm ?_;refine qan ?_;refine qa7 ?_;refine qaB ?_;refine zj (p:=¬(checkOf l).2=0) rfl (by simp [IntL.toI]) (fun ht18=>?_) (fun ht18=>?_)
 ·
  refine qa2 ?_;refine A0 aL ?_;refine qab ?_;refine zfs rfl ?_;refine A0 (by first|exact zeR (.inl rfl) rfl|exact zeQ (.inl rfl) rfl) ?_;refine A0 (by first|exact zW rfl rfl|exact zU rfl rfl) ?_;refine A0 (by first|exact zY rfl rfl|exact zX rfl rfl) ?_;refine qbc ?_;refine aw_if_t rfl (by simp;exact ht18) ?_;refine CQR ?_;refine A0 (zV rfl ze_24 bd_24 .nil rfl) ?_;refine A0 mX ?_;refine qbl ?_;refine qaV ?_
  exact zF rfl rfl (zw rfl rfl zdG (by unfold prOf;rw [if_neg (by unfold prE;rw [if_pos ht18];exact ht18)])) (zac (za rfl (by unfold prE;rw [if_pos ht18])))
 ·
  refine qbO ?_;refine A0 zbh ?_;refine qar ?_;refine Sp (d:=22) (p:=m<1) (fun g22=>?_) (fun g22=>?_)
  ·
   refine qaX ?_;refine qaw ?_;refine A2 ?_;refine A2 ?_;refine qak ?_;refine CN ?_;refine Ct ?_;refine qay ?_;refine qab ?_;refine zfs rfl ?_;refine A0 (by first|exact zeR (.inl rfl) rfl|exact zeQ (.inl rfl) rfl) ?_;refine A0 (by first|exact zW rfl rfl|exact zU rfl rfl) ?_;refine A0 (by first|exact zY rfl rfl|exact zX rfl rfl) ?_;refine qbc ?_;refine Ct ?_;refine CQR ?_;refine A0 (zV rfl ze_24 bd_24 .nil rfl) ?_;refine A0 mX ?_;refine qbl ?_;refine qaV ?_
   exact zF rfl rfl (zw rfl rfl zdG (by unfold prOf;rw [if_neg (by unfold prE;rw [if_neg (by omega),if_pos (by omega)];decide)])) (zac (za rfl (by unfold prE;rw [if_neg (by omega),if_pos (by omega)])))
  ·
   refine A1 mV ?_;refine A1 zbb ?_;refine qaw ?_;refine Sp (d:=26) (p:=20<m) (fun g26=>?_) (fun g26=>?_)
   ·
    refine qaX ?_;refine qak ?_;refine CN ?_;refine Ct ?_;refine qay ?_;refine qab ?_;refine zfs rfl ?_;refine A0 (by first|exact zeR (.inl rfl) rfl|exact zeQ (.inl rfl) rfl) ?_;refine A0 (by first|exact zW rfl rfl|exact zU rfl rfl) ?_;refine A0 (by first|exact zY rfl rfl|exact zX rfl rfl) ?_;refine qbc ?_;refine Ct ?_;refine CQR ?_;refine A0 (zV rfl ze_24 bd_24 .nil rfl) ?_;refine A0 mX ?_;refine qbl ?_;refine qaV ?_
    exact zF rfl rfl (zw rfl rfl zdG (by unfold prOf;rw [if_neg (by unfold prE;rw [if_neg (by omega),if_pos (by omega)];decide)])) (zac (za rfl (by unfold prE;rw [if_neg (by omega),if_pos (by omega)])))
   ·
    refine A1 mV ?_;refine A1 zbh ?_;refine qaw ?_;refine Sp (d:=30) (p:=k<1) (fun g30=>?_) (fun g30=>?_)
    ·
     refine A2 ?_;refine A2 ?_;refine qak ?_;refine CN ?_;refine Ct ?_;refine qay ?_;refine qab ?_;refine zfs rfl ?_;refine A0 (by first|exact zeR (.inl rfl) rfl|exact zeQ (.inl rfl) rfl) ?_;refine A0 (by first|exact zW rfl rfl|exact zU rfl rfl) ?_;refine A0 (by first|exact zY rfl rfl|exact zX rfl rfl) ?_;refine qbc ?_;refine Ct ?_;refine CQR ?_;refine A0 (zV rfl ze_24 bd_24 .nil rfl) ?_;refine A0 mX ?_;refine qbl ?_;refine qaV ?_
     exact zF rfl rfl (zw rfl rfl zdG (by unfold prOf;rw [if_neg (by unfold prE;rw [if_neg (by omega),if_pos (by omega)];decide)])) (zac (za rfl (by unfold prE;rw [if_neg (by omega),if_pos (by omega)])))
    ·
     refine A1 mV ?_;refine A1 zbb ?_;refine qaw ?_;refine Sp (d:=34) (p:=20<k) (fun g34=>?_) (fun g34=>?_)
     ·
      refine qaJ ?_;refine qaq ?_;refine Ct ?_;refine qay ?_;refine qab ?_;refine zfs rfl ?_;refine A0 (by first|exact zeR (.inl rfl) rfl|exact zeQ (.inl rfl) rfl) ?_;refine A0 (by first|exact zW rfl rfl|exact zU rfl rfl) ?_;refine A0 (by first|exact zY rfl rfl|exact zX rfl rfl) ?_;refine qbc ?_;refine Ct ?_;refine CQR ?_;refine A0 (zV rfl ze_24 bd_24 .nil rfl) ?_;refine A0 mX ?_;refine qbl ?_;refine qaV ?_
      exact zF rfl rfl (zw rfl rfl zdG (by unfold prOf;rw [if_neg (by unfold prE;rw [if_neg (by omega),if_pos (by omega)];decide)])) (zac (za rfl (by unfold prE;rw [if_neg (by omega),if_pos (by omega)])))
     ·
      refine A1 mV ?_;refine A1 (zah rfl rfl isl_52) ?_;refine A1 mV ?_;refine A1 zey ?_;refine qaq ?_;refine Cf (p:=l.length≤k) (fun ht39=>?_) (fun ht39=>?_)
      ·
       refine qay ?_;refine qab ?_;refine zfs rfl ?_;refine A0 (by first|exact zeR (.inl rfl) rfl|exact zeQ (.inl rfl) rfl) ?_;refine A0 (by first|exact zW rfl rfl|exact zU rfl rfl) ?_;refine A0 (by first|exact zY rfl rfl|exact zX rfl rfl) ?_;refine qbc ?_;refine Ct ?_;refine CQR ?_;refine A0 (zV rfl ze_24 bd_24 .nil rfl) ?_;refine A0 mX ?_;refine qbl ?_;refine qaV ?_
       exact zF rfl rfl (zw rfl rfl zdG (by unfold prOf;rw [if_neg (by unfold prE;rw [if_neg (by omega),if_pos (by omega)];decide)])) (zac (za rfl (by unfold prE;rw [if_neg (by omega),if_pos (by omega)])))
      ·
       have hpl:=prefix_length (levelsOf l) m k
       refine qcl ?_;refine qag ?_;refine A0 (oCl (zs (levels_ok l (by omega))) rfl fn_122 ⟨(zd rfl),trivial⟩) ?_;refine A0 (zV rfl zn_prover bd_163 (.cons fd_163_0 (Lens.fst _ _) ty_52 rfl (.cons fd_163_1 ((Lens.snd _ _).comp (Lens.fst _ _)) ty_3 rfl (.cons fd_163_2 ((Lens.snd _ _).comp ((Lens.snd _ _).comp (Lens.fst _ _))) ty_3 rfl (.cons fd_163_3 ((Lens.snd _ _).comp ((Lens.snd _ _).comp ((Lens.snd _ _).comp (Lens.fst _ _)))) ty_29 rfl .nil)))) rfl) ?_;refine aw_box rfl rfl rfl rfl rfl ?_;refine A0 aP ?_;refine CN ?_;refine aw_splitb 2 (x:=(l,m,k,levelsOf l,())) split_prover rfl ?_
       refine aw_nilpartL 2 3 i64T [.val (bsl blockT) l,.val i64T m,.val i64T k,.val (sl i64T) (levelsOf l)] rfl (by intro x hx;simp only [List.mem_cons,List.not_mem_nil,or_false] at hx;rcases hx with rfl|rfl|rfl|rfl<;>trivial) ?_;refine CQR ?_;refine A0 mP ?_;refine A0 mP ?_;refine A0 (g_nc rfl rfl) ?_;refine A0 (oFp fd_163_3) ?_;refine A0 (za2 rfl rfl rfl rfl rfl ty_29) ?_;refine qag ?_;refine aw_callf2 (prefix_ok (levelsOf l) m k) rfl fn_123 ⟨(zd rfl),(zd rfl),(zd rfl),trivial⟩ flat_bool rfl rfl rfl ?_;refine A0 (by first|exact zeR (.inl rfl) rfl|exact zeQ (.inl rfl) rfl) ?_
       refine A0 (by first|exact zW rfl rfl|exact zU rfl rfl) ?_;refine A0 (by first|exact zY rfl rfl|exact zX rfl rfl) ?_;refine A0 (g_nc rfl rfl) ?_;refine A0 (oFp fd_163_4) ?_;refine zdk rfl rfl rfl rfl rfl rfl rfl rfl rfl rfl ty_29 ?_;refine CNQQR ?_;refine qag ?_;refine CNB ?_;refine zK (n:=4) (y:=(prefixOf (levelsOf l) m k).1++(List.range 0).map fun j:Nat=>(l.length:Int)-k+(j:Int)) rfl (by simp) ?_
       refine Lp (ι:=Nat) 5 (fun (i:Nat)=>(((((Fr.none).set 0 (.val (bsl blockT) l)).set 2 (.val i64T k)).set 10 (.ptr 2 0)).set 60 (.val i64T k)).set 61 (.val i64T (i:Int))) (fun (i:Nat)=>(((Hp.none).set 0 (.box 24 proofT zProof)).set 2 (.parts 163 ([.val (bsl blockT) l,.val i64T m,.val i64T k,.val (sl i64T) (levelsOf l)]++[.own 4]))).set 4 (.row 3 i64T ((prefixOf (levelsOf l) m k).1++(List.range i).map fun j:Nat=>(l.length:Int)-k+(j:Int)))) (fun (i:Nat)=>(i:Int)≤k) (fun (i:Nat)=>k.toNat-i) (0) (by simp;omega) ?_
       intro i hi
       refine qao ?_;refine Cf (p:=(i:Int)<k) (fun ht62=>?_) (fun ht62=>?_)
       ·
        refine qaL ?_;refine qb2 ?_;refine A0 mP ?_;refine A0 mP ?_;refine A0 (g_nc rfl rfl) ?_;refine A0 (oFp fd_163_4) ?_;refine A0 (za2 rfl rfl rfl rfl rfl ty_29) ?_;refine qar ?_;refine qcj ?_;refine qby ?_;refine qar ?_;refine A0 zaG ?_;refine A0 (zo (T:=i64T) (xs:=[_]) rfl sl_29 zeg ⟨rfl,rfl,trivial⟩ rfl rfl) ?_;refine zn rfl rfl rfl rfl rfl rfl rfl zeg (by simp;omega) ?_;refine A0 (g_nc rfl rfl) ?_;refine A0 (oFp fd_163_4) ?_;refine zdk rfl rfl rfl rfl rfl rfl rfl rfl rfl rfl ty_29 ?_;refine qbw ?_;refine zaB 5 4 6 rfl rfl rfl rfl rfl rfl ?_
        refine zK (n:=4) (y:=(prefixOf (levelsOf l) m k).1++(List.range (i+1)).map fun j:Nat=>(l.length:Int)-k+(j:Int)) rfl (by rw [List.range_succ,List.map_append];simp) ?_
        exact Nx (i+1) (by omega) (by omega)
       ·
        refine CE ?_;refine CQ ?_
        obtain ⟨PL,hPL⟩:∃PL,PL=placesOf l m k:=⟨_,rfl⟩
        refine zK (n:=4) (y:=PL) rfl (by rw [hPL];unfold placesOf;rw [show k.toNat=i by omega]) ?_
        have hpm:∀x∈PL,0≤x∧x<l.length:=fun x hx=>places_mem (by omega) (hPL▸hx)
        have hpn:PL.length≤220:=hPL▸places_length (by omega)
        refine CR ?_;refine A0 mP ?_;refine A0 aP ?_;refine qab ?_;refine zfs rfl ?_;refine A0 (by first|exact zeR (.inl rfl) rfl|exact zeQ (.inl rfl) rfl) ?_;refine A0 (by first|exact zW rfl rfl|exact zU rfl rfl) ?_;refine A0 (by first|exact zY rfl rfl|exact zX rfl rfl) ?_;refine A0 aP ?_;refine A0 aX ?_;refine CNQQR ?_;refine A0 mX ?_;refine qaB ?_;refine Cg ?_;refine CSQR ?_;refine A0 mP ?_;refine zcf rfl rfl rfl rfl Tryz.func70 fn_70 rfl rfl (fun ia3 iok3=>?_)
        refine CQR ?_;refine zI ze_24 rfl rfl rfl rfl ?_;refine CNQ ?_;refine zx [some 1000001,some 1000001,some 1000001,some 1000001,some 1000001,some 1000001,some 1000001,some 1000001,some 1000001,none,none] mixed (by decide +kernel) ?_;refine XK.ga (fun _=>g_mp (.inl rfl) rfl) rfl rfl rfl ?_;refine XK.ga (fun _=>g_nc rfl rfl) rfl rfl rfl ?_;refine XK.ga (fun _=>g_fa_p rfl rfl fd_163_1 rfl) rfl rfl rfl ?_;refine XK.gf (t:=8) rfl rfl (fun _ he=>za2 rfl rfl he rfl rfl ty_3) ⟨rfl,trivial⟩ rfl rfl rfl ?_;refine XK.ga (fun _=>g_mp (.inl rfl) rfl) rfl rfl rfl ?_
        refine XK.ga (fun _=>g_nc rfl rfl) rfl rfl rfl ?_;refine XK.ga (fun _=>g_fa_p rfl rfl fd_163_2 rfl) rfl rfl rfl ?_;refine XK.gf (t:=12) rfl rfl (fun _ he=>za2 rfl rfl he rfl rfl ty_3) ⟨rfl,trivial⟩ rfl rfl rfl ?_;refine XK.ga (fun _=>zV rfl zn_proof bd_24 (.cons fd_24_0 (Lens.fst _ _) ty_3 rfl (.cons fd_24_1 ((Lens.snd _ _).comp (Lens.fst _ _)) ty_3 rfl .nil)) rfl) rfl rfl rfl ?_;refine XK.e (fun fr' hfr kk H=>by exact zI zn_proof rfl rfl rfl rfl (zz H)) ?_
        refine XK.e (x:=.idk) (fun fr' hfr kk H=>by exact zh rfl rfl rfl ((hfr 3 (by decide +kernel)).trans rfl) rfl (Lens.self _) zdG ((hfr 14 (by decide +kernel)).trans rfl) (zz H)) ?_;refine XK.nilp ⟨⟨rfl,rfl,trivial⟩,⟨rfl,rfl,trivial⟩,trivial⟩ ?_;refine aw_splitb 6 (x:=(m,k,())) split_proof rfl ?_;refine aw_nilpartL 6 41 partT [.val i64T m,.val i64T k] rfl (by intro x hx;simp only [List.mem_cons,List.not_mem_nil,or_false] at hx;rcases hx with rfl|rfl<;>trivial) ?_;refine CQQR ?_;refine A0 mP ?_;refine A0 (g_nc rfl rfl) ?_;refine A0 (oFp fd_163_4) ?_
        refine A0 (za2 rfl rfl rfl rfl rfl ty_29) ?_;refine A0 (zaY rfl rfl rfl isl_29) ?_;refine qaI ?_
        refine Lp (ι:=Nat) 8 (fun (i:Nat)=>((((((Fr.none).set 0 (.ptr 2 0)).set 2 (.ptr 5 0)).set 3 (.ptr 6 0)).set 18 (.own 4)).set 19 (.val i64T (PL.length:Int))).set 20 (.val i64T (i:Int))) (fun (i:Nat)=>((((((Hp.none).set 0 (.box 24 proofT zProof)).set 2 (.parts 163 ([.val (bsl blockT) l,.val i64T m,.val i64T k,.val (sl i64T) (levelsOf l)]++[.own 4]))).set 4 (.row 3 i64T PL)).set 5 (.box 24 proofT zProof)).set 6 (.parts 24 [.val i64T m,.val i64T k,.own 7])).set 7 (.row 41 partT ((PL.take i).map (prPart l)))) (fun (i:Nat)=>i≤PL.length) (fun (i:Nat)=>PL.length-i) (0) (Nat.zero_le _) ?_
        intro i hi2
        refine qao ?_;refine Cf (p:=i<PL.length) (fun ht21=>?_) (fun ht21=>?_)
        ·
         obtain ⟨x,hx⟩:∃x,PL[i]?=some x:=⟨_,List.getElem?_eq_getElem ht21⟩
         have hxb:=hpm x (List.mem_of_getElem? hx)
         obtain ⟨b,hb⟩:∃b,l[x.toNat]?=some b:=⟨_,List.getElem?_eq_getElem (by omega)⟩
         refine CSQBQR ?_;refine A0 (zas (i:=i) rfl rfl rfl rfl (by first|omega|rfl) sl_29 (by first|assumption|omega|(simp;omega))) ?_;refine A0 (zT rfl rfl rfl rfl (by assumption) (Lens.self _) ty_3) ?_;refine qab ?_;refine zx [some 1,some 1,some 1,some 1,some 1,some 1,some 1,some 1,some 1,some 1,some 1,some 1,some 1,some 1,some 1,some 1,some 1,some 1,some 1,some 1,some 1,none,some 1,none] mixed (by decide +kernel) ?_;refine X0 (oFp zcd) ?_;refine X0 (za2 rfl rfl rfl rfl rfl ze2) ?_;refine X0 mP ?_;refine X0 (g_nc rfl rfl) ?_;refine X0 (oFp fd_163_0) ?_
         refine X0 (za2 rfl rfl rfl rfl rfl ty_52) ?_;refine X0 mV ?_;refine X0 (zm (i:=x.toNat) rfl rfl rfl (by omega) zcR (by assumption)) ?_;refine X0 (oFr zan zE) ?_;refine X0 (zf rfl rfl zao) ?_;refine X0 mP ?_;refine X0 (g_nc rfl rfl) ?_;refine X0 (oFp fd_163_0) ?_;refine X0 (za2 rfl rfl rfl rfl rfl ty_52) ?_;refine X0 mV ?_;refine X0 (zm (i:=x.toNat) rfl rfl rfl (by omega) zcR (by assumption)) ?_;refine X0 (oFr zbR zaH) ?_;refine X0 (zf rfl rfl zbj) ?_
         refine X0 (oCl (zs (cloneId b.l (by have:=(hl.2 b (List.mem_of_getElem? hb)).1;constructor<;>omega))) rfl fn_124 ⟨(by first|exact zq rfl|exact zC rfl|exact zy rfl rfl|exact zA rfl|exact zr rfl|exact zL rfl rfl|exact zB rfl),trivial⟩) ?_;refine X0 (zV rfl ze_41 bd_41 (.cons zbS za7 zao rfl (.cons zdi zcE zbj rfl .nil)) rfl) ?_;refine X0 (zo (T:=partT) (xs:=[_]) rfl zds row_22 ⟨rfl,rfl,trivial⟩ rfl rfl) ?_
         refine XK.e (fun fr' hfr kk H=>by exact zn rfl rfl rfl rfl ((hfr 25 (by decide +kernel)).trans rfl) rfl ((hfr 44 (by decide +kernel)).trans rfl) row_22 (by simp;omega) (zz H)) ?_;refine X0 (oFp zcd) ?_;refine XK.e (x:=.idk) (fun fr' hfr kk H=>by exact zdk rfl rfl rfl ((hfr 46 (by decide +kernel)).trans rfl) rfl rfl ((hfr 45 (by decide +kernel)).trans rfl) rfl rfl rfl ze2 (zz H)) ?_;refine qaQ ?_;refine qal ?_;refine zaB 8 7 9 rfl rfl rfl rfl rfl rfl ?_
         refine zK (n:=7) (y:=(PL.take (i+1)).map (prPart l)) rfl (by rw [List.take_add_one,hx,List.map_append];simp [prPart,hb]) ?_
         exact Nx (i+1) (by omega) (by omega)
        ·
         refine CE ?_;refine CQ ?_;refine zK (n:=7) (y:=PL.map (prPart l)) rfl (by rw [List.take_of_length_le (by omega)]) ?_;refine aw_joinb 6 7 [.val i64T m,.val i64T k] (z:=(⟨m,k,PL.map (prPart l)⟩:Proof)) (R:=proofT) rfl rfl rfl join_proof ?_;refine CR ?_;refine qbQ ?_;refine qbl ?_;refine CN ?_;refine aw_backc1 rfl rfl rfl zdG ?_;refine qbl ?_;refine qab ?_
         exact zF rfl rfl (zw rfl rfl zdG (by unfold prOf;rw [if_pos (by unfold prE;rw [if_neg (by omega),if_neg (by omega)]),hPL])) (zac (za rfl (by unfold prE;rw [if_neg (by omega),if_neg (by omega)])))
set_option maxRecDepth 20000
theorem toI_u32 {a b:UInt32}:IntL.toI u32T a=IntL.toI u32T b↔a=b:=⟨fun h=>UInt32.toNat_inj.1 (Int.ofNat.inj h),fun h=>by rw [h]⟩
def idsP (p:Proof):List Ab.Id:=p.p.map fun x=>headId x.h
def levelsP (p:Proof):List Int:=p.p.map fun x=>headLevel x.h
def leadsB (l:List Ab.Id) (prev id:Ab.Id):Bool:=decide (prev=id)||l.any fun x=>decide (id=x)
def prevF (y z:Part) (last:Prop) [Decidable last] (d:Ab.Id):Int :=
  if y.h.height≤z.h.height∨¬y.h.bits=z.h.bits∨last∧(¬y.h.height=IntKind.i64.wrap (z.h.height+1)∨¬y.h.prev=d) then 5 else 0
def linkF (y:Part) (c d:Ab.Id):Int :=
  if y.l.length=0∨32<y.l.length∨¬y.l.getD 0 zId=c∨leadsB y.l y.h.prev d=false∨¬linkRoot y.l=y.h.links then 6 else 0
def workF (y:Part):Int:=if ¬headMay y.h=true then 4 else 0
def zPartD:Part:=⟨zHead,[]⟩
def yOf (x:CTrial):Part:=x.p.p.getD x.at_.toNat zPartD
def zOf (x:CTrial):Part:=x.p.p.getD (x.at_.toNat-1) zPartD
def dOf (x:CTrial):Ab.Id:=x.ids.getD (x.at_.toNat-1) zId
def cOf (x:CTrial):Ab.Id:=x.ids.getD 0 zId
def prevC (x:CTrial):Int:=prevF (yOf x) (zOf x) ((x.p.p.length:Int)-x.p.k≤x.at_) (dOf x)
def linkC (x:CTrial):Int:=linkF (yOf x) (cOf x) (dOf x)
def workC (x:CTrial):Int:=workF (yOf x)
def TrOk (x:CTrial):Prop:=1≤x.at_∧x.at_<x.p.p.length∧x.ids.length=x.p.p.length∧x.p.p.length≤100∧1≤x.p.k∧x.p.k≤20
theorem yOf_at {x:CTrial} {y:Part} (h:x.p.p[x.at_.toNat]?=some y):yOf x=y:=by unfold yOf;simp [h]
theorem zOf_at {x:CTrial} {y:Part} (h:x.p.p[x.at_.toNat-1]?=some y):zOf x=y:=by unfold zOf;simp [h]
theorem dOf_at {x:CTrial} {y:Ab.Id} (h:x.ids[x.at_.toNat-1]?=some y):dOf x=y:=by unfold dOf;simp [h]
theorem cOf_at {x:CTrial} {y:Ab.Id} (h:x.ids[0]?=some y):cOf x=y:=by unfold cOf;simp [h]
theorem zdv {x : CTrial} {y z : Part} {d : Ab.Id} (hy : x.p.p[x.at_.toNat]? = some y) (hz : x.p.p[x.at_.toNat - 1]? = some z) (hd : x.ids[x.at_.toNat - 1]? = some d)
    (h:y.h.height≤z.h.height∨¬y.h.bits=z.h.bits∨((x.p.p.length:Int)-x.p.k≤x.at_)∧(¬y.h.height=IntKind.i64.wrap (z.h.height+1)∨¬y.h.prev=d)):prevC x=5:=by
  unfold prevC prevF;rw [yOf_at hy,zOf_at hz,dOf_at hd,if_pos h]
theorem prevC_no {x : CTrial} {y z : Part} {d : Ab.Id} (hy : x.p.p[x.at_.toNat]? = some y) (hz : x.p.p[x.at_.toNat - 1]? = some z) (hd : x.ids[x.at_.toNat - 1]? = some d)
    (h:¬(y.h.height≤z.h.height∨¬y.h.bits=z.h.bits∨((x.p.p.length:Int)-x.p.k≤x.at_)∧(¬y.h.height=IntKind.i64.wrap (z.h.height+1)∨¬y.h.prev=d))):prevC x=0:=by
  unfold prevC prevF;rw [yOf_at hy,zOf_at hz,dOf_at hd,if_neg h]
theorem zcp {x : CTrial} {y : Part} {c d : Ab.Id} (hy : x.p.p[x.at_.toNat]? = some y) (hc : x.ids[0]? = some c) (hd : x.ids[x.at_.toNat - 1]? = some d)
    (h:y.l.length=0∨32<y.l.length∨¬y.l.getD 0 zId=c∨leadsB y.l y.h.prev d=false∨¬linkRoot y.l=y.h.links):linkC x=6:=by
  unfold linkC linkF;rw [yOf_at hy,cOf_at hc,dOf_at hd,if_pos h]
theorem linkC_no {x : CTrial} {y : Part} {c d : Ab.Id} (hy : x.p.p[x.at_.toNat]? = some y) (hc : x.ids[0]? = some c) (hd : x.ids[x.at_.toNat - 1]? = some d)
    (h:¬(y.l.length=0∨32<y.l.length∨¬y.l.getD 0 zId=c∨leadsB y.l y.h.prev d=false∨¬linkRoot y.l=y.h.links)):linkC x=0:=by
  unfold linkC linkF;rw [yOf_at hy,cOf_at hc,dOf_at hd,if_neg h]
def three:List (Option Nat):=[some 32,some 33,some 34]
def askC (f:Option Nat) (x:CTrial):Int:=if f=some 32 then prevC x else if f=some 33 then linkC x else workC x
def firstC:List (Option Nat)→CTrial→Int
  | [],_=>0
  | f::l,x=>if askC f x=0 then firstC l x else askC f x
theorem firstC_three (x:CTrial):firstC three x=if ¬prevC x=0 then prevC x else if ¬linkC x=0 then linkC x else workC x:=by
  have e1:askC (some 32) x=prevC x:=by unfold askC;rw [if_pos rfl]
  have e2:askC (some 33) x=linkC x:=by unfold askC;rw [if_neg (by decide),if_pos rfl]
  have e3:askC (some 34) x=workC x:=by unfold askC;rw [if_neg (by decide),if_neg (by decide)]
  unfold three
  simp only [firstC,e1,e2,e3]
  by_cases h1:prevC x=0
  · by_cases h2:linkC x=0
    · by_cases h3:workC x=0<;>simp [h1,h2,h3]
    · simp [h1,h2]
  · simp [h1]
theorem firstC_step {l:List (Option Nat)} {j:Nat} {f:Option Nat} {x:CTrial} (h:l[j]?=some f) (h0:askC f x=0):firstC (l.drop j) x=firstC (l.drop (j+1)) x:=by
  obtain ⟨hj,rfl⟩:=List.getElem?_eq_some_iff.1 h
  rw [List.drop_eq_getElem_cons hj]
  show (if _ then _ else _)=_
  rw [if_pos h0]
theorem zdh {l:List (Option Nat)} {j:Nat} {f:Option Nat} {x:CTrial} (h:l[j]?=some f) (h0:¬askC f x=0):firstC (l.drop j) x=askC f x:=by
  obtain ⟨hj,rfl⟩:=List.getElem?_eq_some_iff.1 h
  rw [List.drop_eq_getElem_cons hj]
  show (if _ then _ else _)=_
  rw [if_neg h0]
def trialsE (p:Proof) (ids:List Ab.Id):Nat→Nat→Int
  | 0,_=>0
  | n+1,i=>if firstC three ⟨p,ids,i⟩=0 then trialsE p ids n (i+1) else firstC three ⟨p,ids,i⟩
theorem trials_go {p:Proof} {ids:List Ab.Id} {i:Nat} (hi:i<p.p.length) (h:firstC three ⟨p,ids,i⟩=0):trialsE p ids (p.p.length-i) i=trialsE p ids (p.p.length-(i+1)) (i+1):=by
  rw [show p.p.length-i=(p.p.length-(i+1))+1 by omega]
  show (if _ then _ else _)=_
  rw [if_pos h]
theorem zdb {p:Proof} {ids:List Ab.Id} {i:Nat} (hi:i<p.p.length) (h:¬firstC three ⟨p,ids,i⟩=0):trialsE p ids (p.p.length-i) i=firstC three ⟨p,ids,i⟩:=by
  rw [show p.p.length-i=(p.p.length-(i+1))+1 by omega]
  show (if _ then _ else _)=_
  rw [if_neg h]
def checkP (p:Proof):Int :=
  if p.m<1∨20<p.m∨p.k<1∨20<p.k then 1
  else if 100<p.p.length∨(p.p.length:Int)≤p.k then 3
  else if tgtOk (p.p.getD 0 zPartD).h.bits=false∨0<(p.p.getD 0 zPartD).l.length∨¬(p.p.getD 0 zPartD).h=(firstTip (p.p.getD 0 zPartD).h.bits).b.h then 12
  else trialsE p (idsP p) (p.p.length-1) 1
def fewPr (p:Proof):Bool:=p.p.all (fun x=>decide (x.l.length≤40))&&decide (p.p.length≤110)
theorem ids_ok (p:Proof) (hl:p.p.length≤1000000000000):Tells P 20 [.val proofT p] (.fresh 32 idT (idsP p)):=by
 refine zc Tryz.func20 rfl rfl rfl (fun ext w hext=>?_)
 refine qbi ?_;refine CNQR ?_;refine A0 aL ?_;refine CNQQR ?_;refine qbD ?_;refine qaI ?_;refine za0 (T:=idT) (d:=3) 32 rfl ?_;refine Lp (ι:=Nat) 2 (fun (k:Nat)=>((((Fr.none).set 3 (.own 1)).set 7 (.val (sl partT) p.p)).set 8 (.val i64T (p.p.length:Int))).set 9 (.val i64T (k:Int))) (fun (k:Nat)=>(Hp.none).set 1 (.row 32 idT ((p.p.take k).map fun x=>headId x.h))) (fun (k:Nat)=>k≤p.p.length) (fun (k:Nat)=>p.p.length-k) (0) (Nat.zero_le _) ?_
 intro k hinv
 refine qao ?_;refine Cf (p:=k<p.p.length) (fun ht10=>?_) (fun ht10=>?_)
 ·
  obtain ⟨x,hx⟩:∃x,p.p[k]?=some x:=⟨_,List.getElem?_eq_getElem ht10⟩
  refine CSQBQR ?_;refine A0 (zaQ rfl rfl rfl zds (by assumption)) ?_;refine A0 (zf rfl rfl ty_41) ?_;refine qbJ ?_;refine CNR ?_;refine A0 mO ?_;refine A0 (oFp zbS) ?_;refine A0 (oLb za7 zao) ?_;refine A0 (oCl (zdx x.h) rfl fn_14 ⟨(zd rfl),trivial⟩) ?_;refine A0 (zo (T:=idT) (xs:=[_]) rfl zak zbI ⟨rfl,rfl,trivial⟩ rfl rfl) ?_;refine zn rfl rfl rfl rfl rfl rfl rfl zbI (by simp;omega) ?_;refine A0 aO ?_;refine qbw ?_;refine zaB 3 1 4 rfl rfl rfl rfl rfl rfl ?_
  refine zK (n:=1) (y:=(p.p.take (k+1)).map fun x=>headId x.h) rfl (by rw [List.take_add_one,hx,List.map_append];simp) ?_
  exact Nx (k+1) (by omega) (by omega)
 ·
  refine qat ?_
  exact zb rfl rfl (zg rfl rfl (by rw [List.take_of_length_le (by omega)];rfl))
theorem levelsP_ok (p:Proof) (hl:p.p.length≤1000000000000):Tells P 12 [.val proofT p] (.fresh 3 i64T (levelsP p)):=by
 refine zc Tryz.func12 rfl rfl rfl (fun ext w hext=>?_)
 refine qbi ?_;refine CNQR ?_;refine A0 aL ?_;refine CNQQR ?_;refine qbD ?_;refine qaI ?_;refine za0 (T:=i64T) (d:=3) 3 rfl ?_;refine Lp (ι:=Nat) 2 (fun (k:Nat)=>((((Fr.none).set 3 (.own 1)).set 7 (.val (sl partT) p.p)).set 8 (.val i64T (p.p.length:Int))).set 9 (.val i64T (k:Int))) (fun (k:Nat)=>(Hp.none).set 1 (.row 3 i64T ((p.p.take k).map fun x=>headLevel x.h))) (fun (k:Nat)=>k≤p.p.length) (fun (k:Nat)=>p.p.length-k) (0) (Nat.zero_le _) ?_
 intro k hinv
 refine qao ?_;refine Cf (p:=k<p.p.length) (fun ht10=>?_) (fun ht10=>?_)
 ·
  obtain ⟨x,hx⟩:∃x,p.p[k]?=some x:=⟨_,List.getElem?_eq_getElem ht10⟩
  refine CSQBQR ?_;refine A0 (zaQ rfl rfl rfl zds (by assumption)) ?_;refine A0 (zf rfl rfl ty_41) ?_;refine qbJ ?_;refine CNR ?_;refine A0 mO ?_;refine A0 (oFp zbS) ?_;refine A0 (oLb za7 zao) ?_;refine A0 (oCl (zem x.h) rfl fn_35 ⟨(zd rfl),trivial⟩) ?_;refine A0 (zo (T:=i64T) (xs:=[_]) rfl sl_29 zeg ⟨rfl,rfl,trivial⟩ rfl rfl) ?_;refine zn rfl rfl rfl rfl rfl rfl rfl zeg (by simp;omega) ?_;refine A0 aO ?_;refine qbw ?_;refine zaB 3 1 4 rfl rfl rfl rfl rfl rfl ?_
  refine zK (n:=1) (y:=(p.p.take (k+1)).map fun x=>headLevel x.h) rfl (by rw [List.take_add_one,hx,List.map_append];simp) ?_
  exact Nx (k+1) (by omega) (by omega)
 ·
  refine qat ?_
  exact zb rfl rfl (zg rfl rfl (by rw [List.take_of_length_le (by omega)];rfl))
theorem cprev_ok (x:CTrial) (h:TrOk x):Tells P 32 [.rptr cTrialT x] (.val i64T (prevC x)):=by
 obtain ⟨h1,h2,h3,h4,h5,h6⟩:=h
 obtain ⟨y,hy⟩:∃y,x.p.p[x.at_.toNat]?=some y:=⟨_,List.getElem?_eq_getElem (by omega)⟩
 obtain ⟨z,hz⟩:∃z,x.p.p[x.at_.toNat-1]?=some z:=⟨_,List.getElem?_eq_getElem (by omega)⟩
 obtain ⟨d,hd⟩:∃d,x.ids[x.at_.toNat-1]?=some d:=⟨_,List.getElem?_eq_getElem (by omega)⟩
 refine zc Tryz.func32 rfl rfl rfl (fun ext w hext=>?_)
 refine CQR ?_;refine qaA ?_;refine aw_drawf 25 (.box 38 headT zHead) [some 1000001,some 1000001,some 1000001,some 1000001,some 1000001,some 1000001,some 1000001,some 1000001,some 1000001,some 1000001,some 1000001,some 1000001,some 1000001,some 1000001,some 1000001,some 1000001,some 1000001,some 1000001,some 1000001,some 1000001,some 1000001,some 1000001,some 1000001,some 1000001,some 1000001,some 1000001,none,none,none] mixed (by decide +kernel) rfl ?_;refine XKF.ga rfl (fun _=>g_mr (.inl rfl) rfl) rfl rfl rfl rfl ?_;refine XKF.ga rfl (fun _=>zbW rfl rfl) rfl rfl rfl rfl ?_
 refine XKF.ga rfl (fun _=>g_fa_r rfl rfl fd_75_0 zdn) rfl rfl rfl rfl ?_;refine XKF.ga rfl (fun _=>g_fa_r rfl rfl zcd zbF) rfl rfl rfl rfl ?_;refine XKF.ga rfl (fun _=>zf rfl rfl ze2) rfl rfl rfl rfl ?_;refine XKF.ga rfl (fun _=>g_mr (.inl rfl) rfl) rfl rfl rfl rfl ?_;refine XKF.ga rfl (fun _=>zbW rfl rfl) rfl rfl rfl rfl ?_;refine XKF.ga rfl (fun _=>g_fa_r rfl rfl zd4 zaV) rfl rfl rfl rfl ?_;refine XKF.ga rfl (fun _=>zf rfl rfl ty_3) rfl rfl rfl rfl ?_
 refine XKF.ga rfl (fun _=>zm (i:=x.at_.toNat) rfl rfl rfl (by omega) zds (by assumption)) rfl rfl rfl rfl ?_;refine XKF.ga rfl (fun _=>g_fa_r rfl rfl zbS za7) rfl rfl rfl rfl ?_;refine XKF.ga rfl (fun _=>zf rfl rfl zao) rfl rfl rfl rfl ?_;refine XKF.ga rfl (fun _=>g_mr (.inl rfl) rfl) rfl rfl rfl rfl ?_;refine XKF.ga rfl (fun _=>zbW rfl rfl) rfl rfl rfl rfl ?_;refine XKF.ga rfl (fun _=>g_fa_r rfl rfl fd_75_0 zdn) rfl rfl rfl rfl ?_;refine XKF.ga rfl (fun _=>g_fa_r rfl rfl zcd zbF) rfl rfl rfl rfl ?_
 refine XKF.ga rfl (fun _=>zf rfl rfl ze2) rfl rfl rfl rfl ?_;refine XKF.ga rfl (fun _=>g_mr (.inl rfl) rfl) rfl rfl rfl rfl ?_;refine XKF.ga rfl (fun _=>zbW rfl rfl) rfl rfl rfl rfl ?_;refine XKF.ga rfl (fun _=>g_fa_r rfl rfl zd4 zaV) rfl rfl rfl rfl ?_;refine XKF.ga rfl (fun _=>zf rfl rfl ty_3) rfl rfl rfl rfl ?_;refine XKF.ga rfl (fun _=>by first|exact g_sub rfl rfl rfl (zai (by first|omega|(simp;omega)))|exact g_sub rfl rfl rfl rfl) rfl rfl rfl rfl ?_
 refine XKF.ga rfl (fun _=>zm (i:=x.at_.toNat-1) rfl rfl rfl (by omega) zds (by assumption)) rfl rfl rfl rfl ?_;refine XKF.ga rfl (fun _=>g_fa_r rfl rfl zbS za7) rfl rfl rfl rfl ?_;refine XKF.ga rfl (fun _=>zf rfl rfl zao) rfl rfl rfl rfl ?_;refine XKF.f rfl ze_38 rfl rfl rfl rfl rfl rfl ?_
 refine XKF.e rfl (fun fr' hfr kk H=>by exact zI ze_38 rfl rfl rfl rfl (zz H)) (EffA.conv (fun fr' hfr kk H=>by exact zI ze_38 rfl rfl rfl rfl (zz H)) (by first|exact hp_out rfl|exact hp_out2 rfl rfl|exact hp_out3 rfl rfl rfl|rfl)) (by exact rfl) (by exact rfl) (by exact rfl) (by (repeat refine av_set ?_ rfl);exact fun _ _=>rfl) ?_
 refine XKF.ew (x:=.idk) rfl (by decide +kernel) (fun fr' hfr kk H=>by exact zh rfl rfl rfl ((hfr 3 (by decide +kernel)).trans rfl) rfl (Lens.self _) zao ((hfr 17 (by decide +kernel)).trans rfl) (zz H)) (by exact rfl) (by (repeat refine av_set ?_ rfl);exact fun _ _=>rfl) ?_;refine XKF.ew (x:=.idk) rfl (by decide +kernel) (fun fr' hfr kk H=>by exact zh rfl rfl rfl ((hfr 4 (by decide +kernel)).trans rfl) rfl (Lens.self _) zao ((hfr 30 (by decide +kernel)).trans rfl) (zz H)) (by exact rfl) (by (repeat refine av_set ?_ rfl);exact fun _ _=>rfl) ?_
 refine XKF.nilp trivial ?_;refine qa0 ?_;refine G0 mR ?_;refine G0 (zbW rfl rfl) ?_;refine G0 (oFr zd4 zaV) ?_;refine G0 (zf rfl rfl ty_3) ?_;refine G0 mR ?_;refine G0 (zbW rfl rfl) ?_;refine G0 (oFr fd_75_0 zdn) ?_;refine G0 (oFr zcd zbF) ?_;refine G0 (zf rfl rfl ze2) ?_;refine G0 (by first|exact zah rfl rfl isl_22|exact zaY rfl rfl rfl isl_22|exact zbu rfl rfl isl_22) ?_;refine G0 mR ?_;refine G0 (zbW rfl rfl) ?_;refine G0 (oFr fd_75_0 zdn) ?_;refine G0 (oFr fd_24_1 L_Proof_k) ?_;refine G0 (zf rfl rfl ty_3) ?_
 refine G0 zay ?_;refine G0 zez ?_;refine qa3 ?_;refine CQ ?_;refine qa0 ?_;refine G0 (oFp zbH) ?_;refine G0 (oLb zS ty_3) ?_;refine G0 (oFp zbH) ?_;refine G0 (oLb zS ty_3) ?_;refine G0 zey ?_;refine G0 mV ?_;refine zab (d:=53) (p:=y.h.height≤z.h.height) rfl (by first|rfl|(rw [decide_eq_decide];simp only [IntL.toI,id_eq];omega)|(simp [IntL.toI];done)|(simp [IntL.toI];omega)) (fun g53=>?_) (fun g53=>?_)
 ·
  refine qaS ?_;refine G2 ?_;refine G2 ?_;refine qbj ?_;refine G2 ?_;refine G2 ?_;refine qaf ?_;refine qaf ?_;refine G2 ?_;refine qaK ?_;refine Ct ?_;refine qam ?_
  exact zb rfl rfl (za rfl ((zdv hy hz hd (.inl g53)).symm))
 ·
  refine G1 (oFp zbk) ?_;refine G1 (oLb zad z8) ?_;refine G1 (oFp zbk) ?_;refine G1 (oLb zad z8) ?_;refine G1 zd2 ?_;refine qbj ?_;refine zab (d:=60) (p:=¬y.h.bits=z.h.bits) rfl (by simp [toI_u32]) (fun g60=>?_) (fun g60=>?_)
  ·
   refine G2 ?_;refine G2 ?_;refine qaf ?_;refine qaf ?_;refine G2 ?_;refine qaK ?_;refine Ct ?_;refine qam ?_
   exact zb rfl rfl (za rfl ((zdv hy hz hd (.inr (.inl g60))).symm))
  ·
   refine G1 mV ?_;refine G1 mV ?_;refine zab (d:=62) (p:=(x.p.p.length:Int)-x.p.k≤x.at_) rfl (by first|rfl|(rw [decide_eq_decide];simp only [IntL.toI,id_eq];omega)|(simp [IntL.toI];done)|(simp [IntL.toI];omega)) (fun g62=>?_) (fun g62=>?_)
   ·
    refine G1 (oFp zbH) ?_;refine G1 (oLb zS ty_3) ?_;refine G1 (oFp zbH) ?_;refine G1 (oLb zS ty_3) ?_;refine G1 zaG ?_;refine G1 zd2 ?_;refine G1 mV ?_;refine zab (d:=69) (p:=¬y.h.height=IntKind.i64.wrap (z.h.height+1)) rfl (by simp [IntL.toI]) (fun g69=>?_) (fun g69=>?_)
    ·
     refine qaa ?_;refine qaa ?_;refine G2 ?_;refine G2 ?_;refine G1 oK ?_;refine G1 oK ?_;refine qaK ?_;refine Ct ?_;refine qam ?_
     exact zb rfl rfl (za rfl ((zdv hy hz hd (.inr (.inr ⟨g62,.inl g69⟩))).symm))
    ·
     refine G1 (oFp zcX) ?_;refine G1 (oLb zaO zM) ?_;refine G1 mR ?_;refine G1 (zbW rfl rfl) ?_;refine G1 (oFr fd_75_1 zew) ?_;refine G1 (zf rfl rfl zbj) ?_;refine G1 mR ?_;refine G1 (zbW rfl rfl) ?_;refine G1 (oFr zd4 zaV) ?_;refine G1 (zf rfl rfl ty_3) ?_;refine G1 zay ?_;refine G1 (zm (i:=x.at_.toNat-1) rfl rfl rfl (by omega) zak (by assumption)) ?_;refine G1 (zf rfl rfl zM) ?_;refine G1 (zbQ rfl rfl rfl (zbJ)) ?_;refine G1 oK ?_;refine G1 oK ?_;refine qaK ?_
     refine zj (p:=¬y.h.prev=d) rfl (by simp) (fun ht86=>?_) (fun ht86=>?_)
     ·
      refine qam ?_
      exact zb rfl rfl (za rfl ((zdv hy hz hd (.inr (.inr ⟨g62,.inr ht86⟩))).symm))
     ·
      refine CSQR ?_;refine qab ?_
      exact zb rfl rfl (za rfl ((prevC_no hy hz hd (fun h=>h.elim g53 (fun h=>h.elim g60 (fun h=>h.2.elim g69 ht86)))).symm))
   ·
    refine qaa ?_;refine G2 ?_;refine qaf ?_;refine G3 ?_;refine G3 ?_;refine G3 ?_;refine G2 ?_;refine G1 oK ?_;refine qaK ?_;refine Cg ?_;refine CSQR ?_;refine qab ?_
    exact zb rfl rfl (za rfl ((prevC_no hy hz hd (fun h=>h.elim g53 (fun h=>h.elim g60 (fun h=>g62 h.1)))).symm))
theorem clink_ok (x:CTrial) (h:TrOk x):Tells P 33 [.rptr cTrialT x] (.val i64T (linkC x)):=by
 obtain ⟨h1,h2,h3,h4,h5,h6⟩:=h
 obtain ⟨y,hy⟩:∃y,x.p.p[x.at_.toNat]?=some y:=⟨_,List.getElem?_eq_getElem (by omega)⟩
 obtain ⟨d,hd⟩:∃d,x.ids[x.at_.toNat-1]?=some d:=⟨_,List.getElem?_eq_getElem (by omega)⟩
 obtain ⟨c,hc⟩:∃c,x.ids[0]?=some c:=⟨_,List.getElem?_eq_getElem (by omega)⟩
 refine zc Tryz.func33 rfl rfl rfl (fun ext w hext=>?_)
 refine CQR ?_;refine qaA ?_;refine zx [some 1000001,some 1000001,some 1000001,some 1000001,some 1000001,some 1000001,some 1000001,some 1000001,some 1000001,some 1000001,some 1000001,none,none] mixed (by decide +kernel) ?_;refine XK.ga (fun _=>g_mr (.inl rfl) rfl) rfl rfl rfl ?_;refine XK.ga (fun _=>zbW rfl rfl) rfl rfl rfl ?_;refine XK.ga (fun _=>g_fa_r rfl rfl fd_75_0 zdn) rfl rfl rfl ?_;refine XK.ga (fun _=>g_fa_r rfl rfl zcd zbF) rfl rfl rfl ?_;refine XK.ga (fun _=>zf rfl rfl ze2) rfl rfl rfl ?_;refine XK.ga (fun _=>g_mr (.inl rfl) rfl) rfl rfl rfl ?_
 refine XK.ga (fun _=>zbW rfl rfl) rfl rfl rfl ?_;refine XK.ga (fun _=>g_fa_r rfl rfl zd4 zaV) rfl rfl rfl ?_;refine XK.ga (fun _=>zf rfl rfl ty_3) rfl rfl rfl ?_;refine XK.ga (fun _=>zm (i:=x.at_.toNat) rfl rfl rfl (by omega) zds (by assumption)) rfl rfl rfl ?_;refine XK.ga (fun _=>zf rfl rfl ty_41) rfl rfl rfl ?_;refine XK.e (fun fr' hfr kk H=>by exact zI ze_41 rfl rfl rfl rfl (zz H)) ?_
 refine XK.e (x:=.idk) (fun fr' hfr kk H=>by exact zh rfl rfl rfl ((hfr 3 (by decide +kernel)).trans rfl) rfl (Lens.self _) ty_41 ((hfr 14 (by decide +kernel)).trans rfl) (zz H)) ?_;refine XK.nil' ?_;refine CQ ?_;refine qa0 ?_;refine G0 (oFp zdi) ?_;refine G0 (oLb zcE zbj) ?_;refine G0 (zah rfl rfl zaJ) ?_;refine G0 zbU ?_;refine G0 mV ?_;refine zab (d:=19) (p:=y.l.length=0) rfl (by rw [decide_eq_decide];simp [IntL.toI]) (fun g19=>?_) (fun g19=>?_)
 ·
  refine qaS ?_;refine G2 ?_;refine qbj ?_;refine qaa ?_;refine qaS ?_;refine G2 ?_;refine G2 ?_;refine qbj ?_;refine qaa ?_;refine qaa ?_;refine qaa ?_;refine qbj ?_;refine qaa ?_;refine G2 ?_;refine qaK ?_;refine Ct ?_;refine qam ?_
  exact zb rfl rfl (za rfl ((zcp hy hc hd (.inl g19)).symm))
 ·
  refine qbH ?_;refine G1 (zah rfl rfl zaJ) ?_;refine G1 zbb ?_;refine qbj ?_;refine zab (d:=25) (p:=32<y.l.length) rfl (by first|rfl|(rw [decide_eq_decide];simp only [IntL.toI,id_eq];omega)|(simp [IntL.toI];done)|(simp [IntL.toI];omega)) (fun g25=>?_) (fun g25=>?_)
  ·
   refine qaa ?_;refine qaS ?_;refine G2 ?_;refine G2 ?_;refine qbj ?_;refine qaa ?_;refine qaa ?_;refine qaa ?_;refine qbj ?_;refine qaa ?_;refine G2 ?_;refine qaK ?_;refine Ct ?_;refine qam ?_
   exact zb rfl rfl (za rfl ((zcp hy hc hd (.inr (.inl g25))).symm))
  ·
   obtain ⟨e,he⟩:∃e,y.l[0]?=some e:=⟨_,List.getElem?_eq_getElem (by omega)⟩
   have hel:y.l.getD 0 zId=e:=by simp [he]
   refine qbH ?_;refine G1 (zm (i:=0) rfl rfl rfl (by omega) zak (by assumption)) ?_;refine G1 (zf rfl rfl zM) ?_;refine G1 mR ?_;refine G1 (zbW rfl rfl) ?_;refine G1 (oFr fd_75_1 zew) ?_;refine G1 (zf rfl rfl zbj) ?_;refine G1 (zm (i:=0) rfl rfl rfl (by omega) zak (by assumption)) ?_;refine G1 (zf rfl rfl zM) ?_;refine G1 (zbQ rfl rfl rfl (zbJ)) ?_;refine qbj ?_;refine zab (d:=38) (p:=¬e=c) rfl (by simp) (fun g38=>?_) (fun g38=>?_)
   ·
    refine qaa ?_;refine qaa ?_;refine qaa ?_;refine qbj ?_;refine qaa ?_;refine G2 ?_;refine qaK ?_;refine Ct ?_;refine qam ?_
    exact zb rfl rfl (za rfl ((zcp hy hc hd (.inr (.inr (.inl (by rw [hel];exact g38))))).symm))
   ·
    refine qbH ?_;refine G1 (oFp zbS) ?_;refine G1 (oFp zcX) ?_;refine G1 (oLb (za7.comp zaO) zM) ?_;refine G1 mR ?_;refine G1 (zbW rfl rfl) ?_;refine G1 (oFr fd_75_1 zew) ?_;refine G1 (zf rfl rfl zbj) ?_;refine G1 mR ?_;refine G1 (zbW rfl rfl) ?_;refine G1 (oFr zd4 zaV) ?_;refine G1 (zf rfl rfl ty_3) ?_;refine G1 zay ?_;refine G1 (zm (i:=x.at_.toNat-1) rfl rfl rfl (by omega) zak (by assumption)) ?_;refine G1 (zf rfl rfl zM) ?_
    refine G1 (oCl (leads_ok y.l y.h.prev d) rfl fn_13 ⟨(zd rfl),(zd rfl),(by first|exact zq rfl|exact zC rfl|exact zy rfl rfl|exact zA rfl|exact zr rfl|exact zL rfl rfl|exact zB rfl),trivial⟩) ?_;refine G1 oN ?_;refine qbj ?_;refine zab (d:=58) (p:=leadsB y.l y.h.prev d=false) rfl (by show (!(leadsB y.l y.h.prev d))=_;cases leadsB y.l y.h.prev d<;>rfl) (fun g58=>?_) (fun g58=>?_)
    ·
     refine qaa ?_;refine G2 ?_;refine qaK ?_;refine Ct ?_;refine qam ?_
     exact zb rfl rfl (za rfl ((zcp hy hc hd (.inr (.inr (.inr (.inl g58))))).symm))
    ·
     refine qbH ?_;refine G1 (oCl (zcG y.l (by omega)) rfl fn_17 ⟨(zd rfl),trivial⟩) ?_;refine G1 (oFp zbS) ?_;refine G1 (oFp zcW) ?_;refine G1 (oLb (za7.comp zaC) zM) ?_;refine G1 (zbQ rfl rfl rfl (zbJ)) ?_;refine qaK ?_;refine zj (p:=¬linkRoot y.l=y.h.links) rfl (by simp) (fun ht66=>?_) (fun ht66=>?_)
     ·
      refine qam ?_
      exact zb rfl rfl (za rfl ((zcp hy hc hd (.inr (.inr (.inr (.inr ht66))))).symm))
     ·
      refine CSQR ?_;refine qab ?_
      exact zb rfl rfl (za rfl ((linkC_no hy hc hd (fun h=>h.elim g19 (fun h=>h.elim g25 (fun h=>h.elim (by rw [hel];exact g38) (fun h=>h.elim g58 ht66))))).symm))
theorem cwork_ok (x:CTrial) (h:TrOk x):Tells P 34 [.rptr cTrialT x] (.val i64T (workC x)):=by
 obtain ⟨h1,h2,h3,h4,h5,h6⟩:=h
 obtain ⟨y,hy⟩:∃y,x.p.p[x.at_.toNat]?=some y:=⟨_,List.getElem?_eq_getElem (by omega)⟩
 refine zc Tryz.func34 rfl rfl rfl (fun ext w hext=>?_)
 refine CQR ?_;refine qaA ?_;refine qa0 ?_;refine G0 mR ?_;refine G0 (zbW rfl rfl) ?_;refine G0 (oFr fd_75_0 zdn) ?_;refine G0 (oFr zcd zbF) ?_;refine G0 (zf rfl rfl ze2) ?_;refine G0 mR ?_;refine G0 (zbW rfl rfl) ?_;refine G0 (oFr zd4 zaV) ?_;refine G0 (zf rfl rfl ty_3) ?_;refine G0 (zm (i:=x.at_.toNat) rfl rfl rfl (by omega) zds (by assumption)) ?_;refine G0 (oFr zbS za7) ?_;refine G0 (zf rfl rfl zao) ?_
 refine G0 (oCl (headMay_ok y.h) rfl fn_76 ⟨(by first|exact zq rfl|exact zC rfl|exact zy rfl rfl|exact zA rfl|exact zr rfl|exact zL rfl rfl|exact zB rfl),trivial⟩) ?_;refine G0 oN ?_;refine GK.nil ?_;refine zj (p:=¬headMay y.h=true) rfl (by cases headMay y.h<;>rfl) (fun ht16=>?_) (fun ht16=>?_)
 ·
  refine qam ?_
  exact zb rfl rfl (za rfl (by unfold workC workF;rw [yOf_at hy,if_pos ht16]))
 ·
  refine CSQR ?_;refine qab ?_
  exact zb rfl rfl (za rfl (by unfold workC workF;rw [yOf_at hy,if_neg ht16]))
theorem checkP_ok (p:Proof):Tells P 11 [.val proofT p] (.val i64T (checkP p)):=by
 refine zc Tryz.func11 rfl rfl rfl (fun ext w hext=>?_)
 refine qad ?_;refine qbB ?_;refine A0 (oFp fd_24_0) ?_;refine A0 (oLb L_Proof_m ty_3) ?_;refine A0 zbh ?_;refine qar ?_;refine Sp (d:=12) (p:=p.m<1) (fun g12=>?_) (fun g12=>?_)
 ·
  refine qbf ?_;refine qaw ?_;refine qbA ?_;refine Ct ?_;refine qam ?_
  exact zb rfl rfl (za rfl ((by unfold checkP;rw [if_pos (by omega)])))
 ·
  refine A1 (oFp fd_24_0) ?_;refine A1 (oLb L_Proof_m ty_3) ?_;refine A1 zbb ?_;refine qaw ?_;refine Sp (d:=17) (p:=20<p.m) (fun g17=>?_) (fun g17=>?_)
  ·
   refine qbf ?_;refine qaq ?_;refine Ct ?_;refine qam ?_
   exact zb rfl rfl (za rfl ((by unfold checkP;rw [if_pos (by omega)])))
  ·
   refine qca ?_;refine A1 zbh ?_;refine qaw ?_;refine Sp (d:=22) (p:=p.k<1) (fun g22=>?_) (fun g22=>?_)
   ·
    refine qbA ?_;refine Ct ?_;refine qam ?_
    exact zb rfl rfl (za rfl ((by unfold checkP;rw [if_pos (by omega)])))
   ·
    refine qca ?_;refine A1 zbb ?_;refine qaq ?_;refine Cf (p:=20<p.k) (fun ht26=>?_) (fun ht26=>?_)
    ·
     refine qam ?_
     exact zb rfl rfl (za rfl ((by unfold checkP;rw [if_pos (by omega)])))
    ·
     refine CSQQR ?_;refine qbD ?_;refine A0 zbb ?_;refine qar ?_;refine Sp (d:=31) (p:=100<p.p.length) (fun g31=>?_) (fun g31=>?_)
     ·
      refine qac ?_;refine qbA ?_;refine Ct ?_;refine qam ?_
      exact zb rfl rfl (za rfl ((by unfold checkP;rw [if_neg (by omega),if_pos (by omega)])))
     ·
      refine A1 (oFp zcd) ?_;refine A1 (oLb zbF ze2) ?_;refine A1 (zah rfl rfl isl_22) ?_;refine qca ?_;refine A1 zey ?_;refine qaq ?_;refine Cf (p:=(p.p.length:Int)≤p.k) (fun ht38=>?_) (fun ht38=>?_)
      ·
       refine qam ?_
       exact zb rfl rfl (za rfl ((by unfold checkP;rw [if_neg (by omega),if_pos (by omega)])))
      ·
       obtain ⟨a,ha⟩:∃a,p.p[0]?=some a:=⟨_,List.getElem?_eq_getElem (by omega)⟩
       have hag:p.p.getD 0 zPartD=a:=by simp [ha]
       refine CSQR ?_;refine qa5 ?_;refine A0 (zm (i:=0) rfl rfl rfl (by omega) zds (by assumption)) ?_;refine A0 (oFr zbS za7) ?_;refine qbS ?_;refine A0 (oCl (firstTip_ok a.h.bits) rfl fn_31 ⟨(by first|exact zq rfl|exact zC rfl|exact zy rfl rfl|exact zA rfl|exact zr rfl|exact zL rfl rfl|exact zB rfl),trivial⟩) ?_;refine A0 mX ?_;refine A0 (by first|exact zW rfl rfl|exact zU rfl rfl) ?_;refine A0 (by first|exact zY rfl rfl|exact zX rfl rfl) ?_;refine qbm ?_;refine qan ?_;refine qaA ?_;refine qcd ?_;refine G0 oN ?_;refine G0 mV ?_
       refine zab (d:=51) (p:=tgtOk a.h.bits=false) rfl (by cases tgtOk a.h.bits<;>rfl) (fun g51=>?_) (fun g51=>?_)
       ·
        refine qaa ?_;refine G2 ?_;refine qbj ?_;refine qaa ?_;refine qaS ?_;refine qaK ?_;refine Ct ?_;refine qam ?_
        exact zb rfl rfl (za rfl ((by unfold checkP;rw [if_neg (by omega),if_neg (by omega),hag,if_pos (.inl g51)])))
       ·
        refine G1 (oFp zcd) ?_;refine G1 (oLb zbF ze2) ?_;refine G1 (zm (i:=0) rfl rfl rfl (by omega) zds (by assumption)) ?_;refine G1 (oFr zdi zcE) ?_;refine G1 (zf rfl rfl zbj) ?_;refine G1 (by first|exact zah rfl rfl zaJ|exact zaY rfl rfl rfl zaJ|exact zbu rfl rfl zaJ) ?_;refine G1 zbb ?_;refine qbj ?_;refine zab (d:=60) (p:=0<a.l.length) rfl (by first|rfl|(rw [decide_eq_decide];simp only [IntL.toI,id_eq];omega)|(simp [IntL.toI];done)|(simp [IntL.toI];omega)) (fun g60=>?_) (fun g60=>?_)
        ·
         refine qaa ?_;refine qaS ?_;refine qaK ?_;refine Ct ?_;refine qam ?_
         exact zb rfl rfl (za rfl ((by unfold checkP;rw [if_neg (by omega),if_neg (by omega),hag,if_pos (.inr (.inl g60))])))
        ·
         refine G1 (oFp zcd) ?_;refine G1 (oLb zbF ze2) ?_;refine G1 (zm (i:=0) rfl rfl rfl (by omega) zds (by assumption)) ?_;refine G1 (oFr zbS za7) ?_;refine G1 (zf rfl rfl zao) ?_;refine G1 (oFp zcH) ?_;refine G1 (oFp zan) ?_;refine G1 (oLb (za6.comp zE) zao) ?_;refine G1 (zbQ rfl rfl rfl (eqt_38)) ?_;refine qaK ?_;refine zj (p:=¬a.h=(firstTip a.h.bits).b.h) rfl (by simp) (fun ht70=>?_) (fun ht70=>?_)
         ·
          refine qam ?_
          exact zb rfl rfl (za rfl ((by unfold checkP;rw [if_neg (by omega),if_neg (by omega),hag,if_pos (.inr (.inr ht70))])))
         ·
          have hcp:checkP p=trialsE p (idsP p) (p.p.length-1) 1:=by unfold checkP;rw [if_neg (by omega),if_neg (by omega),hag,if_neg (fun h=>h.elim g51 (fun h=>h.elim g60 ht70))]
          have hids:=zs (ids_ok p (by omega))
          obtain ⟨ids,hid⟩:∃ids,ids=idsP p:=⟨_,rfl⟩
          rw [←hid] at hids hcp
          have hidl:ids.length=p.p.length:=by rw [hid];unfold idsP;simp
          refine CS ?_;refine CQ ?_;refine zx [some 1,some 1,some 1,some 1,none,some 1] mixed (by decide +kernel) ?_;refine X0 (oLs rfl rfl rfl zdG) ?_;refine X0 (oLs rfl rfl rfl zdG) ?_;refine X0 (oCl (hids) rfl fn_20 ⟨(zd rfl),trivial⟩) ?_;refine X0 (zV rfl ze_75 bd_75 (.cons fd_75_0 zdn zdG rfl (.cons fd_75_1 zew zbj rfl .nil)) rfl) ?_;refine XK.e (fun fr' hfr kk H=>by exact aw_box rfl rfl rfl rfl ((hfr 74 (by decide +kernel)).trans rfl) (zz H)) ?_;refine X0 aP ?_;refine XK.nil' ?_;refine CQQR ?_;refine A0 mP ?_;refine A0 (g_nc rfl rfl) ?_
          refine A0 (oFp zd4) ?_;refine zh rfl rfl rfl rfl rfl zaV ty_3 rfl ?_;refine CNB ?_;refine zD (n:=2) (y:=(⟨p,ids,((1:Nat):Int)⟩:CTrial)) rfl rfl ?_;refine Lp (ι:=Nat) 3 (fun (i:Nat)=>((Fr.none).set 1 (.ptr 0 0)).set 5 (.ptr 2 0)) (fun (i:Nat)=>((Hp.none).set 0 (.box 24 proofT p)).set 2 (.box 75 cTrialT ⟨p,ids,(i:Int)⟩)) (fun (i:Nat)=>1≤i∧i≤p.p.length∧checkP p=trialsE p ids (p.p.length-i) i) (fun (i:Nat)=>p.p.length-i) (1) (⟨Nat.le_refl _,by omega,hcp⟩) ?_
          intro i hinv
          refine CQ ?_;refine qa0 ?_;refine G0 mP ?_;refine G0 (g_nc rfl rfl) ?_;refine G0 (oFp zd4) ?_;refine G0 (oLb zaV ty_3) ?_;refine qbY ?_;refine G0 (zah rfl rfl isl_22) ?_;refine G0 zbh ?_;refine GK.nil ?_;refine Cf (p:=i<p.p.length) (fun ht86=>?_) (fun ht86=>?_)
          ·
           have htr:TrOk ⟨p,ids,(i:Int)⟩:=⟨by show (1:Int)≤i;omega,by show (i:Int)<p.p.length;omega,hidl,by show p.p.length≤100;omega,by show 1≤p.k;omega,by show p.k≤20;omega⟩
           refine CSQBQR ?_;refine A0 (g_buildF (xs:=[_,_,_]) rfl ar_78 ze_78 ⟨rfl,⟨_,rfl,rfl⟩,rfl,⟨_,rfl,rfl⟩,rfl,⟨_,rfl,rfl⟩,trivial⟩ rfl) ?_;refine zp (d:=94) (y:=three) rfl rfl ?_;refine qaI ?_;refine Lp (ι:=Nat) 3 (fun (j:Nat)=>((((Fr.none).set 1 (.ptr 0 0)).set 5 (.ptr 2 0)).set 94 (.val (arrT 3 (by decide) fnoT) three)).set 95 (.val i64T (j:Int))) (fun (j:Nat)=>((Hp.none).set 0 (.box 24 proofT p)).set 2 (.box 75 cTrialT ⟨p,ids,(i:Int)⟩)) (fun (j:Nat)=>j≤3∧firstC three ⟨p,ids,i⟩=firstC (three.drop j) ⟨p,ids,i⟩) (fun (j:Nat)=>3-j) (0) (⟨by omega,rfl⟩) ?_
           intro j hj
           refine qao ?_;refine Cf (p:=j<3) (fun ht96=>?_) (fun ht96=>?_)
           ·
            obtain ⟨e,he⟩:∃e,three[j]?=some e:=⟨_,List.getElem?_eq_getElem (show j<three.length from ht96)⟩
            have hask:e=some 32∨e=some 33∨e=some 34:=by have h:=List.mem_of_getElem? he;unfold three at h;simpa using h
            rcases hask with hk|hk|hk
            ·
             refine CSQBQR ?_;refine A0 (g_index rfl rfl rfl rfl ar_78 ty_76 (by assumption)) ?_;refine zp (d:=97) rfl hk ?_;refine zdN (d:=97) (f:=32) rfl ?_;refine A0 aC ?_;refine CNQR ?_;refine A0 mC ?_;refine A0 mP ?_;refine A0 (zeA (As:=[_]) (Cs:=[]) (cprev_ok ⟨p,ids,i⟩ htr) rfl rfl fn_32 ⟨(by first|exact zfu rfl rfl (Lens.self _)|exact zev rfl rfl),trivial⟩ (by intro n hn;cases hn) trivial rfl) ?_;refine qbp ?_;refine zj (p:=¬askC e ⟨p,ids,i⟩=0) rfl (by simp [askC,hk,IntL.toI]) (fun ht102=>?_) (fun ht102=>?_)
             ·
              refine qbK ?_
              exact zb rfl rfl (za rfl (by rw [hinv.2.2,zdb ht86 (by rw [hj.2,zdh he ht102];exact ht102),hj.2,zdh he ht102,hk];rfl))
             ·
              refine qbn ?_
              exact Nx (j+1) (⟨by omega,hj.2.trans (firstC_step he (Classical.not_not.1 ht102))⟩) (by omega)
            ·
             refine CSQBQR ?_;refine A0 (g_index rfl rfl rfl rfl ar_78 ty_76 (by assumption)) ?_;refine zp (d:=97) rfl hk ?_;refine zdN (d:=97) (f:=33) rfl ?_;refine A0 aC ?_;refine CNQR ?_;refine A0 mC ?_;refine A0 mP ?_;refine A0 (zeA (As:=[_]) (Cs:=[]) (clink_ok ⟨p,ids,i⟩ htr) rfl rfl fn_33 ⟨(by first|exact zfu rfl rfl (Lens.self _)|exact zev rfl rfl),trivial⟩ (by intro n hn;cases hn) trivial rfl) ?_;refine qbp ?_;refine zj (p:=¬askC e ⟨p,ids,i⟩=0) rfl (by simp [askC,hk,IntL.toI]) (fun ht102=>?_) (fun ht102=>?_)
             ·
              refine qbK ?_
              exact zb rfl rfl (za rfl (by rw [hinv.2.2,zdb ht86 (by rw [hj.2,zdh he ht102];exact ht102),hj.2,zdh he ht102,hk];rfl))
             ·
              refine qbn ?_
              exact Nx (j+1) (⟨by omega,hj.2.trans (firstC_step he (Classical.not_not.1 ht102))⟩) (by omega)
            ·
             refine CSQBQR ?_;refine A0 (g_index rfl rfl rfl rfl ar_78 ty_76 (by assumption)) ?_;refine zp (d:=97) rfl hk ?_;refine zdN (d:=97) (f:=34) rfl ?_;refine A0 aC ?_;refine CNQR ?_;refine A0 mC ?_;refine A0 mP ?_;refine A0 (zeA (As:=[_]) (Cs:=[]) (cwork_ok ⟨p,ids,i⟩ htr) rfl rfl fn_34 ⟨(by first|exact zfu rfl rfl (Lens.self _)|exact zev rfl rfl),trivial⟩ (by intro n hn;cases hn) trivial rfl) ?_;refine qbp ?_;refine zj (p:=¬askC e ⟨p,ids,i⟩=0) rfl (by simp [askC,hk,IntL.toI]) (fun ht102=>?_) (fun ht102=>?_)
             ·
              refine qbK ?_
              exact zb rfl rfl (za rfl (by rw [hinv.2.2,zdb ht86 (by rw [hj.2,zdh he ht102];exact ht102),hj.2,zdh he ht102,hk];rfl))
             ·
              refine qbn ?_
              exact Nx (j+1) (⟨by omega,hj.2.trans (firstC_step he (Classical.not_not.1 ht102))⟩) (by omega)
           ·
            refine CE ?_;refine CI ?_;refine CR ?_;refine A0 mP ?_;refine A0 (g_nc rfl rfl) ?_;refine A0 (oFp zd4) ?_;refine A0 (oLb zaV ty_3) ?_;refine A0 zaG ?_;refine A0 (g_nc rfl rfl) ?_;refine A0 (oFp zd4) ?_;refine zh rfl rfl rfl rfl rfl zaV ty_3 rfl ?_;refine CN ?_;refine zD (n:=2) (y:=(⟨p,ids,((i+1:Nat):Int)⟩:CTrial)) rfl rfl ?_
            exact Nx (i+1) (⟨by omega,by omega,by rw [hinv.2.2];exact trials_go ht86 (hj.2.trans (by rw [List.drop_of_length_le (show three.length≤j by show 3≤j;omega)];rfl))⟩) (by omega)
          ·
           refine qbE ?_
           exact zb rfl rfl (za rfl (by rw [hinv.2.2,show p.p.length-i=0 by omega];rfl))
theorem fewPr_ok (p:Proof):Tells P 10 [.val proofT p] (.val boolT (fewPr p)):=by
 refine zc Tryz.func10 rfl rfl rfl (fun ext w hext=>?_)
 refine qad ?_;refine qbr ?_;refine Lp (ι:=Nat) 1 (fun (k:Nat)=>((Fr.none).set 1 (.ptr 0 0)).set 3 (.val i64T (k:Int))) (fun (k:Nat)=>(Hp.none).set 0 (.box 24 proofT p)) (fun (k:Nat)=>k≤p.p.length∧(p.p.take k).all (fun x=>decide (x.l.length≤40))=true) (fun (k:Nat)=>p.p.length-k) (0) (⟨Nat.zero_le _,rfl⟩) ?_
 intro k hinv
 refine qa9 ?_;refine qa5 ?_;refine ze (d:=6) rfl zi (fun hsl6=>?_)
 refine A0 (zah rfl rfl isl_22) ?_;refine qaz ?_;refine Cf (p:=k<p.p.length) (fun ht8=>?_) (fun ht8=>?_)
 ·
  obtain ⟨x,hx⟩:∃x,p.p[k]?=some x:=⟨_,List.getElem?_eq_getElem ht8⟩
  refine CSQBQR ?_;refine qa5 ?_;refine qar ?_;refine A0 (zaQ rfl rfl rfl zds (by assumption)) ?_;refine A0 (oFr zdi zcE) ?_;refine A0 (zf rfl rfl zbj) ?_;refine A0 (by first|exact zah rfl rfl zaJ|exact zaY rfl rfl rfl zaJ|exact zbu rfl rfl zaJ) ?_;refine qcb ?_;refine Cf (p:=40<x.l.length) (fun ht18=>?_) (fun ht18=>?_)
  ·
   refine qam ?_
   exact zb rfl rfl (za rfl ((by symm;unfold fewPr;rw [Bool.and_eq_false_iff];left;rw [List.all_eq_false];exact ⟨x,List.mem_of_getElem? hx,by simp;omega⟩)))
  ·
   refine qb3 ?_
   exact Nx (k+1) (⟨by omega,by rw [List.take_add_one,hx,List.all_append,hinv.2];simp;omega⟩) (by omega)
 ·
  refine qbM ?_;refine qbD ?_;refine A0 zey ?_;refine qab ?_
  exact zb rfl rfl (za rfl ((by have h:=hinv.2;rw [List.take_of_length_le (by omega)] at h;unfold fewPr;rw [h,Bool.true_and,decide_eq_decide];simp only [IntL.toI,id_eq];omega)))
set_option maxRecDepth 20000
theorem fewC_no {l:List Block} {k:Nat} {x:Block} (hx:l[k]?=some x) (h:¬fewB x=true):fewC l=false:=by
  unfold fewC
  rw [Bool.and_eq_false_iff]
  left
  rw [List.all_eq_false]
  exact ⟨x,List.mem_of_getElem? hx,h⟩
theorem fewB_all {x:Block} (h:¬(x.t.all few&&decide ((x.t.length:Int)≤6))=true):¬fewB x=true:=fun h2=>by unfold fewB at h2;rw [Bool.and_eq_true] at h2;exact h h2.1
theorem fewB_links {x:Block} (h:40<x.l.length):¬fewB x=true:=fun h2=>by unfold fewB at h2;rw [Bool.and_eq_true,decide_eq_true_eq] at h2;omega
theorem fewB_yes {x:Block} (h:(x.t.all few&&decide ((x.t.length:Int)≤6))=true) (h2:¬40<x.l.length):fewB x=true:=by unfold fewB;rw [h,Bool.true_and];exact decide_eq_true (by omega)
theorem all_take_succ {α:Type} {p:α→Bool} {l:List α} {k:Nat} {x:α} (h:(l.take k).all p=true) (hx:l[k]?=some x) (hp:p x=true):(l.take (k+1)).all p=true:=by
  rw [List.take_add_one,hx,List.all_append,h];simp [hp]
theorem fewC_end {l:List Block} {k:Nat} (h:(l.take k).all fewB=true) (hk:l.length≤k):fewC l=decide ((l.length:Int)≤50):=by
  rw [List.take_of_length_le hk] at h
  unfold fewC;rw [h,Bool.true_and]
theorem easy_newOf:newOf 545259519=[easyB0]:=by unfold newOf;rw [if_pos easy_ok,easy_tip];rfl
theorem fewC_ok (l:List Block):Tells P 19 [.val (bsl blockT) l] (.val boolT (fewC l)):=by
 refine zc Tryz.func19 rfl rfl rfl (fun ext w hext=>?_)
 refine ze (d:=0) rfl zi (fun hsl0=>?_)
 refine CQR ?_;refine qbr ?_;refine Lp (ι:=Nat) 0 (fun (k:Nat)=>((Fr.none).set 0 (.val (bsl blockT) l)).set 3 (.val i64T (k:Int))) (fun (k:Nat)=>Hp.none) (fun (k:Nat)=>k≤l.length∧(l.take k).all fewB=true) (fun (k:Nat)=>l.length-k) (0) (⟨Nat.zero_le _,by simp⟩) ?_
 intro k hinv
 refine qbg ?_;refine qcj ?_;refine qaz ?_;refine Cf (p:=k<l.length) (fun ht8=>?_) (fun ht8=>?_)
 ·
  obtain ⟨x,hx⟩:∃x,l[k]?=some x:=⟨_,List.getElem?_eq_getElem ht8⟩
  refine CSQBQR ?_;refine qag ?_;refine A0 (zm (i:=k) rfl rfl rfl (by omega) zcR (by assumption)) ?_;refine A0 (oFr zd5 zcw) ?_;refine A0 (zf rfl rfl ty_58) ?_;refine A0 (oCl (fewAll_ok _ _) rfl fn_50 ⟨(by first|exact zq rfl|exact zC rfl|exact zy rfl rfl|exact zA rfl|exact zr rfl|exact zL rfl rfl|exact zB rfl),(zd rfl),trivial⟩) ?_;refine qa7 ?_;refine A0 oN ?_;refine qar ?_
  refine zaa (d:=19) (p:=¬(x.t.all few&&decide ((x.t.length:Int)≤6))=true) rfl (by cases (x.t.all few&&decide ((x.t.length:Int)≤6))<;>rfl) (fun g19=>?_) (fun g19=>?_)
  ·
   refine qac ?_;refine qaJ ?_;refine qaq ?_;refine Ct ?_;refine qam ?_
   exact zb rfl rfl (za rfl (fewC_no hx (fewB_all g19)).symm)
  ·
   refine A1 mV ?_;refine A1 mV ?_;refine A1 (zm (i:=k) rfl rfl rfl (by omega) zcR (by assumption)) ?_;refine A1 (oFr zbR zaH) ?_;refine A1 (zf rfl rfl zbj) ?_;refine A1 (by first|exact zah rfl rfl zaJ|exact zaY rfl rfl rfl zaJ|exact zbu rfl rfl zaJ) ?_;refine A1 zbb ?_;refine qaq ?_;refine Cf (p:=40<x.l.length) (fun ht27=>?_) (fun ht27=>?_)
   ·
    refine qam ?_
    exact zb rfl rfl (za rfl (fewC_no hx (fewB_links ht27)).symm)
   ·
    refine qb3 ?_
    exact Nx (k+1) (⟨by omega,all_take_succ hinv.2 hx (fewB_yes (Classical.not_not.1 g19) ht27)⟩) (by omega)
 ·
  refine CE ?_;refine qa2 ?_;refine qcj ?_;refine A0 zey ?_;refine qab ?_
  exact zb rfl rfl (za rfl (by rw [fewC_end hinv.2 (by omega),decide_eq_decide];rfl))
set_option maxRecDepth 20000
def easyP:Proof:=⟨1,1,[⟨easyH,[]⟩,⟨easyB.h,[id0]⟩]⟩
theorem climb_easy (y:Int):∀i:Nat,i≤32→climbS [31,y] 1 1 i=(0,if i=0 then [] else [0])
  | 0,_=>rfl
  | i+1,h=>by
    have ih:=climb_easy y i (by omega)
    have hu:upOf [31,y] 0 ((([31,y]:List Int).length:Int)-1) (31-(i:Int))=[0]:=by
      show upR [31,y] (31-(i:Int)) 0 (0+1)=[0]
      rw [upR_yes (v:=[31,y]) (n:=31-(i:Int)) (x:=31) (a:=0) (i:=0) rfl (Nat.le_refl _) (by omega),upR_same];rfl
    have e1:(climbS [31,y] 1 1 i).1=0:=by rw [ih]
    have e2:(climbS [31,y] 1 1 i).2=if i=0 then [] else [0]:=by rw [ih]
    show (if _ then _ else _,_)=_
    have h0:(if i+1=0 then ([]:List Int) else [0])=[0]:=if_neg (by omega)
    rw [e1,e2,hu,h0,if_neg (by decide)]
    by_cases c:i=0<;>simp [c,setAdd]
theorem easy_lvs:levelsOf [easyB0,easyB]=[31,headLevel easyB.h]:=by
  show [headLevel easyH,headLevel easyB.h]=_
  rw [easy_level]
theorem easy_le1:decide (headLevel easyB.h≤31)=true:=by kernel_rfl
theorem easy_mayP:mayP [31,headLevel easyB.h] 1 1=true:=by
  have h1:=of_decide_eq_true easy_level1
  have h2:=of_decide_eq_true easy_le1
  unfold mayP mayV
  generalize headLevel easyB.h=y at h1 h2
  simp
  omega
theorem easy_prefix:prefixOf (levelsOf [easyB0,easyB]) 1 1=([0],true):=by
  unfold prefixOf
  rw [easy_lvs,if_pos easy_mayP,climb_easy _ 32 (Nat.le_refl _),if_neg (by decide)]
  simp [sortInts]
theorem easy_prE:prE [easyB0,easyB] 1 1=0:=by
  unfold prE
  rw [easy_chain1,if_neg (by decide),if_neg (by decide)]
theorem easy_pr:prOf [easyB0,easyB] 1 1=easyP:=by
  unfold prOf
  rw [if_pos easy_prE]
  unfold placesOf
  rw [easy_prefix]
  rfl
theorem easy_lkroot:linkRoot [id0]=easyB.h.links:=(root_one _).trans easy_lk
theorem easy_check:checkP easyP=0:=by
  have ei:idsP easyP=[id0,headId easyB.h]:=by show [headId easyH,headId easyB.h]=_;rw [easy_id]
  unfold checkP
  rw [if_neg (by decide),if_neg (by decide),if_neg (by
    rintro (h|h|h)
    · exact absurd (show tgtOk 545259519=true from easy_ok) (by rw [show tgtOk 545259519=false from h];decide)
    · exact absurd h (by decide)
    · exact h (show easyH=(firstTip 545259519).b.h by rw [easy_tip];rfl)),ei]
  show (if _ then _ else _)=_
  have hf:firstC three ⟨easyP,[id0,headId easyB.h],((1:Nat):Int)⟩=0:=by
    rw [firstC_three]
    have e1:prevC ⟨easyP,[id0,headId easyB.h],((1:Nat):Int)⟩=0:=prevC_no (y:=⟨easyB.h,[id0]⟩) (z:=⟨easyH,[]⟩) (d:=id0) rfl rfl rfl (by
      rintro (h|h|⟨_,h|h⟩)
      · exact absurd h (by decide)
      · exact h rfl
      · exact h rfl
      · exact h rfl)
    have e2:linkC ⟨easyP,[id0,headId easyB.h],((1:Nat):Int)⟩=0:=linkC_no (y:=⟨easyB.h,[id0]⟩) (c:=id0) (d:=id0) rfl rfl rfl (by
      rintro (h|h|h|h|h)
      · exact absurd h (by decide)
      · exact absurd h (by decide)
      · exact h rfl
      · rw [show leadsB [id0] easyB.h.prev id0=true by unfold leadsB;rw [decide_eq_true (show easyB.h.prev=id0 from rfl)];rfl] at h;cases h
      · exact h easy_lkroot)
    have e3:workC ⟨easyP,[id0,headId easyB.h],((1:Nat):Int)⟩=0:=by
      unfold workC workF
      rw [yOf_at (y:=⟨easyB.h,[id0]⟩) rfl,if_neg (fun h=>h easy_may1)]
    rw [if_neg (fun h=>h e1),if_neg (fun h=>h e2),e3]
  rw [if_pos hf];rfl
theorem zero_check:checkP zProof=1:=by unfold checkP;rw [if_pos (.inl (by decide))]
def yAt (p:Proof) (i:Nat):Part:=p.p.getD i zPartD
def stepOk (p:Proof) (i:Nat):Prop :=
  prevF (yAt p i) (yAt p (i-1)) ((p.p.length:Int)-p.k≤(i:Int)) (headId (yAt p (i-1)).h)=0∧linkF (yAt p i) (headId (yAt p 0).h) (headId (yAt p (i-1)).h)=0∧workF (yAt p i)=0
def beginOk (a:Part):Prop:=tgtOk a.h.bits=true∧a.l.length=0∧a.h=(firstTip a.h.bits).b.h
structure HoldsP (p:Proof):Prop where
  m1:1≤p.m
  m2:p.m≤20
  k1:1≤p.k
  k2:p.k≤20
  l1:p.k<p.p.length
  l2:p.p.length≤100
  fst:beginOk (yAt p 0)
  steps:∀i,1≤i→i<p.p.length→stepOk p i
theorem prevF_zero {y z:Part} {last:Prop} [Decidable last] {d:Ab.Id}:prevF y z last d=0↔z.h.height<y.h.height∧y.h.bits=z.h.bits∧(last→y.h.height=IntKind.i64.wrap (z.h.height+1)∧y.h.prev=d):=by
  unfold prevF
  constructor
  · intro h
    have hn:¬(y.h.height≤z.h.height∨¬y.h.bits=z.h.bits∨last∧(¬y.h.height=IntKind.i64.wrap (z.h.height+1)∨¬y.h.prev=d)):=fun c=>by rw [if_pos c] at h;cases h
    refine ⟨Int.not_le.1 fun c=>hn (.inl c),Classical.not_not.1 fun c=>hn (.inr (.inl c)),fun hl=>⟨Classical.not_not.1 fun c=>hn (.inr (.inr ⟨hl,.inl c⟩)),Classical.not_not.1 fun c=>hn (.inr (.inr ⟨hl,.inr c⟩))⟩⟩
  · rintro ⟨h1,h2,h3⟩
    rw [if_neg]
    rintro (c|c|⟨hl,c|c⟩)
    · omega
    · exact c h2
    · exact c (h3 hl).1
    · exact c (h3 hl).2
theorem linkF_zero {y:Part} {c d:Ab.Id}:linkF y c d=0↔1≤y.l.length∧y.l.length≤32∧y.l.getD 0 zId=c∧leadsB y.l y.h.prev d=true∧linkRoot y.l=y.h.links:=by
  unfold linkF
  constructor
  · intro h
    have hn:¬(y.l.length=0∨32<y.l.length∨¬y.l.getD 0 zId=c∨leadsB y.l y.h.prev d=false∨¬linkRoot y.l=y.h.links):=fun c=>by rw [if_pos c] at h;cases h
    refine ⟨Nat.one_le_iff_ne_zero.2 fun e=>hn (.inl e),Nat.not_lt.1 fun e=>hn (.inr (.inl e)),Classical.not_not.1 fun e=>hn (.inr (.inr (.inl e))),?_,Classical.not_not.1 fun e=>hn (.inr (.inr (.inr (.inr e))))⟩
    cases e:leadsB y.l y.h.prev d
    · exact absurd (.inr (.inr (.inr (.inl e)))) hn
    · rfl
  · rintro ⟨h1,h2,h3,h4,h5⟩
    rw [if_neg]
    rintro (e|e|e|e|e)
    · omega
    · omega
    · exact e h3
    · rw [h4] at e;cases e
    · exact e h5
theorem trials_zero {p:Proof} {ids:List Ab.Id}:∀(n i:Nat),trialsE p ids n i=0↔∀j,i≤j→j<i+n→firstC three ⟨p,ids,j⟩=0
  | 0,i=>by simp [trialsE];intro j h1 h2;omega
  | n+1,i=>by
    show (if firstC three ⟨p,ids,i⟩=0 then trialsE p ids n (i+1) else firstC three ⟨p,ids,i⟩)=0↔_
    by_cases c:firstC three ⟨p,ids,i⟩=0
    · rw [if_pos c,trials_zero n (i+1)]
      constructor
      · intro h j h1 h2
        by_cases e:j=i
        · rw [e];exact c
        · exact h j (by omega) (by omega)
      · intro h j h1 h2;exact h j (by omega) (by omega)
    · rw [if_neg c]
      exact ⟨fun h=>absurd h c,fun h=>h i (Nat.le_refl _) (by omega)⟩
theorem ids_at (p:Proof) {i:Nat} (h:i<p.p.length):(idsP p)[i]?=some (headId (yAt p i).h):=by
  unfold idsP yAt
  rw [List.getElem?_map,List.getElem?_eq_getElem h]
  simp [h]
theorem at_ (p:Proof) {i:Nat} (h:i<p.p.length):p.p[i]?=some (yAt p i):=by unfold yAt;rw [List.getElem?_eq_getElem h];simp [h]
theorem first_zero (p:Proof) {i:Nat} (h1:1≤i) (h:i<p.p.length):firstC three ⟨p,idsP p,(i:Int)⟩=0↔stepOk p i:=by
  rw [firstC_three]
  have e1:prevC ⟨p,idsP p,(i:Int)⟩=prevF (yAt p i) (yAt p (i-1)) ((p.p.length:Int)-p.k≤(i:Int)) (headId (yAt p (i-1)).h):=by
    unfold prevC
    rw [yOf_at (y:=yAt p i) (at_ p h),zOf_at (y:=yAt p (i-1)) (at_ p (i:=i-1) (by omega)),dOf_at (ids_at p (i:=i-1) (by omega))]
  have e2:linkC ⟨p,idsP p,(i:Int)⟩=linkF (yAt p i) (headId (yAt p 0).h) (headId (yAt p (i-1)).h):=by
    unfold linkC
    rw [yOf_at (y:=yAt p i) (at_ p h),cOf_at (ids_at p (i:=0) (by omega)),dOf_at (ids_at p (i:=i-1) (by omega))]
  have e3:workC ⟨p,idsP p,(i:Int)⟩=workF (yAt p i):=by
    unfold workC
    rw [yOf_at (y:=yAt p i) (at_ p h)]
  rw [e1,e2,e3]
  unfold stepOk
  generalize prevF (yAt p i) (yAt p (i-1)) ((p.p.length:Int)-p.k≤(i:Int)) (headId (yAt p (i-1)).h)=a
  generalize linkF (yAt p i) (headId (yAt p 0).h) (headId (yAt p (i-1)).h)=b
  by_cases ha:a=0
  · by_cases hb:b=0
    · simp [ha,hb]
    · simp [ha,hb]
  · simp [ha]
theorem zer {p:Proof}:checkP p=0↔HoldsP p:=by
  have ey:p.p.getD 0 zPartD=yAt p 0:=rfl
  unfold checkP
  rw [ey]
  constructor
  · intro h
    by_cases c1:p.m<1∨20<p.m∨p.k<1∨20<p.k
    · rw [if_pos c1] at h;cases h
    rw [if_neg c1] at h
    by_cases c2:100<p.p.length∨(p.p.length:Int)≤p.k
    · rw [if_pos c2] at h;cases h
    rw [if_neg c2] at h
    by_cases c3:tgtOk (yAt p 0).h.bits=false∨0<(yAt p 0).l.length∨¬(yAt p 0).h=(firstTip (yAt p 0).h.bits).b.h
    · rw [if_pos c3] at h;cases h
    rw [if_neg c3,trials_zero] at h
    refine ⟨by omega,by omega,by omega,by omega,by omega,by omega,⟨?_,by omega,Classical.not_not.1 fun e=>c3 (.inr (.inr e))⟩,fun i h1 h2=>(first_zero p h1 h2).1 (h i h1 (by omega))⟩
    cases e:tgtOk (yAt p 0).h.bits
    · exact absurd (.inl e) c3
    · rfl
  · intro h
    have:=h.m1;have:=h.m2;have:=h.k1;have:=h.k2;have:=h.l1;have:=h.l2
    rw [if_neg (by omega),if_neg (by omega),if_neg (by
      rintro (e|e|e)
      · rw [h.fst.1] at e;cases e
      · have:=h.fst.2.1;omega
      · exact e h.fst.2.2),trials_zero]
    exact fun i h1 h2=>(first_zero p h1 (by omega)).2 (h.steps i h1 (by omega))
theorem HoldsP.step {p : Proof} (h : HoldsP p) {i : Nat} (h1 : 1 ≤ i) (h2 : i < p.p.length) :
    (yAt p (i-1)).h.height<(yAt p i).h.height∧(yAt p i).h.bits=(yAt p (i-1)).h.bits∧((p.p.length:Int)-p.k≤(i:Int)→(yAt p i).h.height=IntKind.i64.wrap ((yAt p (i-1)).h.height+1)∧(yAt p i).h.prev=headId (yAt p (i-1)).h):=prevF_zero.1 (h.steps i h1 h2).1
theorem first_height (bits:UInt32):(firstTip bits).b.h.height=0:=by
  unfold firstTip
  split<;>rfl
theorem HoldsP.zero {p:Proof} (h:HoldsP p):(yAt p 0).h.height=0:=by rw [h.fst.2.2];exact first_height _
theorem HoldsP.bits {p:Proof} (h:HoldsP p):∀i,i<p.p.length→(yAt p i).h.bits=(yAt p 0).h.bits
  | 0,_=>rfl
  | i+1,hi=>by
    have:=(h.step (i:=i+1) (by omega) hi).2.1
    rw [Nat.add_sub_cancel] at this
    rw [this];exact h.bits i (by omega)
theorem fewPr_len {p:Proof} (h:fewPr p=true):p.p.length≤110:=by
  unfold fewPr at h
  rw [Bool.and_eq_true,decide_eq_true_eq] at h
  exact h.2
theorem two_ok:Tells P 29 [] (.val (sl blockT) [easyB0,easyB]):=by
 refine zc Tryz.func29 rfl rfl rfl (fun ext w hext=>?_)
 refine qbP ?_;refine A0 (oCl (newC_ok 545259519) rfl fn_67 ⟨(zd rfl),trivial⟩) ?_;refine A0 mX ?_;refine A0 (by first|exact zW rfl rfl|exact zU rfl rfl) ?_;refine zp (d:=7) (y:=[easyB0]) rfl easy_newOf ?_;refine A0 (by first|exact zY rfl rfl|exact zX rfl rfl) ?_;refine A0 aV ?_;refine qa7 ?_
 refine A0 (oCl (zcg (growC_ok [easyB0] [] 0 small_easyC0 ⟨by decide,fun t ht=>by cases ht⟩)) rfl fn_68 ⟨(zd rfl),(by first|exact zq rfl|exact zC rfl|exact zy rfl rfl|exact zA rfl|exact zr rfl|exact zL rfl rfl|exact zB rfl),(zd rfl),trivial⟩) ?_;refine A0 mX ?_;refine A0 (by first|exact zW rfl rfl|exact zU rfl rfl) ?_;refine zp (d:=12) (y:=[easyB0,easyB]) rfl easy_grown ?_;refine A0 (by first|exact zY rfl rfl|exact zX rfl rfl) ?_;refine A0 aV ?_;refine qa7 ?_;refine qab ?_
 exact zb rfl rfl (za rfl (rfl))
set_option maxRecDepth 20000
theorem three_zero {x:CTrial}:firstC three x=if ¬decide (prevC x=0)=true then prevC x else if ¬decide (linkC x=0)=true then linkC x else workC x:=by
  rw [firstC_three]
  simp only [decide_eq_true_eq]
theorem prevC_or (x:CTrial):prevC x=0∨prevC x=5:=by unfold prevC prevF;split<;>simp
theorem linkC_or (x:CTrial):linkC x=0∨linkC x=6:=by unfold linkC linkF;split<;>simp
theorem r18ids_ok (p:Proof) (hl:p.p.length≤1000000000000):Tells P 21 [.val proofT p] (.fresh 32 idT (idsP p)):=by
 refine zc Tryz.func21 rfl rfl rfl (fun ext w hext=>?_)
 refine qbi ?_;refine CNQR ?_;refine A0 aL ?_;refine qax ?_;refine za0 (T:=idT) (d:=3) 32 rfl ?_;refine Lp (ι:=Nat) 2 (fun (k:Nat)=>(((Fr.none).set 1 (.ptr 0 0)).set 3 (.own 1)).set 4 (.val i64T (k:Int))) (fun (k:Nat)=>((Hp.none).set 0 (.box 24 proofT p)).set 1 (.row 32 idT ((p.p.take k).map fun x=>headId x.h))) (fun (k:Nat)=>k≤p.p.length) (fun (k:Nat)=>p.p.length-k) (0) (Nat.zero_le _) ?_
 intro k hinv
 refine qa9 ?_;refine qbD ?_;refine qaz ?_;refine Cf (p:=k<p.p.length) (fun ht9=>?_) (fun ht9=>?_)
 ·
  obtain ⟨x,hx⟩:∃x,p.p[k]?=some x:=⟨_,List.getElem?_eq_getElem ht9⟩
  refine qa4 ?_;refine CR ?_;refine A0 mO ?_;refine qa5 ?_;refine qar ?_;refine A0 (zm (i:=k) rfl rfl rfl (by omega) zds (by assumption)) ?_;refine qbZ ?_;refine A0 (oCl (zdf x.h) rfl fn_51 ⟨(by first|exact zq rfl|exact zC rfl|exact zy rfl rfl|exact zA rfl|exact zr rfl|exact zL rfl rfl|exact zB rfl),trivial⟩) ?_;refine A0 (zo (T:=idT) (xs:=[_]) rfl zak zbI ⟨rfl,rfl,trivial⟩ rfl rfl) ?_;refine zn rfl rfl rfl rfl rfl rfl rfl zbI (by simp;omega) ?_;refine A0 aO ?_;refine qaR ?_;refine zaB 2 1 3 rfl rfl rfl rfl rfl rfl ?_
  refine zK (n:=1) (y:=(p.p.take (k+1)).map fun x=>headId x.h) rfl (by rw [List.take_add_one,hx,List.map_append];simp) ?_
  exact Nx (k+1) (by omega) (by omega)
 ·
  refine qat ?_
  exact zb rfl rfl (zg rfl rfl (by rw [List.take_of_length_le (by omega)];rfl))
theorem r18levels_ok (p:Proof) (hl:p.p.length≤1000000000000):Tells P 23 [.val proofT p] (.fresh 3 i64T (levelsP p)):=by
 refine zc Tryz.func23 rfl rfl rfl (fun ext w hext=>?_)
 refine qbi ?_;refine CNQR ?_;refine A0 aL ?_;refine qax ?_;refine za0 (T:=i64T) (d:=3) 3 rfl ?_;refine Lp (ι:=Nat) 2 (fun (k:Nat)=>(((Fr.none).set 1 (.ptr 0 0)).set 3 (.own 1)).set 4 (.val i64T (k:Int))) (fun (k:Nat)=>((Hp.none).set 0 (.box 24 proofT p)).set 1 (.row 3 i64T ((p.p.take k).map fun x=>headLevel x.h))) (fun (k:Nat)=>k≤p.p.length) (fun (k:Nat)=>p.p.length-k) (0) (Nat.zero_le _) ?_
 intro k hinv
 refine qa9 ?_;refine qbD ?_;refine qaz ?_;refine Cf (p:=k<p.p.length) (fun ht9=>?_) (fun ht9=>?_)
 ·
  obtain ⟨x,hx⟩:∃x,p.p[k]?=some x:=⟨_,List.getElem?_eq_getElem ht9⟩
  refine qa4 ?_;refine CR ?_;refine A0 mO ?_;refine qa5 ?_;refine qar ?_;refine A0 (zm (i:=k) rfl rfl rfl (by omega) zds (by assumption)) ?_;refine qbZ ?_;refine A0 (oCl (ze7 x.h) rfl fn_52 ⟨(by first|exact zq rfl|exact zC rfl|exact zy rfl rfl|exact zA rfl|exact zr rfl|exact zL rfl rfl|exact zB rfl),trivial⟩) ?_;refine A0 (zo (T:=i64T) (xs:=[_]) rfl sl_29 zeg ⟨rfl,rfl,trivial⟩ rfl rfl) ?_;refine zn rfl rfl rfl rfl rfl rfl rfl zeg (by simp;omega) ?_;refine A0 aO ?_;refine qaR ?_;refine zaB 2 1 3 rfl rfl rfl rfl rfl rfl ?_
  refine zK (n:=1) (y:=(p.p.take (k+1)).map fun x=>headLevel x.h) rfl (by rw [List.take_add_one,hx,List.map_append];simp) ?_
  exact Nx (k+1) (by omega) (by omega)
 ·
  refine qat ?_
  exact zb rfl rfl (zg rfl rfl (by rw [List.take_of_length_le (by omega)];rfl))
theorem rleads_ok (l:List Ab.Id) (prev id:Ab.Id):Tells P 107 [.val (bsl idT) l,.val idT prev,.val idT id] (.val boolT (leadsB l prev id)):=by
 refine zc Tryz.func107 rfl rfl rfl (fun ext w hext=>?_)
 refine ze (d:=0) rfl zi (fun hsl0=>?_)
 refine qav ?_;refine qbr ?_;refine Lp (ι:=Nat) 2 (fun (k:Nat)=>((((Fr.none).set 0 (.val (bsl idT) l)).set 4 (.ptr 0 0)).set 5 (.ptr 1 0)).set 7 (.val i64T (k:Int))) (fun (k:Nat)=>((Hp.none).set 0 (.box 32 idT prev)).set 1 (.box 32 idT id)) (fun (k:Nat)=>k≤l.length∧((l.take k).any fun x=>decide (id=x))=false) (fun (k:Nat)=>l.length-k) (0) (⟨Nat.zero_le _,rfl⟩) ?_
 intro k hinv
 refine qbg ?_;refine qci ?_;refine qaz ?_;refine Cf (p:=k<l.length) (fun ht11=>?_) (fun ht11=>?_)
 ·
  obtain ⟨x,hx⟩:∃x,l[k]?=some x:=⟨_,List.getElem?_eq_getElem ht11⟩
  refine qa4 ?_;refine qa0 ?_;refine qaF ?_;refine G0 (zm (i:=k) rfl rfl rfl (by omega) zak (by assumption)) ?_;refine qb4 ?_;refine G0 (oLs rfl rfl rfl zM) ?_;refine G0 (zcM rfl rfl rfl (zbJ)) ?_;refine GK.nil ?_;refine zj (p:=x=id) rfl (by simp) (fun ht19=>?_) (fun ht19=>?_)
  ·
   refine qam ?_
   exact zb rfl rfl (za rfl ((by symm;unfold leadsB;rw [Bool.or_eq_true];right;rw [List.any_eq_true];exact ⟨x,List.mem_of_getElem? hx,decide_eq_true ht19.symm⟩)))
  ·
   refine qb3 ?_
   exact Nx (k+1) (⟨by omega,by rw [List.take_add_one,hx,List.any_append,hinv.2];simpa using fun c=>ht19 c.symm⟩) (by omega)
 ·
  refine qbM ?_;refine qaN ?_;refine qaN ?_;refine A0 (zcM rfl rfl rfl (zbJ)) ?_;refine qab ?_
  exact zb rfl rfl (za rfl ((by have h:=hinv.2;rw [List.take_of_length_le (by omega)] at h;unfold leadsB;rw [h,Bool.or_false])))
theorem r18prev_ok (x:CTrial) (h:TrOk x):Tells P 62 [.val proofT x.p,.val (bsl idT) x.ids,.val i64T x.at_] (.val boolT (decide (prevC x=0))):=by
 obtain ⟨h1,h2,h3,h4,h5,h6⟩:=h
 obtain ⟨y,hy⟩:∃y,x.p.p[x.at_.toNat]?=some y:=⟨_,List.getElem?_eq_getElem (by omega)⟩
 obtain ⟨z,hz⟩:∃z,x.p.p[x.at_.toNat-1]?=some z:=⟨_,List.getElem?_eq_getElem (by omega)⟩
 obtain ⟨d,hd⟩:∃d,x.ids[x.at_.toNat-1]?=some d:=⟨_,List.getElem?_eq_getElem (by omega)⟩
 refine zc Tryz.func62 rfl rfl rfl (fun ext w hext=>?_)
 refine ze (d:=1) rfl zi (fun hsl1=>?_)
 refine ze (d:=2) rfl zQ (fun hin2=>?_)
 refine qad ?_;refine qai ?_;refine qa5 ?_;refine qar ?_;refine A0 (zm (i:=x.at_.toNat) rfl rfl rfl (by omega) zds (by assumption)) ?_;refine qbZ ?_;refine qaM ?_;refine CNQR ?_;refine qa5 ?_;refine qby ?_;refine A0 (zm (i:=x.at_.toNat-1) rfl rfl rfl (by omega) zds (by assumption)) ?_;refine qbZ ?_;refine qaM ?_;refine CNQQR ?_;refine qaZ ?_;refine qaZ ?_;refine A0 zey ?_;refine qar ?_;refine Sp (d:=27) (p:=y.h.height≤z.h.height) (fun g27=>?_) (fun g27=>?_)
 ·
  refine qaJ ?_;refine A2 ?_;refine qaq ?_;refine Ct ?_;refine qam ?_
  exact zb rfl rfl (za rfl ((decide_eq_false (by rw [zdv hy hz hd (.inl g27)];decide)).symm))
 ·
  refine A1 (oFp zbk) ?_;refine A1 (oLb zad z8) ?_;refine A1 (oFp zbk) ?_;refine A1 (oLb zad z8) ?_;refine A1 zd2 ?_;refine qaq ?_;refine zj (p:=¬y.h.bits=z.h.bits) rfl (by simp [toI_u32]) (fun ht33=>?_) (fun ht33=>?_)
  ·
   refine qam ?_
   exact zb rfl rfl (za rfl ((decide_eq_false (by rw [zdv hy hz hd (.inr (.inl ht33))];decide)).symm))
  ·
   refine CS ?_;refine qcd ?_;refine qbY ?_;refine G0 (zah rfl rfl isl_22) ?_;refine G0 (oFp fd_24_1) ?_;refine G0 (oLb L_Proof_k ty_3) ?_;refine G0 zay ?_;refine G0 zbh ?_;refine G0 mV ?_;refine zab (d:=42) (p:=x.at_<(x.p.p.length:Int)-x.p.k) rfl (by first|rfl|(rw [decide_eq_decide];simp only [IntL.toI,id_eq];omega)|(simp [IntL.toI];done)|(simp [IntL.toI];omega)) (fun g42=>?_) (fun g42=>?_)
   ·
    refine qaa ?_;refine G2 ?_;refine G3 ?_;refine G3 ?_;refine G3 ?_;refine G3 ?_;refine G3 ?_;refine G3 ?_;refine G3 ?_;refine G3 ?_;refine G2 ?_;refine G0 oK ?_;refine qa3 ?_
    exact zb rfl rfl (za rfl ((decide_eq_true (prevC_no hy hz hd (fun h=>h.elim g27 (fun h=>h.elim ht33 (fun h=>by have:=h.1;omega))))).symm))
   ·
    refine G1 (oFp zbH) ?_;refine G1 (oLb zS ty_3) ?_;refine G1 (oFp zbH) ?_;refine G1 (oLb zS ty_3) ?_;refine G1 zaG ?_;refine G1 zbU ?_;refine G1 mV ?_;refine zab (d:=49) (p:=y.h.height=IntKind.i64.wrap (z.h.height+1)) rfl (by simp [IntL.toI]) (fun g49=>?_) (fun g49=>?_)
    ·
     refine G1 (oFp zcX) ?_;refine G1 (oLb zaO zM) ?_;refine G1 mV ?_;refine G1 mV ?_;refine G1 zay ?_;refine G1 (zm (i:=x.at_.toNat-1) rfl rfl rfl (by omega) zak (by assumption)) ?_;refine G1 (zf rfl rfl zM) ?_;refine G1 (zcM rfl rfl rfl (zbJ)) ?_;refine G1 oK ?_;refine G0 oK ?_;refine qa3 ?_
     exact zb rfl rfl (za rfl ((by rw [decide_eq_decide];exact ⟨fun e=>prevC_no hy hz hd (fun h=>h.elim g27 (fun h=>h.elim ht33 (fun h=>h.2.elim (fun c=>c g49) (fun c=>c e)))),fun e=>Classical.byContradiction fun c=>by rw [zdv hy hz hd (.inr (.inr ⟨by omega,.inr c⟩))] at e;cases e⟩)))
    ·
     refine qaa ?_;refine G2 ?_;refine G2 ?_;refine G1 oK ?_;refine G0 oK ?_;refine qa3 ?_
     exact zb rfl rfl (za rfl ((decide_eq_false (by rw [zdv hy hz hd (.inr (.inr ⟨by omega,.inl g49⟩))];decide)).symm))
theorem r18links_ok (x:CTrial) (h:TrOk x):Tells P 63 [.val proofT x.p,.val (bsl idT) x.ids,.val i64T x.at_] (.val boolT (decide (linkC x=0))):=by
 obtain ⟨h1,h2,h3,h4,h5,h6⟩:=h
 obtain ⟨y,hy⟩:∃y,x.p.p[x.at_.toNat]?=some y:=⟨_,List.getElem?_eq_getElem (by omega)⟩
 obtain ⟨d,hd⟩:∃d,x.ids[x.at_.toNat-1]?=some d:=⟨_,List.getElem?_eq_getElem (by omega)⟩
 obtain ⟨c,hc⟩:∃c,x.ids[0]?=some c:=⟨_,List.getElem?_eq_getElem (by omega)⟩
 refine zc Tryz.func63 rfl rfl rfl (fun ext w hext=>?_)
 refine ze (d:=1) rfl zi (fun hsl1=>?_)
 refine ze (d:=2) rfl zQ (fun hin2=>?_)
 refine qad ?_;refine qai ?_;refine qa5 ?_;refine qar ?_;refine A0 (zm (i:=x.at_.toNat) rfl rfl rfl (by omega) zds (by assumption)) ?_;refine A0 (zf rfl rfl ty_41) ?_;refine qbJ ?_;refine CNQ ?_;refine qa0 ?_;refine G0 (oFp zdi) ?_;refine G0 (oLb zcE zbj) ?_;refine G0 (zah rfl rfl zaJ) ?_;refine G0 zbb ?_;refine G0 mV ?_;refine zab (d:=18) (p:=32<y.l.length) rfl (by first|rfl|(rw [decide_eq_decide];simp only [IntL.toI,id_eq];omega)|(simp [IntL.toI];done)|(simp [IntL.toI];omega)) (fun g18=>?_) (fun g18=>?_)
 ·
  refine qaS ?_;refine G2 ?_;refine qbj ?_;refine qaa ?_;refine G2 ?_;refine G2 ?_;refine qaK ?_;refine Ct ?_;refine qam ?_
  exact zb rfl rfl (za rfl ((decide_eq_false (by rw [zcp hy hc hd (.inr (.inl g18))];decide)).symm))
 ·
  refine qbH ?_;refine G1 (zah rfl rfl zaJ) ?_;refine G1 zbh ?_;refine qbj ?_;refine zab (d:=24) (p:=y.l.length<1) rfl (by first|rfl|(rw [decide_eq_decide];simp only [IntL.toI,id_eq];omega)|(simp [IntL.toI];done)|(simp [IntL.toI];omega)) (fun g24=>?_) (fun g24=>?_)
  ·
   refine qaa ?_;refine G2 ?_;refine G2 ?_;refine qaK ?_;refine Ct ?_;refine qam ?_
   exact zb rfl rfl (za rfl ((decide_eq_false (by rw [zcp hy hc hd (.inl (by omega))];decide)).symm))
  ·
   obtain ⟨e,he⟩:∃e,y.l[0]?=some e:=⟨_,List.getElem?_eq_getElem (by omega)⟩
   have hel:y.l.getD 0 zId=e:=by simp [he]
   refine qbH ?_;refine G1 (zm (i:=0) rfl rfl rfl (by omega) zak (by assumption)) ?_;refine G1 (zf rfl rfl zM) ?_;refine G1 mV ?_;refine G1 (zm (i:=0) rfl rfl rfl (by omega) zak (by assumption)) ?_;refine G1 (zf rfl rfl zM) ?_;refine G1 (zbQ rfl rfl rfl (zbJ)) ?_;refine qaK ?_;refine zj (p:=¬e=c) rfl (by simp) (fun ht33=>?_) (fun ht33=>?_)
   ·
    refine qam ?_
    exact zb rfl rfl (za rfl ((decide_eq_false (by rw [zcp hy hc hd (.inr (.inr (.inl (by rw [hel];exact ht33))))];decide)).symm))
   ·
    refine CS ?_;refine qa0 ?_;refine G0 (oFp zdi) ?_;refine G0 (oLb zcE zbj) ?_;refine G0 (oFp zbS) ?_;refine G0 (oFp zcX) ?_;refine G0 (oLb (za7.comp zaO) zM) ?_;refine qaF ?_;refine G0 zay ?_;refine G0 (zm (i:=x.at_.toNat-1) rfl rfl rfl (by omega) zak (by assumption)) ?_;refine qb4 ?_;refine G0 (oCl (rleads_ok y.l y.h.prev d) rfl fn_107 ⟨(zd rfl),(zd rfl),(by first|exact zq rfl|exact zC rfl|exact zy rfl rfl|exact zA rfl|exact zr rfl|exact zL rfl rfl|exact zB rfl),trivial⟩) ?_;refine qa3 ?_;refine qa0 ?_
    refine qaF ?_;refine zab (d:=46) (p:=leadsB y.l y.h.prev d=true) rfl (by simp) (fun g46=>?_) (fun g46=>?_)
    ·
     refine G1 (oFp zbS) ?_;refine G1 (oFp zcW) ?_;refine G1 (oLb (za7.comp zaC) zM) ?_;refine qbH ?_;refine G1 (oCl (zdu y.l (by omega)) rfl fn_53 ⟨(zd rfl),trivial⟩) ?_;refine G1 (zcM rfl rfl rfl (zbJ)) ?_;refine G0 oK ?_;refine qa3 ?_
     exact zb rfl rfl (za rfl ((by rw [decide_eq_decide];exact ⟨fun e1=>linkC_no hy hc hd (fun h=>h.elim (fun c=>by omega) (fun h=>h.elim (fun c=>by omega) (fun h=>h.elim (fun c=>by rw [hel] at c;exact ht33 c) (fun h=>h.elim (fun c=>by rw [g46] at c;cases c) (fun c=>c e1.symm))))),fun e1=>Classical.byContradiction fun c=>by rw [zcp hy hc hd (.inr (.inr (.inr (.inr (fun c2=>c c2.symm)))))] at e1;cases e1⟩)))
    ·
     refine qaa ?_;refine G2 ?_;refine G0 oK ?_;refine qa3 ?_
     exact zb rfl rfl (za rfl ((decide_eq_false (by rw [zcp hy hc hd (.inr (.inr (.inr (.inl (by simpa using g46)))))];decide)).symm))
theorem rcheckP_ok (p:Proof):Tells P 27 [.val proofT p] (.val i64T (checkP p)):=by
 refine zc Tryz.func27 rfl rfl rfl (fun ext w hext=>?_)
 refine qad ?_;refine qbB ?_;refine A0 (oFp fd_24_0) ?_;refine A0 (oLb L_Proof_m ty_3) ?_;refine A0 zbh ?_;refine qar ?_;refine Sp (d:=13) (p:=p.m<1) (fun g13=>?_) (fun g13=>?_)
 ·
  refine qbf ?_;refine qaw ?_;refine qbA ?_;refine Ct ?_;refine qam ?_
  exact zb rfl rfl (za rfl ((by unfold checkP;rw [if_pos (by omega)])))
 ·
  refine A1 (oFp fd_24_0) ?_;refine A1 (oLb L_Proof_m ty_3) ?_;refine A1 zbb ?_;refine qaw ?_;refine Sp (d:=18) (p:=20<p.m) (fun g18=>?_) (fun g18=>?_)
  ·
   refine qbf ?_;refine qaq ?_;refine Ct ?_;refine qam ?_
   exact zb rfl rfl (za rfl ((by unfold checkP;rw [if_pos (by omega)])))
  ·
   refine qca ?_;refine A1 zbh ?_;refine qaw ?_;refine Sp (d:=23) (p:=p.k<1) (fun g23=>?_) (fun g23=>?_)
   ·
    refine qbA ?_;refine Ct ?_;refine qam ?_
    exact zb rfl rfl (za rfl ((by unfold checkP;rw [if_pos (by omega)])))
   ·
    refine qca ?_;refine A1 zbb ?_;refine qaq ?_;refine Cf (p:=20<p.k) (fun ht27=>?_) (fun ht27=>?_)
    ·
     refine qam ?_
     exact zb rfl rfl (za rfl ((by unfold checkP;rw [if_pos (by omega)])))
    ·
     refine CSQQR ?_;refine qbD ?_;refine A0 zbb ?_;refine qar ?_;refine Sp (d:=32) (p:=100<p.p.length) (fun g32=>?_) (fun g32=>?_)
     ·
      refine qac ?_;refine qbA ?_;refine Ct ?_;refine qam ?_
      exact zb rfl rfl (za rfl ((by unfold checkP;rw [if_neg (by omega),if_pos (by omega)])))
     ·
      refine A1 (oFp zcd) ?_;refine A1 (oLb zbF ze2) ?_;refine A1 (zah rfl rfl isl_22) ?_;refine qca ?_;refine A1 zey ?_;refine qaq ?_;refine Cf (p:=(p.p.length:Int)≤p.k) (fun ht39=>?_) (fun ht39=>?_)
      ·
       refine qam ?_
       exact zb rfl rfl (za rfl ((by unfold checkP;rw [if_neg (by omega),if_pos (by omega)])))
      ·
       obtain ⟨a,ha⟩:∃a,p.p[0]?=some a:=⟨_,List.getElem?_eq_getElem (by omega)⟩
       have hag:p.p.getD 0 zPartD=a:=by simp [ha]
       refine CSQR ?_;refine qa5 ?_;refine A0 (zm (i:=0) rfl rfl rfl (by omega) zds (by assumption)) ?_;refine A0 (oFr zbS za7) ?_;refine qbS ?_;refine A0 (oCl (rfirstTip_ok a.h.bits) rfl fn_61 ⟨(by first|exact zq rfl|exact zC rfl|exact zy rfl rfl|exact zA rfl|exact zr rfl|exact zL rfl rfl|exact zB rfl),trivial⟩) ?_;refine A0 mX ?_;refine A0 (by first|exact zW rfl rfl|exact zU rfl rfl) ?_;refine A0 (by first|exact zY rfl rfl|exact zX rfl rfl) ?_;refine qbm ?_;refine qan ?_;refine qaA ?_;refine qcd ?_;refine G0 oN ?_;refine G0 mV ?_
       refine zab (d:=52) (p:=tgtOk a.h.bits=false) rfl (by cases tgtOk a.h.bits<;>rfl) (fun g52=>?_) (fun g52=>?_)
       ·
        refine qaa ?_;refine G2 ?_;refine qbj ?_;refine qaa ?_;refine qaS ?_;refine qaK ?_;refine Ct ?_;refine qam ?_
        exact zb rfl rfl (za rfl ((by unfold checkP;rw [if_neg (by omega),if_neg (by omega),hag,if_pos (.inl g52)])))
       ·
        refine G1 (oFp zcd) ?_;refine G1 (oLb zbF ze2) ?_;refine G1 (zm (i:=0) rfl rfl rfl (by omega) zds (by assumption)) ?_;refine G1 (oFr zdi zcE) ?_;refine G1 (zf rfl rfl zbj) ?_;refine G1 (by first|exact zah rfl rfl zaJ|exact zaY rfl rfl rfl zaJ|exact zbu rfl rfl zaJ) ?_;refine G1 zbb ?_;refine qbj ?_;refine zab (d:=61) (p:=0<a.l.length) rfl (by first|rfl|(rw [decide_eq_decide];simp only [IntL.toI,id_eq];omega)|(simp [IntL.toI];done)|(simp [IntL.toI];omega)) (fun g61=>?_) (fun g61=>?_)
        ·
         refine qaa ?_;refine qaS ?_;refine qaK ?_;refine Ct ?_;refine qam ?_
         exact zb rfl rfl (za rfl ((by unfold checkP;rw [if_neg (by omega),if_neg (by omega),hag,if_pos (.inr (.inl g61))])))
        ·
         refine G1 (oFp zcd) ?_;refine G1 (oLb zbF ze2) ?_;refine G1 (zm (i:=0) rfl rfl rfl (by omega) zds (by assumption)) ?_;refine G1 (oFr zbS za7) ?_;refine G1 (zf rfl rfl zao) ?_;refine G1 (oFp zcH) ?_;refine G1 (oFp zan) ?_;refine G1 (oLb (za6.comp zE) zao) ?_;refine G1 (zbQ rfl rfl rfl (eqt_38)) ?_;refine qaK ?_;refine zj (p:=¬a.h=(firstTip a.h.bits).b.h) rfl (by simp) (fun ht71=>?_) (fun ht71=>?_)
         ·
          refine qam ?_
          exact zb rfl rfl (za rfl ((by unfold checkP;rw [if_neg (by omega),if_neg (by omega),hag,if_pos (.inr (.inr ht71))])))
         ·
          have hcp:checkP p=trialsE p (idsP p) (p.p.length-1) 1:=by unfold checkP;rw [if_neg (by omega),if_neg (by omega),hag,if_neg (fun h=>h.elim g52 (fun h=>h.elim g61 ht71))]
          have hids:=zs (r18ids_ok p (by omega))
          obtain ⟨ids,hid⟩:∃ids,ids=idsP p:=⟨_,rfl⟩
          rw [←hid] at hids hcp
          have hidl:ids.length=p.p.length:=by rw [hid];unfold idsP;simp
          refine CSQR ?_;refine qbQ ?_;refine A0 (oCl (hids) rfl fn_21 ⟨(zd rfl),trivial⟩) ?_;refine qbr ?_;refine Lp (ι:=Nat) 2 (fun (i:Nat)=>(((Fr.none).set 1 (.ptr 0 0)).set 5 (.val (sl idT) ids)).set 6 (.val i64T (i:Int))) (fun (i:Nat)=>(Hp.none).set 0 (.box 24 proofT p)) (fun (i:Nat)=>1≤i∧i≤p.p.length∧checkP p=trialsE p ids (p.p.length-i) i) (fun (i:Nat)=>p.p.length-i) (1) (⟨Nat.le_refl _,by omega,hcp⟩) ?_
          intro i hinv
          refine qa9 ?_;refine qbD ?_;refine qaz ?_;refine Cf (p:=i<p.p.length) (fun ht78=>?_) (fun ht78=>?_)
          ·
           have htr:TrOk ⟨p,ids,(i:Int)⟩:=⟨by show (1:Int)≤i;omega,by show (i:Int)<p.p.length;omega,hidl,by show p.p.length≤100;omega,by show 1≤p.k;omega,by show p.k≤20;omega⟩
           obtain ⟨y,hy⟩:∃y,p.p[i]?=some y:=⟨_,List.getElem?_eq_getElem ht78⟩
           have hwk:workC ⟨p,ids,(i:Int)⟩=workF y:=by unfold workC;rw [yOf_at (y:=y) hy]
           refine CSQBQR ?_;refine qbQ ?_;refine qag ?_;refine A0 (oCl (r18prev_ok ⟨p,ids,i⟩ htr) rfl fn_62 ⟨(zd rfl),(zd rfl),(zd rfl),trivial⟩) ?_;refine qai ?_;refine qbQ ?_;refine qag ?_;refine A0 (oCl (r18links_ok ⟨p,ids,i⟩ htr) rfl fn_63 ⟨(zd rfl),(zd rfl),(zd rfl),trivial⟩) ?_;refine qai ?_;refine qa5 ?_;refine qar ?_;refine A0 (zm (i:=i) rfl rfl rfl (by omega) zds (by assumption)) ?_;refine qbZ ?_
           refine A0 (oCl (rheadMay_ok y.h) rfl fn_64 ⟨(by first|exact zq rfl|exact zC rfl|exact zy rfl rfl|exact zA rfl|exact zr rfl|exact zL rfl rfl|exact zB rfl),trivial⟩) ?_;refine qah ?_;refine qaE ?_;refine zj (p:=¬decide (prevC ⟨p,ids,(i:Int)⟩=0)=true) rfl (by simp) (fun ht97=>?_) (fun ht97=>?_)
           ·
            refine qam ?_
            exact zb rfl rfl (za rfl (by have e:firstC three ⟨p,ids,(i:Int)⟩=5:=(by rw [three_zero,if_pos ht97];exact (prevC_or _).resolve_left (by simpa using ht97));rw [hinv.2.2,zdb ht78 (by rw [e];decide),e]))
           ·
            refine qbO ?_;refine qaE ?_;refine zj (p:=¬decide (linkC ⟨p,ids,(i:Int)⟩=0)=true) rfl (by simp) (fun ht99=>?_) (fun ht99=>?_)
            ·
             refine qam ?_
             exact zb rfl rfl (za rfl (by have e:firstC three ⟨p,ids,(i:Int)⟩=6:=(by rw [three_zero,if_neg ht97,if_pos ht99];exact (linkC_or _).resolve_left (by simpa using ht99));rw [hinv.2.2,zdb ht78 (by rw [e];decide),e]))
            ·
             refine qbG ?_;refine qaE ?_;refine zj (p:=¬headMay y.h=true) rfl (by simp) (fun ht101=>?_) (fun ht101=>?_)
             ·
              refine qam ?_
              exact zb rfl rfl (za rfl (by have e:firstC three ⟨p,ids,(i:Int)⟩=4:=(by rw [three_zero,if_neg ht97,if_neg ht99,hwk];unfold workF;rw [if_pos ht101]);rw [hinv.2.2,zdb ht78 (by rw [e];decide),e]))
             ·
              refine qb3 ?_
              exact Nx (i+1) (⟨by omega,by omega,by rw [hinv.2.2];exact trials_go ht78 (by rw [three_zero,if_neg ht97,if_neg ht99,hwk];unfold workF;rw [if_neg ht101])⟩) (by omega)
          ·
           refine qbE ?_
           exact zb rfl rfl (za rfl (by rw [hinv.2.2,show p.p.length-i=0 by omega];rfl))
set_option maxRecDepth 20000
theorem uu_46:P.underlying 46=some (.slice 5):=by kernel_rfl
theorem zp_49:(P.info? 49).bind (·.zero)=some .nilFunc:=by kernel_rfl
def textL (l:List Ab.Id):List UInt8:=if l.length=0 then [2] else if l.length≤1 then [0]++l.headD zId else nodeText (linkRoot (l.take (halfN l.length))) (linkRoot (l.drop (halfN l.length)))
theorem shaSum_len (b:List UInt8):(shaSum b).length=32:=by unfold shaSum;simp
theorem root_text (l:List Ab.Id):linkRoot l=shaSum (textL l):=by
  unfold textL linkRoot
  rw [rootOf]
  simp only [List.length_map]
  by_cases h0:l.length=0
  · rw [if_pos h0,if_pos h0]
  · rw [if_neg h0,if_neg h0]
    by_cases h1:l.length≤1
    · rw [dif_pos h1,if_pos h1]
      match l,h0,h1 with
      | [x],_,_=>rfl
      | [],h0,_=>exact absurd rfl h0
      | _::_::_,_,h1=>simp at h1
    · rw [dif_neg h1,if_neg h1,←List.map_take,←List.map_drop];rfl
theorem zek (l:List Ab.Id):(linkRoot l).length=32:=by rw [root_text];exact shaSum_len _
def diffF:Nat→List Ab.Id→List Ab.Id→List UInt8×List UInt8×Bool
  | 0,a,b=>(textL a,textL b,!decide (textL a=textL b))
  | n+1,a,b =>
    if ¬textL a=textL b then (textL a,textL b,true)
    else if a.length<2∨b.length<2 then (textL a,textL b,false)
    else if (diffF n (a.take (halfN a.length)) (b.take (halfN b.length))).2.2=true then diffF n (a.take (halfN a.length)) (b.take (halfN b.length))
    else diffF n (a.drop (halfN a.length)) (b.drop (halfN b.length))
theorem diff_ne {n:Nat} {a b:List Ab.Id} (h:¬textL a=textL b):diffF n a b=(textL a,textL b,true):=by
  cases n with
  | zero=>unfold diffF;rw [decide_eq_false h];rfl
  | succ n=>unfold diffF;rw [if_pos h]
theorem diff_few {n:Nat} {a b:List Ab.Id} (h:textL a=textL b) (h2:a.length<2∨b.length<2):diffF n a b=(textL a,textL b,false):=by
  cases n with
  | zero=>unfold diffF;rw [decide_eq_true h];rfl
  | succ n=>unfold diffF;rw [if_neg (fun c=>c h),if_pos h2]
def differOf (a b:List Ab.Id):List UInt8×List UInt8×Bool :=
  if a=b∨¬linkRoot a=linkRoot b then ([],[],false)
  else if (diffF a.length a b).2.2=true then diffF a.length a b else ([],[],false)
def HD (X Y:List UInt8):Hp:=((Hp.none.set 0 (.box 46 (sl u8T) X)).set 1 (.box 46 (sl u8T) Y)).set 2 (.parts 49 [.clo 40 [0,1,2]])
theorem hd_two (X Y X' Y':List UInt8):HD X' Y'=((HD X Y).set 0 (.box 46 (sl u8T) X')).set 1 (.box 46 (sl u8T) Y'):=by
  funext t
  match t with
  | 0=>rfl
  | 1=>rfl
  | 2=>rfl
  | t+3=>rfl
theorem hd_init (X Y:List UInt8) (Z:HE):HD X Y=(((Hp.none.set 0 (.box 46 (sl u8T) X)).set 1 (.box 46 (sl u8T) Y)).set 2 Z).set 2 (.parts 49 [.clo 40 [0,1,2]]):=by
  funext t
  match t with
  | 0=>rfl
  | 1=>rfl
  | 2=>rfl
  | t+3=>rfl
def DownCall (a b:List Ab.Id) (A B:List UInt8) (r:Bool):Prop:=∀{J:Job} {nx:Nat} {fr:Fr} {k:List It} {ops:Array Oper} {rest:List Oper} {o:Oper} {d:Nat} {x ya yb:Operand} {ts:Array TypeId} {X Y:List UInt8},J.P=P→o.op = .call { callee:=.value x,args:=#[ya,yb],argTypes:=ts }→o.dst=some d→o.guard=none→Nat.blt d J.nt=true→
  fr.ev x = .clo 40 [0,1,2]→fr.ev ya = .val (bsl idT) a→fr.ev yb = .val (bsl idT) b→AW J nx (fr.set d (.val boolT r)) (HD A B) (.ops ops rest::k)→AW J nx fr (HD X Y) (.ops ops (o::rest)::k)
theorem chalf_ok (n:Nat) (h:2≤n) (hn:n<4398046511104):Tells P 43 [.val i64T (n:Int)] (.val i64T (halfN n:Nat)):=by
 obtain ⟨hb1,hb2⟩:=bitLen_one h hn
 refine zc Tryz.func43 rfl rfl rfl (fun ext w hext=>?_)
 refine ze (d:=0) rfl zQ (fun hin0=>?_)
 refine CQR ?_;refine qa7 ?_;refine A0 zay ?_;refine A0 (zcr rfl (ui_130) (us_3) rfl) ?_;refine A0 (oCl (lenU_ok _) rfl fn_82 ⟨(zd rfl),trivial⟩) ?_;refine A0 zay ?_;refine A0 (g_shlI rfl rfl rfl (by first|decide|omega|(show (0:Int)≤((_:Nat):Int)-1;omega)|(simp [IntL.toI];done)|(simp [IntL.toI];omega)) rfl) ?_;refine qab ?_
 exact zb rfl rfl (za rfl (half_eq h hn))
theorem bequal_ok (a b:List UInt8):Tells P 42 [.val (bsl u8T) a,.val (bsl u8T) b] (.val boolT (decide (a=b))):=by
 refine zc Tryz.func42 rfl rfl rfl (fun ext w hext=>?_)
 refine ze (d:=0) rfl zi (fun hsl0=>?_)
 refine ze (d:=1) rfl zi (fun hsl1=>?_)
 refine CQR ?_;refine qa7 ?_;refine A0 (g_cvs rfl rfl uu_46 ui_5 st_9) ?_;refine qar ?_;refine A0 (g_cvs rfl rfl uu_46 ui_5 st_9) ?_;refine A0 (g_eqlstr rfl rfl rfl) ?_;refine qab ?_
 exact zb rfl rfl (za rfl (rfl))
theorem text_ok (l:List Ab.Id) (hl:l.length≤1000000):Tells P 41 [.val (bsl idT) l] (.fresh 5 u8T (textL l)):=by
 refine zc Tryz.func41 rfl rfl rfl (fun ext w hext=>?_)
 refine ze (d:=0) rfl zi (fun hsl0=>?_)
 refine ze (d:=0) rfl fact_idsL (fun hids=>?_)
 refine qay ?_;refine CNQQR ?_;refine qa6 ?_;refine CNB ?_;refine CQR ?_;refine A0 zbU ?_;refine qab ?_;refine zj (p:=l.length=0) rfl (by simp [IntL.toI]) (fun ht8=>?_) (fun ht8=>?_)
 ·
  refine CQR ?_;refine zaN (T:=u8T) (xs:=[_]) rfl rfl rfl rfl zaW zR ⟨rfl,rfl,trivial⟩ rfl rfl ?_;refine qbe ?_
  exact zb rfl rfl (zg rfl rfl (by unfold textL;rw [if_pos ht8];rfl))
 ·
  refine CQR ?_;refine A0 zbU ?_;refine qab ?_;refine zj (p:=l.length=1) rfl (by rw [decide_eq_decide];simp only [IntL.toI,id_eq];omega) (fun ht11=>?_) (fun ht11=>?_)
  ·
   obtain ⟨x,hx⟩:∃x,l[0]?=some x:=⟨_,List.getElem?_eq_getElem (by omega)⟩
   have hxl:=hids x (List.mem_of_getElem? hx)
   refine CQR ?_;refine zaN (T:=u8T) (xs:=[_]) rfl rfl rfl rfl zaW zR ⟨rfl,rfl,trivial⟩ rfl rfl ?_;refine qar ?_;refine A0 (zm (i:=0) rfl rfl rfl (by omega) zak (by assumption)) ?_;refine A0 (zae rfl rfl za5 rfl rfl) ?_;refine zn rfl rfl rfl rfl rfl rfl rfl zR (by simp;omega) ?_;refine qbe ?_
   exact zb rfl rfl (zg rfl rfl (by unfold textL;rw [if_neg ht8,if_pos (by omega)];cases l with|nil=>simp at hx|cons y m=>simp at hx;simp [hx]))
  ·
   have hp:=zdK l.length
   have hh:=zff (n:=l.length) (by omega)
   have hra:=zek (l.take (halfN l.length))
   have hrb:=zek (l.drop (halfN l.length))
   refine CS ?_;refine CI ?_;refine qa2 ?_;refine qci ?_;refine A0 (oCl (chalf_ok l.length (by omega) (by omega)) rfl fn_43 ⟨(zd rfl),trivial⟩) ?_;refine qaA ?_;refine aw_drawf 8 (.box 32 idT zId) [some 1000001,some 1000001,some 1000001,some 1000001,some 1000001,some 1000001,some 1000001,some 1000001,some 1000001,none,none,none] mixed (by decide +kernel) rfl ?_;refine XKF.ga rfl (fun _=>g_mv (.inl rfl) rfl) rfl rfl rfl rfl ?_;refine XKF.ga rfl (fun _=>g_mv (.inl rfl) rfl) rfl rfl rfl rfl ?_
   refine XKF.ga rfl (fun _=>by first|exact zbt rfl rfl rfl (by first|rfl|omega) zak|exact zdy rfl rfl rfl zak (by first|assumption|omega|(simp;omega))) rfl rfl rfl rfl ?_;refine XKF.ga rfl (fun _=>zb5 (zcG (l.take (halfN l.length)) (by simp;omega)) rfl fn_17 ⟨(zd rfl),trivial⟩ rfl) rfl rfl rfl rfl ?_;refine XKF.ga rfl (fun _=>g_mv (.inl rfl) rfl) rfl rfl rfl rfl ?_;refine XKF.ga rfl (fun _=>g_mv (.inl rfl) rfl) rfl rfl rfl rfl ?_;refine XKF.ga rfl (fun _=>zeP rfl rfl rfl zak (by first|assumption|omega|(simp;omega))) rfl rfl rfl rfl ?_
   refine XKF.ga rfl (fun _=>zb5 (zcG (l.drop (halfN l.length)) (by simp;omega)) rfl fn_17 ⟨(zd rfl),trivial⟩ rfl) rfl rfl rfl rfl ?_;refine XKF.f rfl ze_32 rfl rfl rfl rfl rfl rfl ?_;refine XKF.e rfl (fun fr' hfr kk H=>by exact zI ze_32 rfl rfl rfl rfl (zz H)) (EffA.conv (fun fr' hfr kk H=>by exact zI ze_32 rfl rfl rfl rfl (zz H)) (by first|exact hp_out rfl|exact hp_out2 rfl rfl|exact hp_out3 rfl rfl rfl|rfl)) (by exact rfl) (by exact rfl) (by exact rfl) (by (repeat refine av_set ?_ rfl);exact fun _ _=>rfl) ?_
   refine XKF.ew (x:=.idk) rfl (by decide +kernel) (fun fr' hfr kk H=>by exact zh rfl rfl rfl ((hfr 4 (by decide +kernel)).trans rfl) rfl (Lens.self _) zM ((hfr 24 (by decide +kernel)).trans rfl) (zz H)) (by exact rfl) (by (repeat refine av_set ?_ rfl);exact fun _ _=>rfl) ?_;refine XKF.ew (x:=.idk) rfl (by decide +kernel) (fun fr' hfr kk H=>by exact zh rfl rfl rfl ((hfr 5 (by decide +kernel)).trans rfl) rfl (Lens.self _) zM ((hfr 28 (by decide +kernel)).trans rfl) (zz H)) (by exact rfl) (by (repeat refine av_set ?_ rfl);exact fun _ _=>rfl) ?_
   refine XKF.nilp trivial ?_;refine CQ ?_;refine zbe (d:=4) rfl rfl (Lens.self _) ?_;refine zbe (d:=5) rfl rfl (Lens.self _) ?_;refine zx [some 1,some 1,some 1,some 1,none,some 1] mixed (by decide +kernel) ?_;refine X0 (zeS (T:=sl u8T) (S:=bsl u8T) (zo (T:=u8T) (xs:=[_]) rfl zaW zR ⟨rfl,rfl,trivial⟩ rfl rfl)) ?_;refine X0 (zae rfl rfl za5 rfl rfl) ?_;refine X0 (zae rfl rfl za5 rfl rfl) ?_;refine X0 (zo (T:=(bsl u8T)) (xs:=[_,_,_]) rfl zdF zde ⟨rfl,rfl,rfl,rfl,rfl,rfl,trivial⟩ rfl rfl) ?_
   refine XK.e (fun fr' hfr kk H=>by exact zaE (zeW [[1],linkRoot (l.take (halfN l.length)),linkRoot (l.drop (halfN l.length))] (by simp;omega)) rfl fn_80 ⟨(zd ((hfr 32 (by decide +kernel)).trans rfl)),trivial⟩ rfl rfl rfl (zz H)) ?_;refine X0 aO ?_;refine XK.nil' ?_
   exact zb rfl rfl (zg rfl rfl (by unfold textL;rw [if_neg ht8,if_neg (by omega)];unfold nodeText;simp))
theorem down_ok (n:Nat):∀(a b:List Ab.Id),a.length≤n→a.length≤1000000→b.length≤1000000→DownCall a b (diffF n a b).1 (diffF n a b).2.1 (diffF n a b).2.2:=by
 induction n using Nat.strongRecOn with
 | _ n ih =>
 intro a b hn hal hbl J nx fr k ops rest o d x ya yb ts X Y hP ho hd hg hlt hx hya hyb H
 cases J
 dsimp only at hP
 subst hP
 refine aw_inlinec ho hd hg hlt hx Tryz.func40 fn_40 rfl rfl (by intro n hn;simp only [List.mem_cons,List.not_mem_nil,or_false] at hn;rcases hn with rfl|rfl|rfl<;>rfl) (fun ia iok=>?_)
 have hargs:((#[ya,yb]:Array Operand).toList.map fr.ev++([0,1,2]:List Nat).map fun n=>AV.ptr n 0)=[.val (bsl idT) a,.val (bsl idT) b,.ptr 0 0,.ptr 1 0,.ptr 2 0]:=by simp [hya,hyb]
 rw [hargs]
 refine CQR ?_;refine qa7 ?_;refine A0 (oCl (zs (text_ok a (by omega))) rfl fn_41 ⟨(zd rfl),trivial⟩) ?_;refine qar ?_;refine A0 (oCl (zs (text_ok b (by omega))) rfl fn_41 ⟨(zd rfl),trivial⟩) ?_;refine zh rfl rfl rfl rfl rfl (Lens.self _) zbT rfl ?_;refine zh rfl rfl rfl rfl rfl (Lens.self _) zbT rfl ?_;refine CN ?_;refine aw_heq (hp':=HD (textL a) (textL b)) (hd_two _ _ _ _) ?_;refine CQQR ?_;refine A0 (oLs rfl rfl rfl zbT) ?_;refine A0 (oLs rfl rfl rfl zbT) ?_
 refine A0 (oCl (bequal_ok (textL a) (textL b)) rfl fn_42 ⟨(zd rfl),(zd rfl),trivial⟩) ?_;refine qaE ?_;refine zj (p:=¬textL a=textL b) rfl (by simp) (fun ht17=>?_) (fun ht17=>?_)
 ·
  refine qam ?_;refine zc2 rfl ?_
  rw [diff_ne ht17] at H
  exact H
 ·
  have hte:=Classical.not_not.1 ht17
  refine CSQQR ?_;refine qa6 ?_;refine qa6 ?_;refine A0 (g_min rfl rfl rfl) ?_;refine qaz ?_;refine zj (p:=a.length<2∨b.length<2) rfl (by rw [decide_eq_decide];simp only [IntL.toI,id_eq];omega) (fun ht23=>?_) (fun ht23=>?_)
  ·
   refine qam ?_;refine zc2 rfl ?_
   rw [diff_few hte ht23] at H
   exact aw_heq rfl H
  ·
   obtain ⟨m,rfl⟩:∃m,n=m+1:=⟨n-1,by omega⟩
   have hpa:=zdK a.length
   have hha:=zff (n:=a.length) (by omega)
   have hpb:=zdK b.length
   have hhb:=zff (n:=b.length) (by omega)
   have ihl:=@ih m (Nat.lt_succ_self m) (a.take (halfN a.length)) (b.take (halfN b.length)) (by simp;omega) (by simp;omega) (by simp;omega)
   have ihr:=@ih m (Nat.lt_succ_self m) (a.drop (halfN a.length)) (b.drop (halfN b.length)) (by simp;omega) (by simp;omega) (by simp;omega)
   have hdn:diffF (m+1) a b=if (diffF m (a.take (halfN a.length)) (b.take (halfN b.length))).2.2=true then diffF m (a.take (halfN a.length)) (b.take (halfN b.length)) else diffF m (a.drop (halfN a.length)) (b.drop (halfN b.length)):=by rw [diffF,if_neg ht17,if_neg ht23]
   rw [hdn] at H
   obtain ⟨A2,B2,r,hr⟩:∃A2 B2 r,diffF m (a.take (halfN a.length)) (b.take (halfN b.length))=(A2,B2,r):=⟨_,_,_,rfl⟩
   rw [hr] at ihl H
   cases r
   ·
    refine CSQR ?_;refine qa6 ?_;refine A0 (oCl (chalf_ok a.length (by omega) (by omega)) rfl fn_43 ⟨(zd rfl),trivial⟩) ?_;refine qa6 ?_;refine A0 (oCl (chalf_ok b.length (by omega) (by omega)) rfl fn_43 ⟨(zd rfl),trivial⟩) ?_;refine A0 aV ?_;refine qaA ?_;refine zx [some 1,some 1,some 1,some 1,some 1,some 1,some 1,none,some 1,some 1,some 1,some 1,some 1,some 1,some 1,some 1,none,some 1,some 1] mixed (by decide +kernel) ?_;refine X0 (by first|exact za2 rfl rfl rfl rfl rfl ty_49|exact zcc rfl rfl rfl rfl ty_49) ?_;refine qaP ?_
    refine X0 (by first|exact zbt rfl rfl rfl (by first|rfl|omega) zak|exact zdy rfl rfl rfl zak (by first|assumption|omega|(simp;omega))) ?_;refine qaP ?_;refine X0 (by first|exact zbt rfl rfl rfl (by first|rfl|omega) zak|exact zdy rfl rfl rfl zak (by first|assumption|omega|(simp;omega))) ?_;refine XK.e (fun fr' hfr kk H=>by exact ihl rfl rfl rfl rfl rfl ((hfr 30 (by decide +kernel)).trans rfl) ((hfr 33 (by decide +kernel)).trans rfl) ((hfr 36 (by decide +kernel)).trans rfl) (zz H)) ?_;refine X0 mX ?_
    refine XK.gi (by first|exact za2 rfl rfl rfl rfl rfl ty_49|exact zcc rfl rfl rfl rfl ty_49) rfl rfl rfl rfl rfl rfl rfl rfl ?_;refine XK.gi (g_mv (.inl rfl) rfl) rfl rfl rfl rfl rfl rfl rfl rfl ?_;refine XK.gi (g_mv (.inl rfl) rfl) rfl rfl rfl rfl rfl rfl rfl rfl ?_;refine XK.gi (zeP rfl rfl rfl zak (by first|assumption|omega|(simp;omega))) rfl rfl rfl rfl rfl rfl rfl rfl ?_;refine XK.gi (g_mv (.inl rfl) rfl) rfl rfl rfl rfl rfl rfl rfl rfl ?_;refine XK.gi (g_mv (.inl rfl) rfl) rfl rfl rfl rfl rfl rfl rfl rfl ?_
    refine XK.gi (zeP rfl rfl rfl zak (by first|assumption|omega|(simp;omega))) rfl rfl rfl rfl rfl rfl rfl rfl ?_;refine XK.e (fun fr' hfr kk H=>by exact aw_unguard rfl rfl rfl ((hfr 38 (by decide +kernel)).trans rfl) rfl rfl (ihr rfl rfl rfl rfl rfl ((hfr 39 (by decide +kernel)).trans rfl) ((hfr 42 (by decide +kernel)).trans rfl) ((hfr 45 (by decide +kernel)).trans rfl) (zz H))) ?_;refine X0 oK ?_;refine X0 aX ?_;refine XK.nil' ?_;refine zc2 rfl ?_
    exact H
   ·
    refine CSQR ?_;refine qa6 ?_;refine A0 (oCl (chalf_ok a.length (by omega) (by omega)) rfl fn_43 ⟨(zd rfl),trivial⟩) ?_;refine qa6 ?_;refine A0 (oCl (chalf_ok b.length (by omega) (by omega)) rfl fn_43 ⟨(zd rfl),trivial⟩) ?_;refine A0 aV ?_;refine qaA ?_;refine zx [some 1,some 1,some 1,some 1,some 1,some 1,some 1,none,some 1,some 1,some 1,some 1,some 1,some 1,some 1,some 1,some 1,some 1,some 1] mixed (by decide +kernel) ?_;refine X0 (by first|exact za2 rfl rfl rfl rfl rfl ty_49|exact zcc rfl rfl rfl rfl ty_49) ?_;refine qaP ?_
    refine X0 (by first|exact zbt rfl rfl rfl (by first|rfl|omega) zak|exact zdy rfl rfl rfl zak (by first|assumption|omega|(simp;omega))) ?_;refine qaP ?_;refine X0 (by first|exact zbt rfl rfl rfl (by first|rfl|omega) zak|exact zdy rfl rfl rfl zak (by first|assumption|omega|(simp;omega))) ?_;refine XK.e (fun fr' hfr kk H=>by exact ihl rfl rfl rfl rfl rfl ((hfr 30 (by decide +kernel)).trans rfl) ((hfr 33 (by decide +kernel)).trans rfl) ((hfr 36 (by decide +kernel)).trans rfl) (zz H)) ?_;refine X0 mX ?_;refine XK.gn rfl rfl rfl rfl rfl rfl rfl rfl rfl ?_
    refine XK.gn rfl rfl rfl rfl rfl rfl rfl rfl rfl ?_;refine XK.gn rfl rfl rfl rfl rfl rfl rfl rfl rfl ?_;refine XK.gn rfl rfl rfl rfl rfl rfl rfl rfl rfl ?_;refine XK.gn rfl rfl rfl rfl rfl rfl rfl rfl rfl ?_;refine XK.gn rfl rfl rfl rfl rfl rfl rfl rfl rfl ?_;refine XK.gn rfl rfl rfl rfl rfl rfl rfl rfl rfl ?_;refine XK.gn rfl rfl rfl rfl rfl rfl rfl rfl rfl ?_;refine X0 oK ?_;refine X0 aV ?_;refine XK.nil' ?_;refine zc2 rfl ?_
    exact H
theorem differ_ok (a b:List Ab.Id) (hal:a.length≤1000000) (hbl:b.length≤1000000):Tells P 15 [.val (bsl idT) a,.val (bsl idT) b] (.tup3 (.val (sl u8T) (differOf a b).1) (.val (sl u8T) (differOf a b).2.1) (.val boolT (differOf a b).2.2)):=by
 refine zc Tryz.func15 rfl rfl rfl (fun ext w hext=>?_)
 refine ze (d:=0) rfl zi (fun hsl0=>?_)
 refine ze (d:=1) rfl zi (fun hsl1=>?_)
 refine qay ?_;refine A0 aL ?_;refine qbB ?_;refine qag ?_;refine A0 (oCl (equalId a b) rfl fn_39 ⟨(zd rfl),(zd rfl),trivial⟩) ?_;refine qar ?_;refine Sp (d:=13) (p:=a=b) (fun g13=>?_) (fun g13=>?_)
 ·
  refine qaJ ?_;refine A2 ?_;refine qaq ?_;refine Ct ?_;refine qb0 ?_
  exact zap rfl rfl (by unfold differOf;rw [if_pos (.inl g13)];exact zau rfl) (by unfold differOf;rw [if_pos (.inl g13)];exact zau rfl) (za rfl (by unfold differOf;rw [if_pos (.inl g13)]))
 ·
  refine A1 mV ?_;refine A1 (oCl (zcG a (by omega)) rfl fn_17 ⟨(zd rfl),trivial⟩) ?_;refine A1 mV ?_;refine A1 (oCl (zcG b (by omega)) rfl fn_17 ⟨(zd rfl),trivial⟩) ?_;refine A1 (zbQ rfl rfl rfl (zbJ)) ?_;refine qaq ?_;refine zj (p:=¬linkRoot a=linkRoot b) rfl (by simp) (fun ht19=>?_) (fun ht19=>?_)
  ·
   refine qb0 ?_
   exact zap rfl rfl (by unfold differOf;rw [if_pos (.inr ht19)];exact zau rfl) (by unfold differOf;rw [if_pos (.inr ht19)];exact zau rfl) (za rfl (by unfold differOf;rw [if_pos (.inr ht19)]))
  ·
   have hdf:differOf a b=if (diffF a.length a b).2.2=true then diffF a.length a b else ([],[],false):=by unfold differOf;rw [if_neg (fun h=>h.elim g13 ht19)]
   have hdn:=@down_ok a.length a b (Nat.le_refl _) hal hbl
   obtain ⟨A,B,r,hr⟩:∃A B r,diffF a.length a b=(A,B,r):=⟨_,_,_,rfl⟩
   rw [hr] at hdn hdf
   refine CSQR ?_;refine zI ze_46 rfl rfl rfl rfl ?_;refine zI ze_46 rfl rfl rfl rfl ?_;refine CNQR ?_;refine aw_alloc_p zp_49 rfl rfl rfl rfl rfl rfl ?_;refine CNQR ?_;refine A0 (g_mkf (caps:=[_,_,_]) rfl rfl) ?_;refine zdk rfl rfl rfl rfl rfl rfl rfl rfl rfl rfl ty_49 ?_;refine CN ?_;refine aw_heq (hp':=HD [] []) (hd_init _ _ _) ?_;refine CQQR ?_;refine A0 (by first|exact za2 rfl rfl rfl rfl rfl ty_49|exact zcc rfl rfl rfl rfl ty_49) ?_;refine qag ?_;refine hdn rfl rfl rfl rfl rfl rfl rfl rfl ?_;refine qaE ?_
   refine zj (p:=r=false) rfl (by cases r<;>rfl) (fun ht25=>?_) (fun ht25=>?_)
   ·
    refine qb0 ?_
    exact zap rfl rfl (by rw [hdf,if_neg (by rw [ht25];simp)];exact zau rfl) (by rw [hdf,if_neg (by rw [ht25];simp)];exact zau rfl) (za rfl (by rw [hdf,if_neg (by rw [ht25];simp)]))
   ·
    refine CS ?_;refine qa0 ?_;refine G0 (oLs rfl rfl rfl zbT) ?_;refine G0 (oLs rfl rfl rfl zbT) ?_;refine G0 aV ?_;refine G0 aV ?_;refine qa3 ?_
    exact zap rfl rfl (za rfl (by rw [hdf,if_pos (by simpa using ht25)])) (za rfl (by rw [hdf,if_pos (by simpa using ht25)])) (za rfl (by rw [hdf,if_pos (by simpa using ht25)];simpa using ht25))
set_option maxRecDepth 20000
theorem awake18_ok:Tells P 9 [] (.val boolT true):=by
 refine zc Tryz.func9 rfl rfl rfl (fun ext w hext=>?_)
 have hw0:(levelsP easyP)[0]?=some 31:=by show some (headLevel easyH)=_;rw [easy_level]
 have hw1:(idsP easyP)[1]?=some (headId easyB.h):=rfl
 have hw2:([easyB0,easyB]:List Block)[1]?=some easyB:=rfl
 refine CQR ?_;refine qai ?_;refine A0 (oCl (two_ok) rfl fn_29 trivial) ?_;refine qa7 ?_;refine A0 (oCl (prBuild_ok [easyB0,easyB] 1 1 small_easyC) rfl fn_30 ⟨(zd rfl),(zd rfl),(zd rfl),trivial⟩) ?_;refine A0 mX ?_;refine A0 (by first|exact zW rfl rfl|exact zU rfl rfl) ?_;refine zp (d:=10) (y:=easyP) rfl easy_pr ?_;refine A0 (by first|exact zY rfl rfl|exact zX rfl rfl) ?_;refine zp (d:=11) (y:=(0:Int)) rfl easy_prE ?_;refine zI ze_24 rfl rfl rfl rfl ?_;refine qbl ?_;refine qah ?_;refine A0 zd2 ?_;refine qar ?_;refine zd9 (d:=14) rfl (rfl) ?_
 refine A1 (oFp zcd) ?_;refine A1 (oLb zbF ze2) ?_;refine A1 (zah rfl rfl isl_22) ?_;refine A1 zd2 ?_;refine qaw ?_;refine zd9 (d:=20) rfl (rfl) ?_;refine A1 (oLs rfl rfl rfl zdG) ?_;refine A1 (oCl (checkP_ok easyP) rfl fn_11 ⟨(zd rfl),trivial⟩) ?_;refine A1 zd2 ?_;refine qaw ?_;refine zd9 (d:=25) rfl (by rw [easy_check];rfl) ?_;refine A1 (zV rfl ze_24 bd_24 .nil rfl) ?_;refine A1 (oCl (checkP_ok zProof) rfl fn_11 ⟨(zd rfl),trivial⟩) ?_;refine A1 zd2 ?_;refine qaq ?_;refine zeG rfl (by rw [zero_check];rfl) ?_;refine CSQR ?_;refine qbQ ?_
 refine A0 (oCl (zs (levelsP_ok easyP (by decide))) rfl fn_12 ⟨(zd rfl),trivial⟩) ?_;refine qai ?_;refine qbQ ?_;refine A0 (oCl (zs (ids_ok easyP (by decide))) rfl fn_20 ⟨(zd rfl),trivial⟩) ?_;refine qbF ?_;refine G0 mV ?_;refine G0 (zah rfl rfl isl_29) ?_;refine G0 zbU ?_;refine G0 mV ?_;refine GK_ist (d:=37) rfl (rfl) ?_;refine G1 mV ?_;refine G1 (zm (i:=0) rfl rfl rfl (by omega) sl_29 (by assumption)) ?_;refine G1 (zf rfl rfl ty_3) ?_;refine G1 zbU ?_;refine qbj ?_;refine GK_ist (d:=43) rfl (rfl) ?_;refine G1 mV ?_;refine G1 (zah rfl rfl zaJ) ?_
 refine G1 zbU ?_;refine qbj ?_;refine GK_ist (d:=48) rfl (rfl) ?_;refine G1 mV ?_;refine G1 (zm (i:=1) rfl rfl rfl (by omega) zak (by assumption)) ?_;refine G1 (zf rfl rfl zM) ?_;refine G1 mV ?_;refine G1 (zm (i:=1) rfl rfl rfl (by omega) zcR (by assumption)) ?_;refine G1 (oFr zan zE) ?_;refine G1 (zf rfl rfl zao) ?_;refine G1 (oCl (zdx easyB.h) rfl fn_14 ⟨(by first|exact zq rfl|exact zC rfl|exact zy rfl rfl|exact zA rfl|exact zr rfl|exact zL rfl rfl|exact zB rfl),trivial⟩) ?_
 refine G1 (zcM rfl rfl rfl (zbJ)) ?_;refine qbj ?_;refine GK_ist (d:=59) rfl (by simp) ?_;refine G1 mV ?_;refine G1 (zm (i:=1) rfl rfl rfl (by omega) zak (by assumption)) ?_;refine G1 (zf rfl rfl zM) ?_;refine G1 (zaA rfl za5 ze_32 rfl) ?_;refine G1 (zbQ rfl rfl rfl (zbJ)) ?_;refine G0 oK ?_;refine qa3 ?_
 exact zb rfl rfl (za rfl (by rw [easy_nz];rfl))
set_option maxRecDepth 20000
def Ids32 (l:List Ab.Id):Prop:=∀x∈l,x.length=32
theorem Ids32.take {l:List Ab.Id} (h:Ids32 l) (n:Nat):Ids32 (l.take n):=fun x hx=>h x (List.mem_of_mem_take hx)
theorem Ids32.drop {l:List Ab.Id} (h:Ids32 l) (n:Nat):Ids32 (l.drop n):=fun x hx=>h x (List.mem_of_mem_drop hx)
end Go.Proofs.YtjldddonpfopaaaGreat
