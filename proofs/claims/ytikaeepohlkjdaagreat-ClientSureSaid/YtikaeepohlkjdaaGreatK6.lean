/- Parts of the proof: the layer that reads Go values as data, and what the functions of the program tell. -/
import Derived.Test.YtikaeepohlkjdaaGreatK5
set_option linter.unusedVariables false
set_option linter.unusedSimpArgs false
set_option maxRecDepth 20000
namespace Go.Proofs.YtikaeepohlkjdaaGreat
open Go.Ab Go.RowKit
def zaA:Tip→List Block→Tip×Int
  | t,[]=>(t,0)
  | t,b::l=>if zd4 t b=0 then zaA (zj3 t b) l else (zTip,zd4 t b)
def zH (l:List Block):Tip×Int :=
  match l with
  | []=>(zTip,9)
  | g::r=>if zbQ g.h.bits=true∧(zaq g.h.bits).b=g then zaA (zaq g.h.bits) r else (zTip,12)
def zpP (l:List Block) (t:List Tx) (nonce:UInt64):Int:=if (zH l).2=0 then zfC (zH l).1 t nonce 200 else (zH l).2
def zk2 (l:List Block) (t:List Tx) (nonce:UInt64):List Block:=if zpP l t nonce=0 then l++[zts (zH l).1 t nonce 200] else l
def zbz (l:List Block) (id:Ab.Id):Int:=idx (fun b=>decide (zw b.h=id)) l
def zo (l:List Block):List Int:=l.map fun b=>zQ b.h
def zfJ (l:List Block):List Total:=l.map fun b=>zfK b.h
def zia (l:List Block):Prop:=l.length*232≤140737488351232∧∀b∈l,zge b
def Chain (l:List Block) (t:Tip):Prop:=zH l=(t,0)
theorem zll:∀{l m:List Block} {t:Tip},zaA t (l++m)=if (zaA t l).2=0 then zaA (zaA t l).1 m else zaA t l
  | [],m,t=>by simp[zaA]
  | b::l,m,t=>by
    rw[List.cons_append,zaA,zaA];by_cases h:zd4 t b=0
    · rw[ut h,ut h];exact zll
    rw[ur h,ur h,ur h]
theorem zki {l m:List Block} (h:¬l=[]):zH (l++m)=if (zH l).2=0 then zaA (zH l).1 m else zH l:=by
  cases l with
  | nil=>exact absurd rfl h
  | cons g r =>
    rw[List.cons_append];unfold zH;simp only[];by_cases h:zbQ g.h.bits=true∧(zaq g.h.bits).b=g
    · rw[ut h,ut h];exact zll
    rw[ur h,ur h];rfl
theorem zjt {l:List Block} (h:(zH l).2=0):¬l=[]:=fun e=>by rw[e] at h;exact absurd h yp
theorem zuc {l:List Block} {b:Block} (h:(zH l).2=0):zH (l++[b])=if zd4 (zH l).1 b=0 then (zj3 (zH l).1 b,0) else (zTip,zd4 (zH l).1 b):=by
  rw[zki (zjt h),ut h];rfl
theorem zdr {l:List Block} (h:(zH l).2=0):Chain l (zH l).1:=by unfold Chain;rw[←h]
theorem zhm {b:Block} {t:Tip} (h:Chain [b] t):zbQ b.h.bits=true∧b=⟨zid b.h.bits,[],[]⟩∧t=zaq b.h.bits:=by
  unfold Chain zH at h;simp only[] at h;by_cases c:zbQ b.h.bits=true∧(zaq b.h.bits).b=b
  · rw[ut c] at h
    refine⟨c.1,?_,(congrArg (·.1) h).symm⟩
    have:=c.2
    rw[zda c.1] at this;exact this.symm
  rw[ur c] at h;exact absurd (congrArg (·.2) h) (by show ¬(12:Int)=0;decide)
theorem chain_snoc {l:List Block} {b:Block} {t:Tip} (hl:¬l=[]) (h:Chain (l++[b]) t):∃t',Chain l t'∧zd4 t' b=0∧t=zj3 t' b:=by
  unfold Chain at h;rw[zki hl] at h;by_cases c:(zH l).2=0
  · rw[ut c] at h
    rw[zaA] at h;by_cases d:zd4 (zH l).1 b=0
    · rw[ut d,zaA] at h
      exact⟨_,zdr c,d,(congrArg (·.1) h).symm⟩
    rw[ur d] at h;exact absurd (congrArg (·.2) h) d
  rw[ur c] at h;exact absurd (congrArg (·.2) h) c
theorem zln {P:List Block→Tip→Prop} (h1:∀bits,zbQ bits=true→P [⟨zid bits,[],[]⟩] (zaq bits)) (h2:∀l t b,Chain l t→P l t→zd4 t b=0→P (l++[b]) (zj3 t b)):∀(n:Nat) (l:List Block) (t:Tip),l.length=n→Chain l t→P l t
  | 0,l,t,hn,h=>absurd (List.eq_nil_of_length_eq_zero hn) (zjt (congrArg (·.2) h))
  | n+1,l,t,hn,h=>by
    have hl:¬l=[]:=fun e=>by rw[e] at hn;cases hn
    obtain⟨r,b,rfl⟩:∃r b,l=r++[b]:=⟨l.dropLast,l.getLast hl,(List.dropLast_concat_getLast hl).symm⟩;by_cases hr:r=[]
    · subst hr
      obtain⟨e1,e2,e3⟩:=zhm h;rw[e3,List.nil_append]
      have:=h1 b.h.bits e1
      rw[←e2] at this;exact this
    obtain⟨t',e1,e2,e3⟩:=chain_snoc hr h;rw[e3];exact h2 _ _ _ e1 (zln h1 h2 n r t' (by simp at hn;omega) e1) e2
theorem zgv {l:List Block} {t:Tip} (h:Chain l t):l.getLast?=some t.b∧t.b.h.height=(l.length:Int)-1∧l.length≤48∧t.p=(zfJ l).foldl zaO []∧(∃g,l[0]?=some g∧t.b.h.bits=g.h.bits):=by
  refine zln (P:=fun l t=>l.getLast?=some t.b∧t.b.h.height=(l.length:Int)-1∧l.length≤48∧t.p=(zfJ l).foldl zaO []∧(∃g,l[0]?=some g∧t.b.h.bits=g.h.bits)) (fun bits hb=>?_) (fun l t b hc hi hp=>?_) l.length l t rfl h
  · rw[zda hb]
    exact⟨rfl,rfl,Nat.le_of_ble_eq_true rfl,rfl,_,rfl,rfl⟩
  obtain⟨i1,i2,i3,i4,g,i5,i6⟩:=hi;obtain⟨p1,p2,_⟩:=zfH.1 hp;have hne:0<l.length:=List.length_pos_iff.2 (zjt (congrArg (·.2) hc));have e:b.h.height=IntKind.i64.wrap (t.b.h.height+1):=congrArg (·.height) p2;rw[i2,zax yc] at e;rw[zni hp];refine⟨by simp,?_,?_,?_,g,?_,?_⟩
  · show b.h.height=_
    rw[e,ue,List.length_singleton];omega
  · rw[ue,List.length_singleton];omega
  · show zaO t.p (zfK b.h)=_
    rw[i4];unfold zfJ;rw[List.map_append,List.foldl_append];rfl
  · rw[List.getElem?_append_left hne];exact i5
  show b.h.bits=_;rw[show b.h.bits=t.b.h.bits from congrArg (·.bits) p2,i6]
theorem zf1 {l:List Block} {t:Tip} {i:Nat} (h:Chain l t) (hi:1≤i) (hl:i≤l.length):∃t',Chain (l.take i) t'∧zaA t' (l.drop i)=(t,0):=by
  have hne:¬l.take i=[]:=fun e=>by have:=congrArg List.length e;rw[um] at this;change min i l.length=0 at this;omega
  have h0:zH (l.take i++l.drop i)=(t,0):=by rw[List.take_append_drop];exact h
  rw[zki hne] at h0;by_cases c:(zH (l.take i)).2=0
  · rw[ut c] at h0;exact⟨_,zdr c,h0⟩
  rw[ur c] at h0;exact absurd (congrArg (·.2) h0) c
theorem zjv {l:List Block} {t:Tip} {i:Nat} {b:Block} (h:Chain l t) (hi:1≤i) (hb:l[i]?=some b):∃t',Chain (l.take i) t'∧zd4 t' b=0∧l[i-1]?=some t'.b:=by
  obtain⟨hl,e⟩:=ul.1 hb;obtain⟨t',h1,h2⟩:=zf1 h hi (Nat.le_of_lt hl);rw[List.drop_eq_getElem_cons hl,e,zaA] at h2;refine⟨t',h1,?_,?_⟩
  · by_cases c:zd4 t' b=0
    · exact c
    rw[ur c] at h2;exact absurd (congrArg (·.2) h2) c
  have:=(zgv h1).1
  have h5:(l.take i)[i-1]?=l[i-1]?:=by rw[List.getElem?_take];split<;>first|rfl|omega
  rw[List.getLast?_eq_getElem?,um,Nat.min_eq_left (Nat.le_of_lt hl),h5] at this;exact this
theorem chain_prev {l:List Block} {t:Tip} {i:Nat} {a b:Block} (h:Chain l t) (ha:l[i]?=some a) (hb:l[i+1]?=some b):b.h.prev=zw a.h:=by
  obtain⟨t',_,h2,h3⟩:=zjv h yc hb;rw[Nat.add_sub_cancel,ha] at h3;injection h3 with h3;rw[h3];exact congrArg (·.prev) (zfH.1 h2).2.1
theorem zis {t:Tip} (h1:t.b.l=[]) (h2:t.b.t=[]) (h3:Nat.ble t.p.length 1=true) (h4:t.c=[]):zgI t:=by
  have:=Nat.le_of_ble_eq_true h3
  refine⟨⟨by rw[h1];decide,by rw[h2];decide,fun x hx=>by rw[h2] at hx;cases hx⟩,by omega,by rw[h4];decide⟩
def zs5 (t:Tip) (n:Nat):Prop:=zgI t∧t.p.length≤n+1∧t.b.h.height=n
theorem zoa {t:Tip} {b:Block} {n:Nat} (ht:zs5 t n) (hn:n≤1000000000000) (hb:zge b) (h:zd4 t b=0):zs5 (zj3 t b) (n+1):=by
  obtain⟨h6,h7,_,_,h5⟩:=zfH.1 h;rw[zni h];have h1:=zrJ (p:=t.p) (x:=zfK b.h);have h2:=zfg (zvS (l:=b.t) (apply_may h5)).1;obtain⟨_,h3,h4⟩:=ht;have e:b.h.height=IntKind.i64.wrap (t.b.h.height+1):=congrArg (·.height) h7;rw[h4,zax yc] at e;refine⟨⟨hb,?_,?_⟩,?_,?_⟩
  · show(zaO t.p (zfK b.h)).length≤1000
    omega
  · show(zad t.c b.t).1.length≤1000
    omega
  · show(zaO t.p (zfK b.h)).length≤n+1+1
    omega
  show b.h.height=_;rw[e];omega
theorem zoL {bits:UInt32}:zs5 (zaq bits) 0:=by
  by_cases h:zbQ bits=true
  · rw[zda h];exact⟨zis rfl rfl rfl rfl,Nat.le_of_ble_eq_true rfl,rfl⟩
  have:zaq bits=zTip:=by unfold zaq;rw[ur h]
  rw[this];exact⟨zis rfl rfl rfl rfl,Nat.le_of_ble_eq_true rfl,rfl⟩
theorem ziZ:∀{l:List Block} {t:Tip} {n:Nat},zs5 t n→n+l.length≤1000000000000→(∀b∈l,zge b)→zgI (zaA t l).1
  | [],t,n,ht,_,_=>ht.1
  | b::l,t,n,ht,hn,hl=>by
    rw[zaA];rw[List.length_cons] at hn
    split
    · rename_i h
      exact ziZ (zoa ht yc (hl b yy) h) yc fun x hx=>hl x (by simp[hx])
    exact zis rfl rfl rfl rfl
theorem zvC {l:List Block} (h:zia l):zgI (zH l).1:=by
  cases l with
  | nil=>exact zis rfl rfl rfl rfl
  | cons g r =>
    unfold zH;simp only[]
    split
    · refine ziZ zoL ?_ fun x hx=>h.2 x (by simp[hx])
      have:=h.1
      rw[List.length_cons] at this;omega
    exact zis rfl rfl rfl rfl
set_option maxRecDepth 20000
def zb1 (v:Nat→Int) (n:Int):Nat→Nat
  | 0=>0
  | i+1=>if 1≤i∧n≤v i∧0<n then i else zb1 v n i
theorem ziG {v u:Nat→Int} {n:Int}:∀{i:Nat},(∀k,k<i→v k=u k)→zb1 v n i=zb1 u n i
  | 0,_=>rfl
  | i+1,h=>by
    rw[zb1,zb1,h i yc,ziG (i:=i) fun k hk=>h k yc]
theorem zkU {v:Nat→Int} {n:Int}:∀{i:Nat},zb1 v n i<i∨zb1 v n i=0
  | 0=>.inr rfl
  | i+1=>by
    rw[zb1]
    split
    · left;omega
    have:=zkU (v:=v) (n:=n) (i:=i);omega
def za7 (l:List Block) (k:Nat):Int:=(l[k]?.map fun b=>zQ b.h).getD 0
def idAt (l:List Block) (k:Nat):Ab.Id:=(l[k]?.map fun b=>zw b.h).getD []
def Linked (l:List Block) (L:List Ab.Id):Prop:=1≤L.length∧L.length≤32∧L[0]?=some (idAt l 0)∧∀n:Nat,1≤n→n≤31→(n<L.length→0<zb1 (za7 l) n l.length∧L[n]?=some (idAt l (zb1 (za7 l) n l.length)))∧(L.length≤n→zb1 (za7 l) n l.length=0)
theorem zsr {l:List Block} {b:Block} {k:Nat} (h:k<l.length):za7 (l++[b]) k=za7 l k∧idAt (l++[b]) k=idAt l k:=by
  unfold za7 idAt;rw[List.getElem?_append_left h];exact⟨rfl,rfl⟩
theorem at_last {l:List Block} {b:Block}:za7 (l++[b]) l.length=zQ b.h∧idAt (l++[b]) l.length=zw b.h:=by
  unfold za7 idAt;rw[List.getElem?_append_right (ug _),Nat.sub_self];exact⟨rfl,rfl⟩
theorem zvc {l:List Block} {L:List Ab.Id} {b:Block} (hl:1≤l.length) (h:Linked l L):Linked (l++[b]) (zca L (zw b.h) (zQ b.h)):=by
  obtain⟨h1,h2,h3,h4⟩:=h;have e0:idAt (l++[b]) 0=idAt l 0:=(zsr yc).2;have la:∀n:Nat,zb1 (za7 (l++[b])) n (l++[b]).length=if n≤zQ b.h∧(0:Int)<n then l.length else zb1 (za7 l) n l.length:=fun n=>by
    rw[ue,List.length_singleton,zb1,(at_last (l:=l) (b:=b)).1,ziG fun k hk=>(zsr hk).1];by_cases c:(n:Int)≤zQ b.h∧(0:Int)<n
    · rw[ut c,ut ⟨hl,c.1,c.2⟩]
    rw[ur c,ur fun x=>c ⟨x.2.1,x.2.2⟩]
  have ll:∀n:Nat,zb1 (za7 l) n l.length<l.length:=fun n=>by
    have:=zkU (v:=za7 l) (n:=n) (i:=l.length);omega
  unfold zca;rw[ur yc,ur yc];by_cases c:zQ b.h<1
  · rw[ut c]
    refine⟨h1,h2,by rw[e0];exact h3,fun n hn hn'=>?_⟩;rw[la n,ur yc];rw[(zsr (ll n)).2];exact h4 n hn hn'
  rw[ur c];obtain⟨m,hm⟩:∃m,m=(min (zQ b.h) 31).toNat:=⟨_,rfl⟩;rw[←hm];have hm1:1≤m∧m≤31:=yc;have hlen:(L.take 1++List.replicate m (zw b.h)++L.drop (m+1)).length=max (m+1) L.length:=by
    simp only[ue,um,List.length_replicate,List.length_drop];omega
  have ht1:(L.take 1).length=1:=ybH;have get_lo:∀n:Nat,1≤n→n≤m→(L.take 1++List.replicate m (zw b.h)++L.drop (m+1))[n]?=some (zw b.h):=fun n hn hn'=>by
    rw[List.append_assoc,List.getElem?_append_right yc,List.getElem?_append_left (by rw[List.length_replicate];omega),List.getElem?_replicate,ut yc]
  have get_hi:∀n:Nat,m<n→(L.take 1++List.replicate m (zw b.h)++L.drop (m+1))[n]?=L[n]?:=fun n hn=>by
    rw[List.getElem?_append_right (by simp only[ue,ht1,List.length_replicate];omega),List.getElem?_drop];congr 1;simp only[ue,ht1,List.length_replicate];omega
  refine⟨by rw[hlen];omega,by rw[hlen];omega,?_,fun n hn hn'=>?_⟩
  · rw[List.append_assoc,List.getElem?_append_left yc,List.getElem?_take,e0];simpa using h3
  rw[hlen,la n];by_cases d:n≤m
  · rw[ut yc,get_lo n hn d,(at_last (l:=l) (b:=b)).2]
    exact⟨fun _=>⟨by omega,rfl⟩,fun h=>by omega⟩
  rw[ur yc,get_hi n yc,(zsr (ll n)).2];obtain⟨a1,a2⟩:=h4 n hn hn';exact⟨fun h=>a1 yc,fun h=>a2 yc⟩
theorem zkj {l:List Block} {t:Tip} (h:Chain l t):Linked l (zes t):=by
  refine zln (P:=fun l t=>Linked l (zes t)) (fun bits hb=>?_) (fun l t b hc hi hp=>?_) l.length l t rfl h
  · rw[zda hb]
    show Linked _ (zca [] (zw (zid bits)) _);unfold zca;rw[ur yp,ut (show([]:List Ab.Id).length=0 from rfl)];refine⟨Nat.le_of_ble_eq_true rfl,Nat.le_of_ble_eq_true rfl,rfl,fun n hn hn'=>⟨fun h=>?_,fun _=>rfl⟩⟩;rw[List.length_singleton] at h;omega
  have e : zes (zj3 t b) = zca (zes t) (zw b.h) (zQ b.h) := by
    rw[zni hp];show zca b.l _ _=_;rw[(zfH.1 hp).2.2.1]
  rw[e];exact zvc (List.length_pos_iff.2 (zjt (congrArg (·.2) hc))) hi
theorem zvg {l:List Block} {i:Nat} (h:i≤l.length) (n:Int):zb1 (za7 (l.take i)) n (l.take i).length=zb1 (za7 l) n i:=by
  rw[um,Nat.min_eq_left h];refine ziG fun k hk=>?_
  unfold za7;rw[List.getElem?_take,ut hk]
theorem ztG {l:List Block} {i k:Nat} (h:k<i):idAt (l.take i) k=idAt l k:=by
  unfold idAt;rw[List.getElem?_take,ut h]
theorem zi0 {l:List Block} {t:Tip} {i:Nat} {b:Block} (h:Chain l t) (hi:1≤i) (hb:l[i]?=some b):b.l[0]?=some (idAt l 0)∧∀n:Nat,n≤31→(n<b.l.length→b.l[n]?=some (idAt l (zb1 (za7 l) n i))∧(n=0∨0<zb1 (za7 l) n i))∧(b.l.length≤n→zb1 (za7 l) n i=0):=by
  obtain⟨t',h1,h2,h3⟩:=zjv h hi hb;obtain⟨hl,_⟩:=ul.1 hb;have e:b.l=zes t':=(zfH.1 h2).2.2.1;obtain⟨a1,a2,a3,a4⟩:=zkj h1;rw[←e] at a1 a2 a3 a4;rw[ztG yc] at a3;refine⟨a3,fun n hn=>?_⟩;by_cases hn0:n=0
  · subst hn0
    have z:zb1 (za7 l) ((0:Nat):Int) i=0:=by
      have:∀j,zb1 (za7 l) ((0:Nat):Int) j=0:=fun j=>by
        induction j with
        | zero=>rfl
        | succ j ih=>rw[zb1,ur yc];exact ih
      exact this i
    rw[z];exact⟨fun _=>⟨a3,.inl rfl⟩,fun _=>rfl⟩
  obtain⟨b1,b2⟩:=a4 n yc hn;rw[zvg yc] at b1 b2;have hlt:zb1 (za7 l) n i<i:=by have:=zkU (v:=za7 l) (n:=n) (i:=i);omega
  rw[ztG hlt] at b1;exact⟨fun h=>⟨(b1 h).2,.inr (b1 h).1⟩,b2⟩
theorem zvD {l:List Block} {t:Tip} (h:Chain l t):(∀x∈t.p,zhu x)∧(zbw t.p).n=l.length:=by
  refine zln (P:=fun l t=>(∀x∈t.p,zhu x)∧(zbw t.p).n=l.length) (fun bits hb=>?_) (fun l t b hc hi hp=>?_) l.length l t rfl h
  · rw[zda hb]
    refine⟨fun x hx=>?_,rfl⟩;rw[List.mem_singleton.1 hx];exact⟨zfi _,by show(-9223372036854775808:Int)≤1;decide,by show(1:Int)≤9223372036854775807;decide⟩
  have hlen:=(zgv hc).2.2.1;rw[zni hp];obtain⟨i1,i2⟩:=hi;refine⟨fun x hx=>?_,?_⟩
  · have hr:∀y∈t.p.reverse,zhu y:=fun y hy=>i1 y (by simpa using hy)
    have hg:zhu (zfK b.h):=⟨zfi _,by show(-9223372036854775808:Int)≤1;decide,by show(1:Int)≤9223372036854775807;decide⟩;refine(zob hr hg).1 x ?_;have hx:x∈zaO t.p (zfK b.h):=hx;unfold zaO at hx;simpa using hx
  show(zbw (zaO t.p (zfK b.h))).n=_;rw[(append_sum i1).2,i2,zax yc,ue,List.length_singleton];omega
theorem zvf {l:List Block} {i:Nat}:zfJ (l.take i)=(zfJ l).take i:=by unfold zfJ;rw[List.map_take]
theorem zfn {l:List Block} {t:Tip} {i:Nat} {b a g:Block} (h:Chain l t) (hi:1≤i) (hb:l[i]?=some b) (ha:l[i-1]?=some a) (hg:l[0]?=some g):b.h.height=i∧b.h.prev=zw a.h∧b.h.past=(zbw (((zfJ l).take i).foldl zaO [])).h∧b.h.work=(zbw (((zfJ l).take i).foldl zaO [])).w∧(zbw (((zfJ l).take i).foldl zaO [])).n=i∧b.h.bits=g.h.bits∧b.h.links=zal b.l∧zbx b.h=true:=by
  obtain⟨t',h1,h2,h3⟩:=zjv h hi hb;obtain⟨hl,_⟩:=ul.1 hb;obtain⟨c1,c2,c3,c4,g',c5,c6⟩:=zgv h1;obtain⟨_,p2,p3,p4,_⟩:=zfH.1 h2;have hlt:(l.take i).length=i:=ybH;rw[zvf] at c4;rw[ha] at h3;injection h3 with h3;rw[List.getElem?_take,ut yc,hg] at c5;injection c5 with c5;rw[←c4];refine⟨?_,?_,congrArg (·.past) p2,congrArg (·.work) p2,?_,?_,?_,p4⟩
  · rw[show b.h.height=IntKind.i64.wrap (t'.b.h.height+1) from congrArg (·.height) p2,c2,hlt,zax yc];omega
  · rw[h3];exact congrArg (·.prev) p2
  · rw[(zvD h1).2,hlt]
  · rw[c5,←c6];exact congrArg (·.bits) p2
  rw[p3];exact congrArg (·.links) p2
theorem find_range {l:List Block} {id:Ab.Id}:-1≤zbz l id∧zbz l id<l.length∧(0≤zbz l id→∃b,l[(zbz l id).toNat]?=some b∧zw b.h=id):=by
  unfold zbz;have h1:=ziI (fun b:Block=>decide (zw b.h=id)) l;refine⟨h1,?_,fun h=>?_⟩
  · rcases idx_lt (p:=fun b:Block=>decide (zw b.h=id)) (l:=l) with h|h
    · exact h
    subst h;show(-1:Int)<0;decide
  obtain⟨x,h2,h3,_⟩:=znn h;exact⟨x,h2,of_decide_eq_true h3⟩
theorem find_self {l:List Block} {i:Nat} {b:Block} (hb:l[i]?=some b):∃k:Nat,zbz l (zw b.h)=k∧k≤i∧∃c,l[k]?=some c∧zw c.h=zw b.h:=by
  unfold zbz;by_cases h:0≤idx (fun c:Block=>decide (zw c.h=zw b.h)) l
  · obtain⟨x,h2,h3,h4⟩:=znn h
    have:=h4 i b hb yy
    exact⟨_,(Int.toNat_of_nonneg h).symm,by omega,x,h2,of_decide_eq_true h3⟩
  have:=zwS (Int.not_le.1 h) b (ud hb)
  simp at this
def zdb:Block:=⟨ziW,[],[]⟩
theorem zhX:zH [zdb]=(zfz,0):=by
  unfold zH;simp only[];have e:zaq zdb.h.bits=zfz:=zr6;rw[e,ut ⟨zr7,rfl⟩];rfl
theorem easy_growE:zpP [zdb] [] 0=0:=by
  unfold zpP;rw[zhX,ut rfl];exact zqJ
theorem easy_grown:zk2 [zdb] [] 0=[zdb,zbF]:=by
  unfold zk2;rw[easy_growE,ut rfl,zhX,easy_mineB];rfl
theorem zvx:zH [zdb,zbF]=(zxr,0):=by
  rw[show [zdb,zbF]=[zdb]++[zbF] from rfl,zuc (by rw[zhX]),zhX,zqI,ut rfl,easy_pushT]
theorem zvw:decide (0≤zQ zbF.h)=true:=yr
theorem easy_nz:decide (zw zbF.h=zId)=false:=yr
theorem zms:zge zdb:=by refine⟨by decide,by decide,fun t ht=>by cases ht⟩
theorem zs4:zia [zdb]:=⟨by decide,fun b hb=>by rw[List.mem_singleton.1 hb];exact zms⟩
theorem znS:zia [zdb,zbF]:=⟨by decide,fun b hb=>by
  rcases List.mem_cons.1 hb with h|h
  · rw[h];exact zms
  rw[List.mem_singleton.1 h];exact zuR⟩
def fewC (l:List Block):Bool:=l.all fewB&&decide ((l.length:Int)≤50)
theorem fewC_small {l:List Block} (h:fewC l=true):zia l:=by
  unfold fewC at h;rw[uk,uj] at h;exact⟨by omega,fun b hb=>fewB_small (List.all_eq_true.1 h.1 b hb)⟩
theorem zxi {l:List Block} (h:fewC l=true):l.length≤50:=by
  unfold fewC at h;rw[uk,uj] at h;omega
theorem zpO (l:List Block) (p:Block→Bool):Tells P 141 [.val (bsl zL) l,.fn1 P zL zm p] (.val i64T (idx p l)):=by
 refine zc Tryz.func141 rfl rfl rfl (fun ext w hext=>?_);refine ze (d:=0) rfl zk (fun hsl0=>?_);refine qcw ?_;refine xC ?_;refine qa2 ?_;refine Lp (ι:=Nat) 0 (fun (k:Nat)=>(((((Fr.none).set 0 (.val (bsl zL) l)).set 1 (.fn1 P zL zm p)).set 6 (.val (bsl zL) l)).set 7 (.val i64T (l.length:Int))).set 8 (.val i64T (k:Int))) (fun (k:Nat)=>Hp.none) (fun (k:Nat)=>k≤l.length∧idx p l=shift k (idx p (l.drop k))) (fun (k:Nat)=>l.length-k) (0) (⟨uf _,zdl p l⟩) ?_;intro k hinv;refine qak ?_;refine Cf (p:=k<l.length) (fun ht9=>?_) (fun ht9=>?_)
 ·
  obtain⟨x,hx⟩:∃x,l[k]?=some x:=ybc;refine qaE ?_;refine qaz ?_;refine A0 mF ?_;refine qao ?_;refine A0 (zby rfl rfl rfl zdz yh) ?_;refine A0 (zg rfl rfl zem) ?_;refine qaH ?_;refine zn (p:=p x=true) rfl yy (fun ht16=>?_) (fun ht16=>?_)
  ·
   refine qbK ?_;exact zb rfl rfl (za rfl (hinv.2.trans (zhJ hx ht16)).symm)
  refine qaZ ?_;exact Nx (k+1) (⟨by omega,hinv.2.trans (zk0 hx ht16)⟩) yc
 refine qcn ?_;exact zb rfl rfl (za rfl (hinv.2.trans (zhK yc)).symm)
theorem zsg {l:List Block} {g:Block} (h:l[0]?=some g) (h1:zbQ g.h.bits=true) (h2:(zaq g.h.bits).b=g):zH l=zaA (zaq g.h.bits) (l.drop 1):=by
  cases l with
  | nil=>cases h
  | cons x r =>
    injection h with h;subst h;unfold zH;simp only[];rw[ut ⟨h1,h2⟩];rfl
theorem zfP {l:List Block} {g:Block} (h:l[0]?=some g) (h1:¬(zbQ g.h.bits=true∧(zaq g.h.bits).b=g)):zH l=(zTip,12):=by
  cases l with
  | nil=>cases h
  | cons x r =>
    injection h with h;subst h;unfold zH;simp only[];rw[ur h1]
theorem check_step {r:List Block} {k:Nat} {b:Block} {t:Tip} (hb:r[k]?=some b) (h:zd4 t b=0):zaA t (r.drop k)=zaA (zj3 t b) (r.drop (k+1)):=by
  obtain⟨hk,rfl⟩:=ul.1 hb;rw[List.drop_eq_getElem_cons hk,zaA,ut h]
theorem zqQ {r:List Block} {k:Nat} {b:Block} {t:Tip} (hb:r[k]?=some b) (h:¬zd4 t b=0):zaA t (r.drop k)=(zTip,zd4 t b):=by
  obtain⟨hk,rfl⟩:=ul.1 hb;rw[List.drop_eq_getElem_cons hk,zaA,ur h]
theorem zub {r:List Block} {k:Nat} {t:Tip} (h:r.length≤k):zaA t (r.drop k)=(t,0):=by
  rw[List.drop_of_length_le h];rfl
theorem zpb {l:List Block} (h:l.length=0):zH l=(zTip,9):=by rw[List.eq_nil_of_length_eq_zero h];rfl
def newOf (bits:UInt32):List Block:=if zbQ bits=true then [(zaq bits).b] else []
theorem zrB (t:Tx) (ht:zit t):Tells P 228 [.val txT t] (.val txT t):=by
 refine zc Tryz.func228 rfl rfl rfl (fun ext w hext=>?_);refine qae ?_;refine zs zsG rfl rfl rfl rfl ?_;refine CNQ ?_;refine zx [some 1,some 1,some 1,some 1,some 1,some 1,some 1,none] mixed ye ?_;refine X0 (oFp zdY) ?_;refine X0 (oLb ze8 zmW) ?_;refine X0 (oCl (zu (cloneIn t.ins (by unfold zit at ht;constructor<;>omega))) rfl fn_229 yf) ?_;refine X0 (oFp zeE) ?_;refine X0 (oLb zeJ znI) ?_;refine X0 (oCl (zu (zxv t.outs (by unfold zit at ht;constructor<;>omega))) rfl fn_230 yf) ?_;refine X0 (zC rfl zsG bd_101 (.cons zdY ze8 zmW rfl (.cons zeE zeJ znI rfl .nil)) rfl) ?_;refine XK.e (x:=.idk) (fun fr' hfr kk H=>by exact zf rfl rfl rfl ((hfr 2 ye).trans rfl) rfl (Lens.self _) zgb ((hfr 9 ye).trans rfl) (zr H)) ?_;refine xf ?_;exact zag rfl rfl rfl rfl zgb (rfl)
theorem toldTx_ok (l:List Tx) (hl:zp5 l):Tells P 227 [.val (bsl txT) l,.clo 228 []] (.fresh 101 txT l):=by
 have hll:=hl.1;refine zc Tryz.func227 rfl rfl rfl (fun ext w hext=>?_);refine ze (d:=0) rfl zk (fun hsl0=>?_);refine qbD ?_;refine A0 aL ?_;refine qbg ?_;refine qcA ?_;refine qa2 ?_;refine zcv (T:=txT) (d:=5) 101 rfl ?_;refine Lp (ι:=Nat) 1 (fun (k:Nat)=>((((((Fr.none).set 0 (.val (bsl txT) l)).set 1 (.clo 228 [])).set 5 (.own 0)).set 8 (.val (bsl txT) l)).set 9 (.val i64T (l.length:Int))).set 10 (.val i64T (k:Int))) (fun (k:Nat)=>(Hp.none).set 0 (.row 101 txT (l.take k))) (fun (k:Nat)=>k≤l.length) (fun (k:Nat)=>l.length-k) (0) (uf _) ?_;intro k hinv;refine qak ?_;refine Cf (p:=k<l.length) (fun ht11=>?_) (fun ht11=>?_)
 ·
  obtain⟨x,hx⟩:∃x,l[k]?=some x:=⟨_,ub ht11⟩;have hxm:=ud hx;refine CSQBQR ?_;refine qbl ?_;refine qcg ?_;refine CNR ?_;refine A0 mO ?_;refine A0 mC ?_;refine qcu ?_;refine A0 (zfw (As:=[_]) (Cs:=[]) (zrB x (hl.2 x hxm)) rfl rfl fn_228 yf yD trivial rfl) ?_;refine A0 (zX (T:=txT) (xs:=[_]) rfl zlM zwk yB rfl rfl) ?_;refine zF rfl rfl rfl rfl rfl rfl rfl zwk yx ?_;refine A0 aO ?_;refine qbh ?_;refine xz ?_;refine zA (n:=0) (y:=l.take (k+1)) rfl (by rw[un,hx];rfl) ?_;exact Nx (k+1) yc yc
 refine qa9 ?_;exact zb rfl rfl (zh rfl rfl yN)
theorem zu7 (b:Block) (hb:zge b):Tells P 226 [.val zL b] (.val zL b):=by
 have hb1:=hb.1;refine zc Tryz.func226 rfl rfl rfl (fun ext w hext=>?_);refine qae ?_;refine zs zmU rfl rfl rfl rfl ?_;refine CNQR ?_;refine A0 (oFp zcQ) ?_;refine A0 (oLb zbN za5) ?_;refine A0 (oCl (zu (zg3 b.l yU)) rfl zpS yf) ?_;refine A0 (oFp zcQ) ?_;refine zf rfl rfl rfl rfl rfl zbN za5 rfl ?_;refine CNQR ?_;refine A0 (oFp zdE) ?_;refine A0 (oLb zcf zjF) ?_;refine A0 (oCl (zu (toldTx_ok b.t hb.2)) rfl fn_227 ⟨yo,(by first|exact zdJ (Cs:=[]) rfl fn_228 yD trivial rfl (fun x=>zrB _ yh)|exact zdI (Cs:=[]) rfl fn_228 yD trivial rfl (fun x y=>zrB _ yh)|exact zdK rfl),trivial⟩) ?_;refine A0 (oFp zdE) ?_;refine zf rfl rfl rfl rfl rfl zcf zjF rfl ?_;refine CNQR ?_;refine A0 (oLs rfl rfl rfl zem) ?_;refine qb3 ?_;refine CN ?_;exact zag rfl rfl rfl rfl zem (rfl)
theorem zsZ (l:List Block) (hl:zia l):Tells P 225 [.val (bsl zL) l,.clo 226 []] (.fresh 59 zL l):=by
 have hll:=hl.1;refine zc Tryz.func225 rfl rfl rfl (fun ext w hext=>?_);refine ze (d:=0) rfl zk (fun hsl0=>?_);refine qbD ?_;refine A0 aL ?_;refine qbg ?_;refine xC ?_;refine qa2 ?_;refine zcv (T:=zL) (d:=5) 59 rfl ?_;refine Lp (ι:=Nat) 1 (fun (k:Nat)=>((((((Fr.none).set 0 (.val (bsl zL) l)).set 1 (.clo 226 [])).set 5 (.own 0)).set 8 (.val (bsl zL) l)).set 9 (.val i64T (l.length:Int))).set 10 (.val i64T (k:Int))) (fun (k:Nat)=>(Hp.none).set 0 (.row 59 zL (l.take k))) (fun (k:Nat)=>k≤l.length) (fun (k:Nat)=>l.length-k) (0) (uf _) ?_;intro k hinv;refine qak ?_;refine Cf (p:=k<l.length) (fun ht11=>?_) (fun ht11=>?_)
 ·
  obtain⟨x,hx⟩:∃x,l[k]?=some x:=⟨_,ub ht11⟩;have hxm:=ud hx;refine CSQBQR ?_;refine A0 (zby rfl rfl rfl zdz yh) ?_;refine A0 (zg rfl rfl zem) ?_;refine zs zmU rfl rfl rfl rfl ?_;refine qb3 ?_;refine CNR ?_;refine A0 mO ?_;refine A0 mC ?_;refine A0 (oLs rfl rfl rfl zem) ?_;refine A0 (zfw (As:=[_]) (Cs:=[]) (zu7 x (hl.2 x hxm)) rfl rfl fn_226 yf yD trivial rfl) ?_;refine A0 (zX (T:=zL) (xs:=[_]) rfl zdz ztd yB rfl rfl) ?_;refine zF rfl rfl rfl rfl rfl rfl rfl ztd yx ?_;refine A0 aO ?_;refine qbh ?_;refine xz ?_;refine zA (n:=0) (y:=l.take (k+1)) rfl (by rw[un,hx];rfl) ?_;exact Nx (k+1) yc yc
 refine qa9 ?_;exact zb rfl rfl (zh rfl rfl yN)
theorem ownC_ok (l:List Block) (hl:zia l):Tells P 170 [.val (bsl zL) l] (.fresh 59 zL l):=by
 refine zc Tryz.func170 rfl rfl rfl (fun ext w hext=>?_);refine ze (d:=0) rfl zk (fun hsl0=>?_);refine qbD ?_;refine qax ?_;refine zaD (zsZ l hl) rfl fn_225 ⟨yo,(by first|exact zdJ (Cs:=[]) rfl fn_226 yD trivial rfl (fun x=>zu7 _ yh)|exact zdI (Cs:=[]) rfl fn_226 yD trivial rfl (fun x y=>zu7 _ yh)|exact zdK rfl),trivial⟩ rfl rfl rfl ?_;refine qbm ?_;exact zb rfl rfl (zh rfl rfl rfl)
theorem ztx (b:Block):Tells P 206 [.val zL b] (.val i64T (zQ b.h)):=by
 refine zc Tryz.func206 rfl rfl rfl (fun ext w hext=>?_);refine qae ?_;refine qaz ?_;refine A0 (oFp zbe) ?_;refine A0 (oLb zaw zaM) ?_;refine A0 (oCl (zgO _) rfl zxb yf) ?_;refine qad ?_;exact zb rfl rfl yC
theorem toldInt_ok (l:List Block) (f:Block→Int) (hl:l.length≤1000000000000):Tells P 205 [.val (bsl zL) l,.fn1 P zL i64T f] (.fresh 3 i64T (l.map f)):=by
 refine zc Tryz.func205 rfl rfl rfl (fun ext w hext=>?_);refine ze (d:=0) rfl zk (fun hsl0=>?_);refine qbD ?_;refine A0 aL ?_;refine qbg ?_;refine xC ?_;refine qa2 ?_;refine zcv (T:=i64T) (d:=5) 3 rfl ?_;refine Lp (ι:=Nat) 1 (fun (k:Nat)=>((((((Fr.none).set 0 (.val (bsl zL) l)).set 1 (.fn1 P zL i64T f)).set 5 (.own 0)).set 8 (.val (bsl zL) l)).set 9 (.val i64T (l.length:Int))).set 10 (.val i64T (k:Int))) (fun (k:Nat)=>(Hp.none).set 0 (.row 3 i64T ((l.take k).map f))) (fun (k:Nat)=>k≤l.length) (fun (k:Nat)=>l.length-k) (0) (uf _) ?_;intro k hinv;refine qak ?_;refine Cf (p:=k<l.length) (fun ht11=>?_) (fun ht11=>?_)
 ·
  obtain⟨x,hx⟩:∃x,l[k]?=some x:=⟨_,ub ht11⟩;have hxm:=ud hx;refine CSQBQR ?_;refine A0 (zby rfl rfl rfl zdz yh) ?_;refine A0 (zg rfl rfl zem) ?_;refine zs zmU rfl rfl rfl rfl ?_;refine qb3 ?_;refine CNR ?_;refine A0 mO ?_;refine A0 mF ?_;refine A0 (oLs rfl rfl rfl zem) ?_;refine A0 (zk4 rfl rfl yo) ?_;refine qaC ?_;refine A0 aO ?_;refine qbh ?_;refine xz ?_;refine zA (n:=0) (y:=(l.take (k+1)).map f) rfl (by rw[un,hx];simp) ?_;exact Nx (k+1) yc yc
 refine qa9 ?_;exact zb rfl rfl (zh rfl rfl yN)
theorem ztv (l:List Block) (hl:l.length≤1000000000000):Tells P 160 [.val (bsl zL) l] (.fresh 3 i64T (zo l)):=by
 refine zc Tryz.func160 rfl rfl rfl (fun ext w hext=>?_);refine ze (d:=0) rfl zk (fun hsl0=>?_);refine qbD ?_;refine qax ?_;refine zaD (toldInt_ok l (fun b=>zQ b.h) hl) rfl fn_205 ⟨yo,(by first|exact zdJ (Cs:=[]) rfl fn_206 yD trivial rfl (fun x=>ztx x)|exact zdI (Cs:=[]) rfl fn_206 yD trivial rfl (fun x y=>ztx x)|exact zdK rfl),trivial⟩ rfl rfl rfl ?_;refine qbm ?_;exact zb rfl rfl (zh rfl rfl rfl)
theorem ztX (id:Ab.Id) (b:Block):Tells P 142 [.val zL b,.rptr idT id] (.val zm (decide (zw b.h=id))):=by
 refine zc Tryz.func142 rfl rfl rfl (fun ext w hext=>?_);refine qae ?_;refine qbI ?_;refine G0 (oFp zbe) ?_;refine G0 (oLb zaw zaM) ?_;refine G0 (oCl (zeu _) rfl zr0 yf) ?_;refine qcD ?_;refine G0 (ziP rfl rfl rfl (zfl)) ?_;refine qaP ?_;exact zb rfl rfl yC
theorem findC_ok (l:List Block) (id:Ab.Id):Tells P 72 [.val (bsl zL) l,.val idT id] (.val i64T (zbz l id)):=by
 refine zc Tryz.func72 rfl rfl rfl (fun ext w hext=>?_);refine ze (d:=0) rfl zk (fun hsl0=>?_);refine qae ?_;refine qag ?_;refine xi ?_;refine A0 (oCl (zpO l (fun b=>decide (zw b.h=id))) rfl fn_141 ⟨yo,(by first|exact zdJ (Cs:=[_]) rfl fn_142 yk ybO rfl (fun x=>ztX id x)|exact zdI (Cs:=[_]) rfl fn_142 yk ybO rfl (fun x y=>ztX id x)|exact zdK rfl),trivial⟩) ?_;refine qad ?_;exact zb rfl rfl (za rfl rfl)
theorem zlk (l:List Block) (hl:zia l):Tells P 21 [.val (bsl zL) l] (.tup2 (.val tipT (zH l).1) (.val i64T (zH l).2)):=by
 have hll:=hl.1;refine zc Tryz.func21 rfl rfl rfl (fun ext w hext=>?_);refine ze (d:=0) rfl zk (fun hsl0=>?_);refine CQR ?_;refine zs zmT rfl rfl rfl rfl ?_;refine qad ?_;refine zsj (ι:=Block) 2 0 rfl rfl rfl (fun (g:Block)=>((((Fr.none).set 0 (.val (bsl zL) l)).set 2 (.ptr 0 0)).set 4 (.ptr 1 0)).set 6 (.val i64T 0)) (fun (g:Block)=>((Hp.none).set 0 (.box 63 tipT zTip)).set 1 (.box 63 tipT (zaq g.h.bits))) (fun (g:Block)=>l[0]?=some g∧zbQ g.h.bits=true∧(zaq g.h.bits).b=g) (fun (g:Block)=>0) ?_ (fun hreach=>?_)
 ·
  intro g hinv;have hl1:=(ul.1 hinv.1).1;refine qb1 ?_;refine A0 (zhi rfl rfl rfl zdz yg) ?_;refine xC ?_;refine qa2 ?_;refine Lp (ι:=Nat×Tip) 2 (fun(k,t)=>((((((Fr.none.set 0 (.val (bsl zL) l)).set 2 (.ptr 0 0)).set 4 (.ptr 1 0)).set 6 (.val i64T 0)).set 35 (.val (bsl zL) (l.drop 1))).set 36 (.val i64T ((l.drop 1).length:Int))).set 37 (.val i64T (k:Int))) (fun(k,t)=>(Hp.none.set 0 (.box 63 tipT zTip)).set 1 (.box 63 tipT t)) (fun(k,t)=>k≤(l.drop 1).length∧zs5 t k∧zH l=zaA t ((l.drop 1).drop k)) (fun(k,t)=>(l.drop 1).length-k) ((0,zaq g.h.bits)) (⟨uf _,zoL,zsg hinv.1 hinv.2.1 hinv.2.2⟩) ?_;intro⟨k,t⟩ hin;dsimp only at hin;refine qak ?_;refine Cf (p:=k<(l.drop 1).length) (fun ht38=>?_) (fun ht38=>?_)
  ·
   have hk38:k<l.length:=by rw[List.length_drop] at ht38;omega
   obtain⟨b,hb⟩:∃b,(l.drop 1)[k]?=some b:=⟨_,ub ht38⟩;have hbm:=hl.2 b (List.mem_of_mem_drop (ud hb));refine CSQBQR ?_;refine A0 (zK (i:=k) rfl rfl rfl yc zdz yh) ?_;refine A0 (zg rfl rfl zem) ?_;refine zs zmU rfl rfl rfl rfl ?_;refine qb3 ?_;refine CNQR ?_;refine xA ?_;refine A0 (oLs rfl rfl rfl zem) ?_;refine A0 (oCl (push_ok t b hin.2.1.1 hbm) rfl fn_68 yl) ?_;refine qbi ?_;refine qbs ?_;refine qag ?_;refine qbk ?_;refine zn (p:=¬zd4 t b=0) rfl yH (fun ht48=>?_) (fun ht48=>?_)
   ·
    refine CE ?_;refine qb1 ?_;refine qbk ?_;refine zgz rfl (by simpa [IntL.toI] using ht48) ?_;refine CQR ?_;refine A0 (zC rfl zmT zvL .nil rfl) ?_;refine qax ?_;refine qbs ?_;refine qad ?_;exact zq rfl rfl (zl rfl rfl zeL (by rw[hin.2.2,zqQ hb ht48])) (zT (za rfl (by rw[hin.2.2,zqQ hb ht48])))
   refine qaZ ?_;refine zj (d:=6) (y:=(0:Int)) rfl (ua ht48) ?_;exact Nx ((k+1,zj3 t b)) (⟨by omega,zoa hin.2.1 (by rw[List.length_drop] at ht38;omega) hbm (ua ht48),hin.2.2.trans (check_step hb (ua ht48))⟩) (by show(l.drop 1).length-(k+1)<(l.drop 1).length-k;omega)
  refine CE ?_;refine qb1 ?_;refine qbk ?_;refine Cg ?_;refine CSQR ?_;refine xA ?_;refine qbs ?_;refine qad ?_;exact zq rfl rfl (zl rfl rfl zeL (by rw[hin.2.2,zub yc])) (zT (za rfl (by rw[hin.2.2,zub yc])))
 refine qb1 ?_;refine xC ?_;refine A0 zbZ ?_;refine CN ?_;refine Cf (p:=l.length=0) (fun ht11=>?_) (fun ht11=>?_)
 ·
  refine CQR ?_;refine A0 (zC rfl zmT zvL .nil rfl) ?_;refine qbs ?_;refine qad ?_;exact zq rfl rfl (zl rfl rfl zeL (by rw[zpb ht11])) (zT (za rfl (by rw[zpb ht11])))
 obtain⟨g,hg⟩:∃g,l[0]?=some g:=yv;refine qcG ?_;refine A0 (zK (i:=0) rfl rfl rfl yc zdz yh) ?_;refine A0 (oFr zbe zaw) ?_;refine A0 (oFr zdF za9) ?_;refine A0 (zg rfl rfl zcj) ?_;refine A0 (oCl (zj9 g.h.bits) rfl fn_52 ybN) ?_;refine qa5 ?_;refine qa7 ?_;refine qaV ?_;refine G0 mV ?_;refine G0 oN ?_;refine G0 mV ?_;refine zaG (d:=24) (p:=¬zbQ g.h.bits=true) rfl (by cases zbQ g.h.bits<;>rfl) (fun g24=>?_) (fun g24=>?_)
 ·
  refine qab ?_;refine G2 ?_;refine qaW ?_;refine Ct ?_;refine CQR ?_;refine A0 (zC rfl zmT zvL .nil rfl) ?_;refine qbs ?_;refine qad ?_;exact zq rfl rfl (zl rfl rfl zeL (by rw[zfP hg fun h=>g24 h.1])) (zT (za rfl (by rw[zfP hg fun h=>g24 h.1])))
 refine G1 (oFp zeB) ?_;refine G1 (oLb zeK zem) ?_;refine G1 mV ?_;refine G1 (zK (i:=0) rfl rfl rfl yc zdz yh) ?_;refine G1 (zg rfl rfl zem) ?_;refine G1 (oCl (sameB_ok _ _) rfl fn_67 ⟨yo,yd,trivial⟩) ?_;refine G1 oN ?_;refine qaW ?_;refine zn (p:=¬(zaq g.h.bits).b=g) rfl yy (fun ht32=>?_) (fun ht32=>?_)
 ·
  refine CQR ?_;refine A0 (zC rfl zmT zvL .nil rfl) ?_;refine qbs ?_;refine qad ?_;exact zq rfl rfl (zl rfl rfl zeL (by rw[zfP hg fun h=>ht32 h.2])) (zT (za rfl (by rw[zfP hg fun h=>ht32 h.2])))
 refine CSQR ?_;refine qa7 ?_;exact zsm hreach (g) rfl (⟨hg,ua g24,ua ht32⟩) rfl (by (repeat refine Fr.le_set ?_ yaw);exact Fr.le_none _) (by (repeat refine Hp.le_set ?_ rfl);exact Hp.le_none _) (by (repeat refine Fr.below_setB ?_ rfl);exact Fr.below_none _) (by (repeat refine Hp.below_set ?_ yp);exact Hp.below_none _)
theorem newC_ok (bits:UInt32):Tells P 104 [.val u32T bits] (.tup2 (.val (sl zL) (newOf bits)) (.val zm (zbQ bits))):=by
 refine zc Tryz.func104 rfl rfl rfl (fun ext w hext=>?_);refine qaq ?_;refine qag ?_;refine A0 (oCl (zj9 bits) rfl fn_52 yf) ?_;refine qa5 ?_;refine qaj ?_;refine qaL ?_;refine zn (p:=¬zbQ bits=true) rfl (by cases zbQ bits<;>rfl) (fun ht12=>?_) (fun ht12=>?_)
 ·
  refine qbp ?_;exact zV rfl rfl (by unfold newOf;rw[ur ht12];exact zdC rfl) (za rfl (by simpa using ht12))
 refine CSQR ?_;refine A0 (oFp zeB) ?_;refine A0 (oLb zeK zem) ?_;refine A0 (zX (T:=zL) (xs:=[_]) rfl zdz ztd yB rfl rfl) ?_;refine qbA ?_;exact zV rfl rfl (za rfl (by unfold newOf;rw[ut (ua ht12)])) (za rfl (ua ht12).symm)
theorem growC_ok (l:List Block) (t:List Tx) (nonce:UInt64) (hl:zia l) (ht:zp5 t):Tells P 105 [.val (bsl zL) l,.val (sl txT) t,.val u64T nonce] (.tup2 (.fresh 59 zL (zk2 l t nonce)) (.val i64T (zpP l t nonce))):=by
 have hll:=hl.1;refine zc Tryz.func105 rfl rfl rfl (fun ext w hext=>?_);refine ze (d:=0) rfl zk (fun hsl0=>?_);refine ze (d:=1) rfl zk (fun hsl1=>?_);refine qaq ?_;refine qag ?_;refine zaD (ownC_ok l hl) rfl fn_170 yf rfl rfl rfl ?_;refine A0 aO ?_;refine CNQR ?_;refine qax ?_;refine A0 (oCl (zlk l hl) rfl fn_21 yf) ?_;refine qa5 ?_;refine qaj ?_;refine qbk ?_;refine zn (p:=¬(zH l).2=0) rfl yH (fun ht20=>?_) (fun ht20=>?_)
 ·
  have hE:zpP l t nonce=(zH l).2:=by unfold zpP;rw[ur ht20]
  have hG:zk2 l t nonce=l:=by unfold zk2;rw[hE,ur ht20]
  refine qb6 ?_;refine qax ?_;refine qch ?_;exact zV rfl rfl (zh rfl rfl (by rw[hG])) (za rfl hE.symm)
 refine CSQR ?_;refine xA ?_;refine qao ?_;refine A0 (oCl (mineB_ok (zH l).1 t nonce 200 (zvC hl) ht) rfl fn_171 ybi) ?_;refine qbi ?_;refine zs zmU rfl rfl rfl rfl ?_;refine qb3 ?_;refine qaj ?_;refine qbk ?_;refine zn (p:=¬zfC (zH l).1 t nonce 200=0) rfl yH (fun ht31=>?_) (fun ht31=>?_)
 ·
  have hE:zpP l t nonce=zfC (zH l).1 t nonce 200:=by unfold zpP;rw[ut (ua ht20)]
  have hG:zk2 l t nonce=l:=by unfold zk2;rw[hE,ur ht31]
  refine qb6 ?_;refine qax ?_;refine qch ?_;exact zV rfl rfl (zh rfl rfl (by rw[hG])) (za rfl hE.symm)
 have hE:zpP l t nonce=0:=by unfold zpP;rw[ut (ua ht20)];exact ua ht31
 have hG:zk2 l t nonce=l++[zts (zH l).1 t nonce 200]:=by unfold zk2;rw[ut hE]
 refine CSQR ?_;refine A0 mO ?_;refine A0 (oLs rfl rfl rfl zem) ?_;refine A0 (zX (T:=zL) (xs:=[_]) rfl zdz ztd yB rfl rfl) ?_;refine zF rfl rfl rfl rfl rfl rfl rfl ztd yx ?_;refine qch ?_;exact zV rfl rfl (zh rfl rfl (by rw[hG])) (za rfl hE.symm)
def sortI_ren:Go.Shelf.Ren:=⟨fun|189=>217|125=>169|257=>268|128=>223|129=>224|294=>314|295=>315|296=>316|297=>317|298=>318|299=>319|216=>162|300=>320|301=>321|328=>354|329=>355|330=>356|331=>357|332=>358|215=>212|343=>380|n=>n,fun|28=>24|3=>3|46=>234|0=>0|51=>53|53=>50|4=>4|183=>384|182=>383|131=>167|5=>5|9=>9|218=>403|222=>407|228=>418|229=>126|n=>n,fun|n=>n⟩
theorem sortI:Go.Proofs.Lays.n189 P sortI_ren:={
  mixed:=by kernel_rfl,
  f125:=Tryz.func169.trans (congrArg some yr),
  f128:=Tryz.func223.trans (congrArg some yr),
  f129:=Tryz.func224.trans (congrArg some yr),
  f189:=Tryz.func217.trans (congrArg some yr),
  f215:=Tryz.func212.trans (congrArg some yr),
  f216:=Tryz.func162.trans (congrArg some yr),
  f257:=Tryz.func268.trans (congrArg some yr),
  f294:=Tryz.func314.trans (congrArg some yr),
  f295:=Tryz.func315.trans (congrArg some yr),
  f296:=Tryz.func316.trans (congrArg some yr),
  f297:=Tryz.func317.trans (congrArg some yr),
  f298:=Tryz.func318.trans (congrArg some yr),
  f299:=Tryz.func319.trans (congrArg some yr),
  f300:=Tryz.func320.trans (congrArg some yr),
  f301:=Tryz.func321.trans (congrArg some yr),
  f328:=Tryz.func354.trans (congrArg some yr),
  f329:=Tryz.func355.trans (congrArg some yr),
  f330:=Tryz.func356.trans (congrArg some yr),
  f331:=Tryz.func357.trans (congrArg some yr),
  f332:=Tryz.func358.trans (congrArg some yr),
  f343:=Tryz.func380.trans (congrArg some yr),
  t0:=Tryz.underlying0,
  a0:=Tryz.isAgg0,
  z0:=Tryz.sizeOf0,
  v0:=Tryz.zeroValue0,
  t3:=Tryz.underlying3,
  a3:=Tryz.isAgg3,
  z3:=Tryz.sizeOf3,
  v3:=Tryz.zeroValue3,
  t4:=Tryz.underlying4,
  a4:=Tryz.isAgg4,
  z4:=Tryz.sizeOf4,
  v4:=Tryz.zeroValue4,
  t5:=Tryz.underlying5,
  a5:=Tryz.isAgg5,
  z5:=Tryz.sizeOf5,
  v5:=Tryz.zeroValue5,
  t9:=Tryz.underlying9,
  a9:=Tryz.isAgg9,
  z9:=Tryz.sizeOf9,
  v9:=Tryz.zeroValue9,
  t28:=Tryz.underlying24,
  a28:=Tryz.isAgg24,
  z28:=Tryz.sizeOf24,
  v28:=Tryz.zeroValue24,
  t46:=Tryz.underlying234,
  a46:=Tryz.isAgg234,
  z46:=Tryz.sizeOf234,
  v46:=Tryz.zeroValue234,
  t51:=Tryz.underlying53,
  a51:=Tryz.isAgg53,
  z51:=Tryz.sizeOf53,
  v51:=Tryz.zeroValue53,
  t53:=Tryz.underlying50,
  a53:=Tryz.isAgg50,
  z53:=Tryz.sizeOf50,
  v53:=Tryz.zeroValue50,
  t131:=Tryz.underlying167,
  a131:=Tryz.isAgg167,
  z131:=Tryz.sizeOf167,
  v131:=Tryz.zeroValue167,
  t182:=Tryz.underlying383,
  a182:=Tryz.isAgg383,
  z182:=Tryz.sizeOf383,
  v182:=Tryz.zeroValue383,
  t183:=Tryz.underlying384,
  a183:=Tryz.isAgg384,
  z183:=Tryz.sizeOf384,
  v183:=Tryz.zeroValue384,
  t218:=Tryz.underlying403,
  a218:=Tryz.isAgg403,
  z218:=Tryz.sizeOf403,
  v218:=Tryz.zeroValue403,
  t222:=Tryz.underlying407,
  a222:=Tryz.isAgg407,
  z222:=Tryz.sizeOf407,
  v222:=Tryz.zeroValue407,
  t228:=Tryz.underlying418,
  a228:=Tryz.isAgg418,
  z228:=Tryz.sizeOf418,
  v228:=Tryz.zeroValue418,
  t229:=Tryz.underlying126,
  a229:=Tryz.isAgg126,
  z229:=Tryz.sizeOf126,
  v229:=Tryz.zeroValue126 }
theorem zp4 (l:List Int) (hn:l.length<1000000000):zfr P 217 (.row 3 i64T l) [.own 0] (.lit (.tuple #[])) (.row 3 i64T (zaY l)):=zuO sortI hn
def mayV (v:List Int):Bool:=decide (0<v.length∧v.length≤200∧v[0]?=some 31) && !(v.any fun n=>decide (n<0∨31<n))
def mayP (v:List Int) (m k:Int):Bool:=mayV v&&decide (1≤m∧1≤k∧k<v.length)
def upR (v:List Int) (n:Int) (a i:Nat):List Int:=((List.range' a (i-a)).filter fun j:Nat=>decide (n≤v.getD j 0)).map fun j:Nat=>(j:Int)
def upOf (v:List Int) (a b n:Int):List Int:=upR v n (max a 0).toNat (min b v.length).toNat
theorem zpY (v:List Int) (n:Int) (a i:Nat):(upR v n a i).length≤i-a:=by
  unfold upR;rw[List.length_map];exact Nat.le_trans (List.length_filter_le _ _) yy
theorem up_length (v:List Int) (a b n:Int):(upOf v a b n).length≤v.length:=Nat.le_trans (zpY ..) yc
theorem zv8 (v:List Int) (n:Int) (a:Nat):upR v n a a=[]:=by unfold upR;simp
theorem zv7 {v:List Int} {n x:Int} {a i:Nat} (hx:v[i]?=some x) (ha:a≤i):upR v n a (i+1)=upR v n a i++(if n≤x then [(i:Int)] else []):=by
  unfold upR;rw[show i+1-a=(i-a)+1 by omega,List.range'_1_concat,show a+(i-a)=i by omega,List.filter_append,List.map_append];congr 1
  have:v.getD i 0=x:=by simp[hx]
  by_cases c:n≤x<;>simp[c,hx]
theorem upR_yes {v:List Int} {n x:Int} {a i:Nat} (hx:v[i]?=some x) (ha:a≤i) (h:n≤x):upR v n a (i+1)=upR v n a i++[(i:Int)]:=by rw[zv7 hx ha,ut h]
theorem upR_no {v:List Int} {n x:Int} {a i:Nat} (hx:v[i]?=some x) (ha:a≤i) (h:¬n≤x):upR v n a (i+1)=upR v n a i:=by rw[zv7 hx ha,ur h,List.append_nil]
theorem zsQ {v:List Int} {n:Int} {a i:Nat} (h:i≤a):upR v n a i=[]:=by unfold upR;rw[show i-a=0 by omega];rfl
theorem upOf_end {v:List Int} {a b n:Int} {i:Nat} (h1:(max a 0).toNat≤i) (h2:(i:Int)≤min b v.length∨i=(max a 0).toNat) (h3:¬(i:Int)<min b v.length):upR v n (max a 0).toNat i=upOf v a b n:=by
  unfold upOf;by_cases c:(i:Int)=min b v.length
  · rw[show(min b v.length).toNat=i by omega]
  rw[zsQ yc,zsQ yc]
theorem mem_upR {v:List Int} {n:Int} {a i:Nat} {x:Int}:x∈upR v n a i↔∃j:Nat,x=j∧a≤j∧j<i∧n≤v.getD j 0:=by
  unfold upR;simp only[List.mem_map,List.mem_filter,List.mem_range'_1,uj]
  constructor
  · rintro ⟨j,⟨h1,h2⟩,rfl⟩;exact⟨j,rfl,h1.1,by omega,h2⟩
  rintro ⟨j,rfl,h1,h2,h3⟩;exact⟨j,⟨⟨h1,by omega⟩,h3⟩,rfl⟩
theorem zqo {v:List Int} {a b n x:Int}:x∈upOf v a b n↔∃j:Nat,x=j∧a≤j∧(j:Int)<b∧j<v.length∧n≤v.getD j 0:=by
  unfold upOf;rw[mem_upR]
  constructor
  · rintro ⟨j,rfl,h1,h2,h3⟩;exact⟨j,rfl,by omega,by omega,by omega,h3⟩
  rintro ⟨j,rfl,h1,h2,h3,h4⟩;exact⟨j,rfl,by omega,by omega,h4⟩
def zaI (v:List Int) (m k:Int):Nat→Int×List Int
  | 0=>(0,[])
  | i+1 =>
    (if m<(upOf v (zaI v m k i).1 ((v.length:Int)-k) (31-(i:Int))).length then (upOf v (zaI v m k i).1 ((v.length:Int)-k) (31-(i:Int))).getD ((upOf v (zaI v m k i).1 ((v.length:Int)-k) (31-(i:Int))).length-m.toNat) 0 else (zaI v m k i).1,
      (upOf v (zaI v m k i).1 ((v.length:Int)-k) (31-(i:Int))).foldl zdu (zaI v m k i).2)
def zam (v:List Int) (m k:Int):List Int×Bool:=if mayP v m k=true then (zaY (zaI v m k 32).2,true) else ([],false)
theorem zg4 {v L:List Int} {m k c:Int} {i:Nat} (hL:L=upOf v (zaI v m k i).1 ((v.length:Int)-k) (31-(i:Int))) (hc:L[L.length-m.toNat]?=some c) (h:m<L.length):c=(zaI v m k (i+1)).1:=by
  show c=if _ then _ else _
  rw[←hL,ut h];simp[hc]
theorem zhY {v L:List Int} {m k:Int} {i:Nat} (hL:L=upOf v (zaI v m k i).1 ((v.length:Int)-k) (31-(i:Int))) (h:¬m<L.length):(zaI v m k i).1=(zaI v m k (i+1)).1:=by
  show _=if _ then _ else _
  rw[←hL,ur h]
theorem zgn:∀(L K:List Int) (x:Int),x∈L.foldl zdu K↔x∈K∨x∈L
  | [],K,x=>by simp
  | y::L,K,x=>by rw[List.foldl_cons,zgn L,mem_setAdd,List.mem_cons];exact⟨fun h=>by rcases h with (h|h)|h<;>simp[h],fun h=>by rcases h with h|h|h<;>simp[h]⟩
theorem zqB:∀(L K:List Int),K.Nodup→(L.foldl zdu K).Nodup
  | [],K,h=>h
  | y::L,K,h=>zqB L _ (zs7 h)
theorem zhf {v:List Int} {m k:Int} (h:mayP v m k=true):mayV v=true∧1≤m∧1≤k∧k<v.length:=by
  unfold mayP at h;rw[uk,uj] at h;exact h
theorem zkS {v:List Int} (h:mayV v=true):0<v.length∧v.length≤200∧v[0]?=some 31∧∀n∈v,0≤n∧n≤31:=by
  unfold mayV at h;rw[uk,uj,Bool.not_eq_true',List.any_eq_false] at h;refine⟨h.1.1,h.1.2.1,h.1.2.2,fun n hn=>?_⟩
  have:=h.2 n hn
  rw[uj] at this;omega
theorem zgM {v:List Int} {m k:Int} (h:mayP v m k=true):1≤m∧1≤k∧k<v.length∧v.length≤200:=⟨(zhf h).2.1,(zhf h).2.2.1,(zhf h).2.2.2,(zkS (zhf h).1).2.1⟩
theorem zlj {v:List Int} {m k:Int} (h:mayP v m k=true):∀i:Nat,i≤32→(0≤(zaI v m k i).1∧(zaI v m k i).1<v.length)∧(zaI v m k i).2.Nodup∧∀x∈(zaI v m k i).2,0≤x∧x<(v.length:Int)-k
  | 0,_=>by
    have:=zgM h
    exact⟨⟨Int.le_refl _,by show(0:Int)<_;omega⟩,List.nodup_nil,fun x hx=>by cases hx⟩
  | i+1,hi=>by
    obtain⟨h1,h2,h3⟩:=zlj h i yc;have hl:=zgM h;obtain⟨L,hL⟩:∃L,L=upOf v (zaI v m k i).1 ((v.length:Int)-k) (31-(i:Int)):=⟨_,rfl⟩;have hm:∀x∈L,0≤x∧x<(v.length:Int)-k:=fun x hx=>by
      rw[hL] at hx;obtain⟨j,rfl,_,h5,_⟩:=zqo.1 hx;omega
    refine⟨?_,?_,?_⟩
    · by_cases c:m<L.length
      · obtain⟨z,hz⟩:∃z,L[L.length-m.toNat]?=some z:=yv
        rw[←zg4 hL hz c]
        have:=hm z (ud hz)
        omega
      rw[←zhY hL c];exact h1
    · show(List.foldl zdu _ _).Nodup
      exact zqB _ _ h2
    intro x hx;have hx:x∈(upOf v (zaI v m k i).1 ((v.length:Int)-k) (31-(i:Int))).foldl zdu (zaI v m k i).2:=hx;rw[←hL,zgn] at hx;exact hx.elim (h3 x) (hm x)
theorem zl7 {α:Type} (p:α→Bool):∀l:List α,l.length=(l.filter p).length+(l.filter fun x=>!p x).length
  | []=>rfl
  | x::l=>by
    have:=zl7 p l
    cases h:p x<;>simp[h,this]<;>omega
theorem znl:∀{n:Nat} {l:List Nat},l.Nodup→(∀i∈l,i<n)→l.length≤n
  | 0,[],_,_=>ug _
  | 0,x::l,_,h=>absurd (h x (List.mem_cons_self ..)) (Nat.not_lt_zero _)
  | n+1,l,hd,h=>by
    have h1:(l.filter fun i=>decide (i≠n)).length≤n:=znl (hd.sublist List.filter_sublist) (fun i hi=>by
      rw[List.mem_filter] at hi
      have:=h i hi.1
      have:=of_decide_eq_true hi.2
      omega)
    have h2:(l.filter fun i=>!decide (i≠n)).length≤1:=by
      have hs:(l.filter fun i=>!decide (i≠n)).Nodup:=hd.sublist List.filter_sublist
      match hf:l.filter (fun i=>!decide (i≠n)) with
      | []=>simp
      | [_]=>simp
      | a::b::_ =>
        rw[hf] at hs;have ha:a∈l.filter fun i=>!decide (i≠n):=by rw[hf];simp
        have hb:b∈l.filter fun i=>!decide (i≠n):=by rw[hf];simp
        simp only[List.mem_filter,Bool.not_eq_true',decide_eq_false_iff_not,Decidable.not_not] at ha hb;simp[ha.2,hb.2] at hs
    have h3:=zl7 (fun i=>decide (i≠n)) l;omega
theorem seen_step {K:List Int} {seen:List Nat} {i:Nat} {v:Int} (hs:seen.Nodup∧∀i∈seen,i<K.length) (hv:K[i]?=some v) (hi:i∉seen) :
    ((seen++[i]).Nodup∧∀j∈seen++[i],j<K.length)∧K.length-(seen++[i]).length<K.length-seen.length∧seen.length<K.length:=by
  have h1:(seen++[i]).Nodup∧∀j∈seen++[i],j<K.length:=⟨List.nodup_append.2 ⟨hs.1,by simp,fun a ha b hb=>by simp at hb;subst hb;exact fun e=>hi (e▸ha)⟩,fun j hj=>by
    rcases List.mem_append.1 hj with h|h
    · exact hs.2 j h
    simp at h;subst h;exact(ul.1 hv).1⟩
  have h2:=znl h1.1 h1.2;simp only[ue,List.length_cons,List.length_nil] at h2;exact⟨h1,by simp;omega,by omega⟩
theorem seen_all {K:List Int} {seen:List Nat} (hs:seen.Nodup∧∀i∈seen,i<K.length) (h:∀i,i<K.length→i∈seen):(seen.map fun i=>K.getD i 0).Perm K:=by
  have h1:seen.Perm (List.range K.length):=(List.perm_ext_iff_of_nodup hs.1 List.nodup_range).2 fun i=>by rw[List.mem_range];exact⟨hs.2 i,h i⟩
  refine(h1.map _).trans ?_
  have:(List.range K.length).map (fun i=>K.getD i 0)=K:=by
    apply List.ext_getElem?;intro i;rw[List.getElem?_map];by_cases c:i<K.length
    · rw[List.getElem?_range c,ub c];simp[c]
    rw[List.getElem?_eq_none ybG,List.getElem?_eq_none yc];rfl
  rw[this]
theorem zne {l:List Int} {x:Int}:x∈zaY l↔x∈l:=(List.mergeSort_perm l _).mem_iff
theorem zhA (l:List Int):(zaY l).Pairwise fun a b=>a≤b:=by
  have:=List.pairwise_mergeSort (le:=fun x y:Int=>decide (x≤y)) (fun a b c h1 h2=>by simp at *;omega) (fun a b=>by simp;omega) l
  exact this.imp fun h=>of_decide_eq_true h
theorem sort_perm {l r:List Int} (h:l.Perm r):zaY l=zaY r :=
  (((List.mergeSort_perm l _).trans h).trans (List.mergeSort_perm r _).symm).eq_of_pairwise (fun a b _ _ h1 h2=>Int.le_antisymm h1 h2) (zhA l) (zhA r)
theorem zmM {v K:List Int} {m k a:Int} (h:(0≤a∧a<v.length)∧K.Nodup∧∀x∈K,0≤x∧x<(v.length:Int)-k) (hl:1≤m∧1≤k∧k<v.length∧v.length≤200):K.length≤200:=by
  have h1:(K.map Int.toNat).length≤v.length:=znl (by
    rw[List.Nodup,List.pairwise_map];exact h.2.1.imp_of_mem fun {a b} ha hb hne=>by
      have:=h.2.2 a ha
      have:=h.2.2 b hb
      omega) (fun i hi=>by
    obtain⟨x,hx,rfl⟩:=List.mem_map.1 hi
    have:=h.2.2 x hx
    omega)
  rw[List.length_map] at h1;omega
theorem ztF (l:List Int) (p:Int→Bool):Tells P 198 [.val (bsl i64T) l,.fn1 P i64T zm p] (.val i64T (idx p l)):=by
 refine zc Tryz.func198 rfl rfl rfl (fun ext w hext=>?_);refine ze (d:=0) rfl zk (fun hsl0=>?_);refine qcw ?_;refine qbt ?_;refine qa2 ?_;refine Lp (ι:=Nat) 0 (fun (k:Nat)=>(((((Fr.none).set 0 (.val (bsl i64T) l)).set 1 (.fn1 P i64T zm p)).set 6 (.val (bsl i64T) l)).set 7 (.val i64T (l.length:Int))).set 8 (.val i64T (k:Int))) (fun (k:Nat)=>Hp.none) (fun (k:Nat)=>k≤l.length∧idx p l=shift k (idx p (l.drop k))) (fun (k:Nat)=>l.length-k) (0) (⟨uf _,zdl p l⟩) ?_;intro k hinv;refine qak ?_;refine Cf (p:=k<l.length) (fun ht9=>?_) (fun ht9=>?_)
 ·
  obtain⟨x,hx⟩:∃x,l[k]?=some x:=ybc;refine qaE ?_;refine qaz ?_;refine A0 mF ?_;refine qao ?_;refine qc3 ?_;refine qaH ?_;refine zn (p:=p x=true) rfl yy (fun ht16=>?_) (fun ht16=>?_)
  ·
   refine qbK ?_;exact zb rfl rfl (za rfl (hinv.2.trans (zhJ hx ht16)).symm)
  refine qaZ ?_;exact Nx (k+1) (⟨by omega,hinv.2.trans (zk0 hx ht16)⟩) yc
 refine qcn ?_;exact zb rfl rfl (za rfl (hinv.2.trans (zhK yc)).symm)
theorem zo2 (l:List Int) (p:Int→Bool):Tells P 214 [.val (bsl i64T) l,.fn1 P i64T zm p] (.val zm (l.any p)):=by
 refine zc Tryz.func214 rfl rfl rfl (fun ext w hext=>?_);refine ze (d:=0) rfl zk (fun hsl0=>?_);refine qbJ ?_;refine A0 mF ?_;refine A0 (oCl (ztF _ _) rfl fn_198 ⟨yo,(zan rfl rfl),trivial⟩) ?_;refine A0 zfd ?_;refine qad ?_;exact zb rfl rfl (za rfl (zhL p l))
theorem mayN_ok (n:Int):Tells P 213 [.val i64T n] (.val zm (decide (n<0∨31<n))):=by
 refine zc Tryz.func213 rfl rfl rfl (fun ext w hext=>?_);refine ze (d:=0) rfl zt (fun hin0=>?_);refine qbJ ?_;refine A0 zb2 ?_;refine qax ?_;refine Sp (d:=5) (p:=n<0) (fun g5=>?_) (fun g5=>?_)
 ·
  refine A2 ?_;refine A2 ?_;refine qaI ?_;exact zb rfl rfl (za rfl ((ui (.inl g5)).symm))
 refine qck ?_;refine qaI ?_;exact zb rfl rfl (za rfl yab)
theorem mayV_ok (v:List Int):Tells P 164 [.val (bsl i64T) v] (.val zm (mayV v)):=by
 refine zc Tryz.func164 rfl rfl rfl (fun ext w hext=>?_);refine ze (d:=0) rfl zk (fun hsl0=>?_);refine CQR ?_;refine qaz ?_;refine A0 aC ?_;refine CNQR ?_;refine qax ?_;refine qbt ?_;refine A0 zc1 ?_;refine qax ?_;refine Sp (d:=7) (p:=0<v.length) (fun g7=>?_) (fun g7=>?_)
 ·
  refine A1 mV ?_;refine A1 (zW rfl rfl zcX) ?_;refine A1 zih ?_;refine qal ?_;refine Sp (d:=12) (p:=v.length≤200) (fun g12=>?_) (fun g12=>?_)
  ·
   obtain⟨x,hx⟩:∃x,v[0]?=some x:=⟨_,ub g7⟩;refine A1 mV ?_;refine A1 (zK (i:=0) rfl rfl rfl yc zbR yh) ?_;refine A1 (zg rfl rfl ty_3) ?_;refine A1 zbZ ?_;refine qal ?_;refine Sp (d:=18) (p:=x=31) (fun g18=>?_) (fun g18=>?_)
   ·
    refine A1 mV ?_;refine A1 mC ?_;refine A1 (oCl (zo2 v (fun n=>decide (n<0∨31<n))) rfl fn_214 ⟨yo,(by first|exact zdJ (Cs:=[]) rfl fn_213 yD trivial rfl (fun x=>mayN_ok x)|exact zdI (Cs:=[]) rfl fn_213 yD trivial rfl (fun x y=>mayN_ok x)|exact zdK rfl),trivial⟩) ?_;refine A1 oN ?_;refine qaI ?_;exact zb rfl rfl (za rfl ((by unfold mayV;rw[ui ⟨g7,g12,by rw[hx,g18]⟩];rfl)))
   refine qb7 ?_;refine qaI ?_;exact zb rfl rfl (za rfl ((by unfold mayV;rw[uh (fun h=>g18 (by have:=h.2.2;rw[hx] at this;exact Option.some.inj this))];rfl)))
  refine qac ?_;refine qav ?_;refine qaI ?_;exact zb rfl rfl (za rfl ((by unfold mayV;rw[uh (fun h=>g12 h.2.1)];rfl)))
 refine qac ?_;refine qbd ?_;refine qav ?_;refine qaI ?_;exact zb rfl rfl (za rfl ((by unfold mayV;rw[uh (fun h=>g7 h.1)];rfl)))
theorem mayP_ok (v:List Int) (m k:Int):Tells P 207 [.val (bsl i64T) v,.val i64T m,.val i64T k] (.val zm (mayP v m k)):=by
 refine zc Tryz.func207 rfl rfl rfl (fun ext w hext=>?_);refine ze (d:=0) rfl zk (fun hsl0=>?_);refine ze (d:=1) rfl zt (fun hin1=>?_);refine ze (d:=2) rfl zt (fun hin2=>?_);refine qbJ ?_;refine A0 (oCl (mayV_ok v) rfl fn_164 yf) ?_;refine qax ?_;refine Sp (d:=9) (p:=mayV v=true) (fun g9=>?_) (fun g9=>?_)
 ·
  refine A1 mV ?_;refine A1 zfd ?_;refine qal ?_;refine Sp (d:=13) (p:=1≤m) (fun g13=>?_) (fun g13=>?_)
  ·
   refine A1 mV ?_;refine A1 zfd ?_;refine qal ?_;refine Sp (d:=17) (p:=1≤k) (fun g17=>?_) (fun g17=>?_)
   ·
    refine A1 mV ?_;refine A1 (zW rfl rfl zcX) ?_;refine qck ?_;refine qaI ?_;exact zb rfl rfl (za rfl ((by unfold mayP;rw[g9,Bool.true_and,uo];simp only[IntL.toI,id_eq];omega)))
   refine qb7 ?_;refine qaI ?_;exact zb rfl rfl (za rfl ((by unfold mayP;rw[uh (fun h=>g17 h.2.1),Bool.and_false])))
  refine A2 ?_;refine qav ?_;refine qaI ?_;exact zb rfl rfl (za rfl ((by unfold mayP;rw[uh (fun h=>g13 h.1),Bool.and_false])))
 refine qaX ?_;refine qav ?_;refine qaI ?_;exact zb rfl rfl (za rfl ((by unfold mayP;rw[Bool.eq_false_iff.2 g9];rfl)))
theorem up_ok (v:List Int) (a b n:Int) (hl:v.length≤1000000000000):Tells P 264 [.val (bsl i64T) v,.val i64T a,.val i64T b,.val i64T n] (.fresh 3 i64T (upOf v a b n)):=by
 refine zc Tryz.func264 rfl rfl rfl (fun ext w hext=>?_);refine ze (d:=0) rfl zk (fun hsl0=>?_);refine ze (d:=1) rfl zt (fun hin1=>?_);refine ze (d:=2) rfl zt (fun hin2=>?_);refine ze (d:=3) rfl zt (fun hin3=>?_);refine qbD ?_;refine A0 aL ?_;refine qbg ?_;refine A0 (g_max rfl rfl rfl) ?_;refine qc7 ?_;refine zj (d:=10) (y:=(((max a 0).toNat:Nat):Int)) rfl (by first|omega|(simp only[IntL.toI,id_eq];omega)) ?_;refine zcv (T:=i64T) (d:=9) 3 rfl ?_;refine zA (n:=0) (y:=upR v n (max a 0).toNat (max a 0).toNat) rfl (zv8 v n _).symm ?_;refine Lp (ι:=Nat) 1 (fun i=>((((Fr.none.set 0 (.val (bsl i64T) v)).set 2 (.val i64T b)).set 3 (.val i64T n)).set 9 (.own 0)).set 10 (.val i64T (i:Int))) (fun i=>Hp.none.set 0 (.row 3 i64T (upR v n (max a 0).toNat i))) (fun i=>(max a 0).toNat≤i∧((i:Int)≤min b v.length∨i=(max a 0).toNat)) (fun i=>v.length-i) ((max a 0).toNat) (⟨ug _,.inr rfl⟩) ?_;intro i hinv;refine CQQR ?_;refine qao ?_;refine qax ?_;refine qbt ?_;refine A0 (g_min rfl rfl rfl) ?_;refine qaY ?_;refine Cf (p:=(i:Int)<min b v.length) (fun ht18=>?_) (fun ht18=>?_)
 ·
  obtain⟨x,hx⟩:∃x,v[i]?=some x:=yv;refine CSQBQR ?_;refine qao ?_;refine xD ?_;refine qbL ?_;refine qax ?_;refine qbZ ?_;refine Cf (p:=n≤x) (fun ht26=>?_) (fun ht26=>?_)
  ·
   refine CR ?_;refine A0 mO ?_;refine qax ?_;refine xe ?_;refine zF rfl rfl rfl rfl rfl rfl rfl zeo (by have:=zpY v n (max a 0).toNat i;simp;omega) ?_;refine A0 aO ?_;refine CNIR ?_;refine qbb ?_;refine qad ?_;refine xm ?_;refine zA (n:=0) (y:=upR v n (max a 0).toNat (i+1)) rfl (upR_yes hx hinv.1 ht26).symm ?_;exact Nx (i+1) (⟨by omega,by omega⟩) yc
  refine CSIR ?_;refine qbb ?_;refine qad ?_;refine zA (n:=0) (y:=upR v n (max a 0).toNat (i+1)) rfl (upR_no hx hinv.1 ht26).symm ?_;exact Nx (i+1) (⟨by omega,by omega⟩) yc
 refine qa9 ?_;exact zb rfl rfl (zh rfl rfl (upOf_end hinv.1 hinv.2 ht18))
theorem ztl (v:List Int) (m k:Int):Tells P 161 [.val (bsl i64T) v,.val i64T m,.val i64T k] (.tup2 (.fresh 3 i64T (zam v m k).1) (.val zm (zam v m k).2)):=by
 refine zc Tryz.func161 rfl rfl rfl (fun ext w hext=>?_);refine ze (d:=0) rfl zk (fun hsl0=>?_);refine ze (d:=1) rfl zt (fun hin1=>?_);refine ze (d:=2) rfl zt (fun hin2=>?_);refine qaq ?_;refine qaj ?_;refine qao ?_;refine A0 (oCl (mayP_ok v m k) rfl fn_207 yT) ?_;refine qaL ?_;refine zn (p:=¬mayP v m k=true) rfl yy (fun ht13=>?_) (fun ht13=>?_)
 ·
  refine qbp ?_;exact zV rfl rfl (by unfold zam;rw[ur ht13];exact zp rfl) (za rfl (by unfold zam;rw[ur ht13]))
 have hmp:mayP v m k=true:=Classical.byContradiction ht13;have hcl:=zlj hmp;have hvl:=zgM hmp;refine CSQR ?_;refine aw_mkmap rfl rfl rfl rfl (fun b0=>?_);refine zf2 zp_301 rfl rfl rfl rfl rfl rfl ?_;refine zZ rfl rfl rfl rfl rfl rfl rfl rfl rfl rfl znK ?_;refine CNQR ?_;refine qao ?_;refine qax ?_;refine xi ?_;refine zU rfl rfl rfl rfl Tryz.func208 fn_208 rfl rfl (fun ia2 iok2=>?_);refine qbJ ?_;refine CNB ?_;refine Lp (ι:=Nat) 2 (fun (i:Nat)=>((((((Fr.none).set 0 (.val (bsl i64T) v)).set 1 (.val i64T m)).set 2 (.val i64T k)).set 3 (.clo 209 [1])).set 8 (.val i64T (zaI v m k i).1)).set 12 (.val i64T (i:Int))) (fun (i:Nat)=>((Hp.none).set 0 (.objAt b0 (setO (zaI v m k i).2))).set 1 (.parts 301 [.lit (.map (some b0))])) (fun (i:Nat)=>i≤32) (fun (i:Nat)=>32-i) (0) (uf _) ?_;intro i hi;refine qak ?_;refine Cf (p:=i<32) (fun ht13=>?_) (fun ht13=>?_)
 ·
  have hci:=hcl i yc;have hup:=zu (up_ok v (zaI v m k i).1 ((v.length:Int)-k) (31-(i:Int)) yc);obtain⟨L,hL⟩:∃L,L=upOf v (zaI v m k i).1 ((v.length:Int)-k) (31-(i:Int)):=⟨_,rfl⟩;rw[←hL] at hup;have hLl:L.length≤200:=by rw[hL];have:=up_length v (zaI v m k i).1 ((v.length:Int)-k) (31-(i:Int));omega
  refine qaE ?_;refine qag ?_;refine A0 zbb ?_;refine qag ?_;refine qao ?_;refine qbt ?_;refine qcb ?_;refine qax ?_;refine A0 (oCl (hup) rfl fn_264 ybi) ?_;refine qaz ?_;refine A0 mC ?_;refine qao ?_;refine qax ?_;refine zcN rfl rfl rfl rfl rfl Tryz.func209 fn_209 rfl rfl yG (fun ia3 iok3=>?_);refine qa4 ?_;refine qbt ?_;refine qa2 ?_;refine Lp (ι:=Nat) 2 (fun (j:Nat)=>((((Fr.none).set 3 (.ptr 1 0)).set 9 (.val (sl i64T) L)).set 10 (.val i64T (L.length:Int))).set 11 (.val i64T (j:Int))) (fun (j:Nat)=>((Hp.none).set 0 (.objAt b0 (setO ((L.take j).foldl zdu (zaI v m k i).2)))).set 1 (.parts 301 [.lit (.map (some b0))])) (fun (j:Nat)=>j≤L.length) (fun (j:Nat)=>L.length-j) (0) (uf _) ?_;intro j hj;refine qak ?_;refine Cf (p:=j<L.length) (fun ht12=>?_) (fun ht12=>?_)
  ·
   obtain⟨x,hx⟩:∃x,L[j]?=some x:=⟨_,ub ht12⟩;refine CSQBQR ?_;refine qc3 ?_;refine A0 aX ?_;refine CNR ?_;refine A0 yaE ?_;refine A0 mX ?_;refine A0 (zw3 rfl zu_186 su_186) ?_;refine aw_mapput (n:=0) rfl rfl rfl rfl rfl rfl rfl mp_301 ui_3 ?_;refine qbh ?_;refine zlr 0 (setO ((L.take (j+1)).foldl zdu (zaI v m k i).2)) rfl (by rw[un,hx,List.foldl_append];rfl) ?_;exact Nx (j+1) yc yc
  refine CE ?_;refine zgB rfl ?_;refine CNQ ?_;refine zlr 0 (setO (L.foldl zdu (zaI v m k i).2)) rfl yN ?_;refine CR ?_;refine qax ?_;refine qbt ?_;refine qax ?_;refine qcC ?_;refine Cf (p:=m<L.length) (fun ht33=>?_) (fun ht33=>?_)
  ·
   obtain⟨c,hc⟩:∃c,L[L.length-m.toNat]?=some c:=yv;refine CR ?_;refine qao ?_;refine qbt ?_;refine qcb ?_;refine A0 (zK (i:=L.length-m.toNat) rfl rfl rfl yc zbR yh) ?_;refine qbL ?_;refine A0 aX ?_;refine qbh ?_;refine zj (d:=8) (y:=(zaI v m k (i+1)).1) rfl (zg4 hL hc ht33) ?_;refine zlr 0 (setO (zaI v m k (i+1)).2) rfl (by rw[hL];rfl) ?_;exact Nx (i+1) yc yc
  refine qaZ ?_;refine zj (d:=8) (y:=(zaI v m k (i+1)).1) rfl (zhY hL ht33) ?_;refine zlr 0 (setO (zaI v m k (i+1)).2) rfl (by rw[hL];rfl) ?_;exact Nx (i+1) yc yc
 refine CE ?_;refine zgB rfl ?_;refine CNQ ?_;have hi32:i=32:=yc;subst hi32;obtain⟨K,hK⟩:∃K,K=(zaI v m k 32).2:=⟨_,rfl⟩;have hck:=hcl 32 yc;rw[←hK] at hck;refine zlr 0 (setO K) rfl (by rw[hK]) ?_;have hkeys:∀x∈K,-9223372036854775808≤x∧x≤9223372036854775807:=fun x hx=>by have:=hck.2.2 x hx;omega
 have hKl:=zmM hck hvl;refine CR ?_;refine A0 yaE ?_;refine zU rfl rfl rfl rfl Tryz.func211 fn_211 rfl rfl (fun ia4 iok4=>?_);refine CQR ?_;refine zso rfl rfl rfl rfl rfl rfl rfl ?_;refine qbo ?_;refine zU rfl rfl rfl rfl Tryz.func210 fn_210 rfl rfl (fun ia6 iok6=>?_);refine qbD ?_;refine A0 mC ?_;refine zU rfl rfl rfl rfl Tryz.func265 fn_265 rfl rfl (fun ia7 iok7=>?_);refine qbD ?_;refine A0 mC ?_;refine zU rfl rfl rfl rfl Tryz.func313 fn_313 rfl rfl (fun ia8 iok8=>?_);refine CQR ?_;refine zso rfl rfl rfl rfl rfl rfl rfl ?_;refine A0 aL ?_;refine CN ?_;refine aw_nilpart 3 3 i64T rfl ?_;refine CQQR ?_;refine A0 mC ?_;refine CNB ?_;refine zh2 rfl rfl rfl Tryz.func266 fn_266 rfl rfl yG (fun fid11 ca11 lN11 DN11 cok11 rc11 hrc11=>?_);refine CQR ?_;refine A0 yaE ?_;refine zvO (n:=0) rfl rfl rfl rfl rfl rfl mp_301 (fun it0=>?_);refine CNB ?_;refine zaQ 4 8 9 rfl rfl rfl rfl rfl rfl ?_;refine Lp (ι:=List Nat) 9 (fun (seen:List Nat)=>((Fr.none).set 0 (.lit (.func (.yield lN11) #[] #[]))).set 5 (.ptr 7 0)) (fun (seen:List Nat)=>((((((Hp.none).set 0 (.objAt b0 (setO K))).set 3 (.parts 24 [.own 8])).set 8 (.row 3 i64T (seen.map fun i=>K.getD i 0))).set 5 (.objAt DN11 (.deferred (some [])))).set 6 (.objAt lN11 (rc11 .ready none))).set 7 (.objAt it0 (itO b0 K.length seen))) (fun (seen:List Nat)=>seen.Nodup∧∀i∈seen,i<K.length) (fun (seen:List Nat)=>K.length-seen.length) ([]) (⟨List.nodup_nil,fun i h=>by cases h⟩) ?_;intro seen hs;refine CQR ?_;refine aw_nextmap (n1:=0) (n2:=7) rfl rfl rfl rfl rfl (hkeys) rfl rfl (fun hall=>?_) (fun i v hiv his=>?_)
 ·
  refine A0 (g_x1f rfl rfl) ?_;refine CNQ ?_;refine Cg ?_;refine CE ?_;refine zei (nL:=6) rfl hrc11 rfl yp ?_;refine CI ?_;refine CQR ?_;refine A0 ybM ?_;refine qbm ?_;refine zap (zbD (nD:=5) rfl rfl rfl (ar_back1 rfl ?_));refine qbm ?_;refine zbn rfl ?_;refine A0 aO ?_;refine CNQR ?_;refine A0 mO ?_;refine zgT (zp4 (seen.map fun i=>K.getD i 0) (by rw[List.length_map];have:=znl hs.1 hs.2;omega)) rfl fn_217 rfl trivial trivial rfl ⟨yi,trivial⟩ rfl rfl rfl ?_;refine CNQR ?_;refine A0 mO ?_;refine qbm ?_;refine zbn rfl ?_;refine qch ?_;exact zV rfl rfl (zh rfl rfl (by unfold zam;rw[ut hmp,←hK];exact sort_perm (seen_all hs hall))) (za rfl (by unfold zam;rw[ut hmp]))
 obtain⟨hs1,hs2,hs3⟩:=seen_step hs hiv his;refine A0 e30 ?_;refine CNQ ?_;refine Ct ?_;refine CS ?_;refine CB ?_;refine CQR ?_;refine aw_entry (n1:=0) (n2:=7) (v:=v) (i:=i) rfl rfl rfl rfl rfl ya1 ya1 yh (hkeys) ?_;refine A0 yZ ?_;refine A0 aX ?_;refine CNQR ?_;refine A0 mL ?_;refine A0 mX ?_;refine zh1 (nL:=6) rfl rfl rfl rfl rfl hrc11 rfl rfl rfl (fun ya12 yok12=>?_);refine CR ?_;refine qaA ?_;refine zh5 (nL:=6) hrc11 rfl ?_;refine CB ?_;refine CR ?_;refine A0 ybM ?_;refine A0 mX ?_;refine qaC ?_;refine zZ rfl rfl rfl rfl rfl rfl rfl rfl rfl rfl zen ?_;refine CN ?_;refine CI ?_;refine zde (nL:=6) hrc11 rfl ?_;refine qaL ?_;refine Cg ?_;refine CS ?_;refine CI ?_;refine zaQ 9 8 10 rfl rfl rfl rfl rfl rfl ?_;refine zA (n:=8) (y:=(seen++[i]).map fun i=>K.getD i 0) rfl (by rw[List.map_append];simp[hiv]) ?_;exact Nx (seen++[i]) (hs1) (hs2)
def proverN:GoT (List Block×Int×Int×List Int×Unit):=zbv (bsl zL) (zbv i64T (zbv i64T (zbv (sl i64T) nilT)))
def proofN:GoT (Int×Int×Unit):=zbv i64T (zbv i64T nilT)
theorem zsC:zay P 170 proverN ([],0,0,[],()):=zY (zS zc2 (zS zbG (zS zbG (zS zc2 zjc)))) yr
theorem zjb:zay P 27 proofN (0,0,()):=zY (zS zbG (zS zbG zjc)) yr
theorem zmq {l:List Block} {m k:Int} {v:List Int}:zdL proverN (l,m,k,v,()) [.val (bsl zL) l,.val i64T m,.val i64T k,.val (sl i64T) v,.lit (.slice none 0 0)]:=zaB zaz (zaB zaz (zaB zaz (zaB zaz znQ)))
theorem zhy {m k:Int}:zdL proofN (m,k,()) [.val i64T m,.val i64T k,.lit (.slice none 0 0)]:=zaB zaz (zaB zaz znQ)
theorem zhh {m k:Int} {l:List Part}:zlC zac (⟨m,k,l⟩:Proof) [.val i64T m,.val i64T k] zbl l:=zwN (zgi (zgi zov))
def zE (l:List Block) (m k:Int):List Int:=(zam (zo l) m k).1++(List.range k.toNat).map fun j:Nat=>(l.length:Int)-k+(j:Int)
def zaN (l:List Block) (i:Int):Part:=⟨(l.getD i.toNat default).h,(l.getD i.toNat default).l⟩
def prE (l:List Block) (m k:Int):Int:=if ¬(zH l).2=0 then (zH l).2 else if m<1∨20<m∨k<1∨20<k∨l.length≤k then 1 else 0
def prOf (l:List Block) (m k:Int):Proof:=if prE l m k=0 then ⟨m,k,(zE l m k).map (zaN l)⟩ else zbL
theorem zlS {v:List Int} {m k x:Int} (h:x∈(zam v m k).1):0≤x∧x<(v.length:Int)-k:=by
  unfold zam at h
  split at h
  · rename_i c
    exact(zlj c 32 (ug _)).2.2 x (zne.1 h)
  cases h
theorem zhG (v:List Int) (m k:Int):(zam v m k).1.length≤200:=by
  unfold zam
  split
  · rename_i c
    have:=zmM (zlj c 32 (ug _)) (zgM c)
    simpa [zaY] using this
  simp
theorem zcb (l:List Block):(zo l).length=l.length:=by unfold zo;simp
theorem zdn {l:List Block} {m k x:Int} (hk:1≤k∧k<l.length) (h:x∈zE l m k):0≤x∧x<l.length:=by
  unfold zE at h;rcases List.mem_append.1 h with h|h
  · have:=zlS h
    rw[zcb] at this;omega
  obtain⟨j,hj,rfl⟩:=List.mem_map.1 h;rw[List.mem_range] at hj;omega
theorem zkI {l:List Block} {m k:Int} (hk:k≤20):(zE l m k).length≤220:=by
  unfold zE
  have:=zhG (zo l) m k
  simp;omega
theorem zql (l:List Block) (m k:Int) (hl:zia l):Tells P 47 [.val (bsl zL) l,.val i64T m,.val i64T k] (.tup2 (.val zac (prOf l m k)) (.val i64T (prE l m k))):=by
 have hll:=hl.1;refine zc Tryz.func47 rfl rfl rfl (fun ext w hext=>?_);refine ze (d:=0) rfl zk (fun hsl0=>?_);refine ze (d:=1) rfl zt (fun hin1=>?_);refine ze (d:=2) rfl zt (fun hin2=>?_);refine CQR ?_;refine qby ?_;refine qag ?_;refine qao ?_;refine zU rfl rfl rfl rfl Tryz.func93 fn_93 rfl rfl (fun ia1 iok1=>?_);refine qaq ?_;refine qaj ?_;refine A0 (oCl (zlk l hl) rfl fn_21 yf) ?_;refine qa5 ?_;refine qag ?_;refine qbk ?_;refine zn (p:=¬(zH l).2=0) rfl yH (fun ht18=>?_) (fun ht18=>?_)
 ·
  refine qa4 ?_;refine A0 aL ?_;refine qad ?_;refine zc0 rfl ?_;refine A0 yw ?_;refine qaa ?_;refine qa0 ?_;refine zgz rfl (by simp;exact ht18) ?_;refine CQR ?_;refine xE ?_;refine qbG ?_;exact zq rfl rfl (zl rfl rfl zaR (by unfold prOf;rw[ur (by unfold prE;rw[ut ht18];exact ht18)])) (zT (za rfl (by unfold prE;rw[ut ht18])))
 refine qbM ?_;refine A0 zb2 ?_;refine qax ?_;refine Sp (d:=22) (p:=m<1) (fun g22=>?_) (fun g22=>?_)
 ·
  refine qaX ?_;refine A2 ?_;refine qal ?_;refine A2 ?_;refine qav ?_;refine qaw ?_;refine Ct ?_;refine qbp ?_;refine zc0 rfl ?_;refine A0 yw ?_;refine qaa ?_;refine qa0 ?_;refine Ct ?_;refine CQR ?_;refine xE ?_;refine qbG ?_;exact zq rfl rfl (zl rfl rfl zaR yX) (zT (za rfl yao))
 refine qck ?_;refine qal ?_;refine Sp (d:=26) (p:=20<m) (fun g26=>?_) (fun g26=>?_)
 ·
  refine qaX ?_;refine qav ?_;refine qaw ?_;refine Ct ?_;refine qbp ?_;refine zc0 rfl ?_;refine A0 yw ?_;refine qaa ?_;refine qa0 ?_;refine Ct ?_;refine CQR ?_;refine xE ?_;refine qbG ?_;exact zq rfl rfl (zl rfl rfl zaR yX) (zT (za rfl yao))
 refine A1 mV ?_;refine A1 zb2 ?_;refine qal ?_;refine Sp (d:=30) (p:=k<1) (fun g30=>?_) (fun g30=>?_)
 ·
  refine A2 ?_;refine qav ?_;refine qaw ?_;refine Ct ?_;refine qbp ?_;refine zc0 rfl ?_;refine A0 yw ?_;refine qaa ?_;refine qa0 ?_;refine Ct ?_;refine CQR ?_;refine xE ?_;refine qbG ?_;exact zq rfl rfl (zl rfl rfl zaR yX) (zT (za rfl yao))
 refine qck ?_;refine qal ?_;refine Sp (d:=34) (p:=20<k) (fun g34=>?_) (fun g34=>?_)
 ·
  refine qb7 ?_;refine qaw ?_;refine Ct ?_;refine qbp ?_;refine zc0 rfl ?_;refine A0 yw ?_;refine qaa ?_;refine qa0 ?_;refine Ct ?_;refine CQR ?_;refine xE ?_;refine qbG ?_;exact zq rfl rfl (zl rfl rfl zaR yX) (zT (za rfl yao))
 refine A1 mV ?_;refine A1 (zW rfl rfl zeP) ?_;refine A1 mV ?_;refine A1 zih ?_;refine qaw ?_;refine Cf (p:=l.length≤k) (fun ht39=>?_) (fun ht39=>?_)
 ·
  refine qbp ?_;refine zc0 rfl ?_;refine A0 yw ?_;refine qaa ?_;refine qa0 ?_;refine Ct ?_;refine CQR ?_;refine xE ?_;refine qbG ?_;exact zq rfl rfl (zl rfl rfl zaR yX) (zT (za rfl yao))
 have hpl:=zhG (zo l) m k;refine CSQR ?_;refine qao ?_;refine qao ?_;refine A0 (oCl (zu (ztv l yc)) rfl fn_160 yf) ?_;refine A0 (zC rfl zsC bd_170 (.cons zr5 (Lens.fst _ _) znJ rfl (.cons zlb ((Lens.snd _ _).comp (Lens.fst _ _)) ty_3 rfl (.cons zla ((Lens.snd _ _).comp ((Lens.snd _ _).comp (Lens.fst _ _))) ty_3 rfl (.cons zjo ((Lens.snd _ _).comp ((Lens.snd _ _).comp ((Lens.snd _ _).comp (Lens.fst _ _)))) zen rfl .nil)))) rfl) ?_;refine xb ?_;refine A0 aP ?_;refine CN ?_;refine zdd 2 (x:=(l,m,k,zo l,())) zmq rfl ?_;refine zd8 2 3 i64T [.val (bsl zL) l,.val i64T m,.val i64T k,.val (sl i64T) (zo l)] rfl ya0 ?_;refine CQR ?_;refine A0 mP ?_;refine qaN ?_;refine A0 (oFp zjo) ?_;refine qbu ?_;refine qao ?_;refine zls (ztl (zo l) m k) rfl fn_161 yT zk8 rfl rfl rfl ?_;refine A0 yw ?_;refine qaa ?_;refine qbH ?_;refine CNQQR ?_;refine qao ?_;refine CNB ?_;refine zA (n:=4) (y:=(zam (zo l) m k).1++(List.range 0).map fun j:Nat=>(l.length:Int)-k+(j:Int)) rfl yy ?_;refine Lp (ι:=Nat) 5 (fun i=>((((Fr.none.set 0 (.val (bsl zL) l)).set 2 (.val i64T k)).set 10 (.ptr 2 0)).set 60 (.val i64T k)).set 61 (.val i64T (i:Int))) (fun i=>((Hp.none.set 0 (.box 27 zac zbL)).set 2 (.parts 170 ([.val (bsl zL) l,.val i64T m,.val i64T k,.val (sl i64T) (zo l)]++[.own 4]))).set 4 (.row 3 i64T ((zam (zo l) m k).1++(List.range i).map fun j:Nat=>(l.length:Int)-k+(j:Int)))) (fun i=>(i:Int)≤k) (fun i=>k.toNat-i) (0) yx ?_;intro i hi;refine qak ?_;refine Cf (p:=(i:Int)<k) (fun ht62=>?_) (fun ht62=>?_)
 ·
  refine qaE ?_;refine qc5 ?_;refine A0 mP ?_;refine qcI ?_;refine qax ?_;refine xC ?_;refine qcb ?_;refine qbb ?_;refine qaC ?_;refine qbH ?_;refine qbh ?_;refine zaQ 5 4 6 rfl rfl rfl rfl rfl rfl ?_;refine zA (n:=4) (y:=(zam (zo l) m k).1++(List.range (i+1)).map fun j:Nat=>(l.length:Int)-k+(j:Int)) rfl (by rw[List.range_succ,List.map_append];simp) ?_;exact Nx (i+1) yc yc
 refine CE ?_;refine CQ ?_;obtain⟨PL,hPL⟩:∃PL,PL=zE l m k:=⟨_,rfl⟩;refine zA (n:=4) (y:=PL) rfl (by rw[hPL];unfold zE;rw[show k.toNat=i by omega]) ?_;have hpm:∀x∈PL,0≤x∧x<l.length:=fun x hx=>zdn yc (hPL▸hx)
 have hpn:PL.length≤220:=hPL▸zkI yc;refine CR ?_;refine A0 mP ?_;refine A0 aP ?_;refine qad ?_;refine zc0 rfl ?_;refine A0 yw ?_;refine qaa ?_;refine A0 aP ?_;refine A0 aX ?_;refine CNQQR ?_;refine A0 mX ?_;refine qbk ?_;refine Cg ?_;refine CSQR ?_;refine A0 mP ?_;refine zU rfl rfl rfl rfl Tryz.func97 fn_97 rfl rfl (fun ia3 iok3=>?_);refine CQR ?_;refine qby ?_;refine CNQ ?_;refine xF ?_;refine XK.ga (fun _=>g_mp (.inl rfl) rfl) rfl rfl rfl ?_;refine XK.ga (fun _=>g_nc rfl rfl) rfl rfl rfl ?_;refine XK.ga (fun _=>zcI rfl rfl zlb rfl) rfl rfl rfl ?_;refine XK.gf (t:=8) rfl rfl (fun _ he=>zy rfl rfl he rfl rfl ty_3) ⟨rfl,trivial⟩ rfl rfl rfl ?_;refine XK.ga (fun _=>g_mp (.inl rfl) rfl) rfl rfl rfl ?_;refine XK.ga (fun _=>g_nc rfl rfl) rfl rfl rfl ?_;refine XK.ga (fun _=>zcI rfl rfl zla rfl) rfl rfl rfl ?_;refine XK.gf (t:=12) rfl rfl (fun _ he=>zy rfl rfl he rfl rfl ty_3) ⟨rfl,trivial⟩ rfl rfl rfl ?_;refine XK.ga (fun _=>zC rfl zjb zfR (.cons zd6 (Lens.fst _ _) ty_3 rfl (.cons zdG ((Lens.snd _ _).comp (Lens.fst _ _)) ty_3 rfl .nil)) rfl) rfl rfl rfl ?_;refine XK.e (fun fr' hfr kk H=>by exact zs zjb rfl rfl rfl rfl (zr H)) ?_;refine XK.e (x:=.idk) (fun fr' hfr kk H=>by exact zf rfl rfl rfl ((hfr 3 ye).trans rfl) rfl (Lens.self _) zaR ((hfr 14 ye).trans rfl) (zr H)) ?_;refine XK.nilp ⟨yB,yB,trivial⟩ ?_;refine zdd 6 (x:=(m,k,())) zhy rfl ?_;refine zd8 6 72 zbl [.val i64T m,.val i64T k] rfl yW ?_;refine CQQR ?_;refine qcI ?_;refine xG ?_;refine qa2 ?_;refine Lp (ι:=Nat) 8 (fun i=>(((((Fr.none.set 0 (.ptr 2 0)).set 2 (.ptr 5 0)).set 3 (.ptr 6 0)).set 18 (.own 4)).set 19 (.val i64T (PL.length:Int))).set 20 (.val i64T (i:Int))) (fun i=>(((((Hp.none.set 0 (.box 27 zac zbL)).set 2 (.parts 170 ([.val (bsl zL) l,.val i64T m,.val i64T k,.val (sl i64T) (zo l)]++[.own 4]))).set 4 (.row 3 i64T PL)).set 5 (.box 27 zac zbL)).set 6 (.parts 27 [.val i64T m,.val i64T k,.own 7])).set 7 (.row 72 zbl ((PL.take i).map (zaN l)))) (fun i=>i≤PL.length) (fun i=>PL.length-i) (0) (uf _) ?_;intro i hi2;refine qak ?_;refine Cf (p:=i<PL.length) (fun ht21=>?_) (fun ht21=>?_)
 ·
  obtain⟨x,hx⟩:∃x,PL[i]?=some x:=⟨_,ub ht21⟩;have hxb:=hpm x (ud hx);obtain⟨b,hb⟩:∃b,l[x.toNat]?=some b:=yv;refine CSQBQR ?_;refine A0 (zcs (i:=i) rfl rfl rfl rfl yn zbR yg) ?_;refine xH ?_;refine qad ?_;refine xI ?_;refine qbz ?_;refine qbe ?_;refine X0 mV ?_;refine xJ ?_;refine X0 (oFr zbe zaw) ?_;refine X0 (zg rfl rfl zaM) ?_;refine qbe ?_;refine X0 mV ?_;refine xJ ?_;refine X0 (oFr zcQ zbN) ?_;refine X0 (zg rfl rfl za5) ?_;refine X0 (oCl (zu (zg3 b.l ybm)) rfl zpS ybN) ?_;refine xK ?_;refine qc1 ?_;refine XK.e (fun fr' hfr kk H=>by exact zF rfl rfl rfl rfl ((hfr 25 ye).trans rfl) rfl ((hfr 44 ye).trans rfl) zn5 yx (zr H)) ?_;refine X0 (oFp zat) ?_;refine XK.e (x:=.idk) (fun fr' hfr kk H=>by exact zZ rfl rfl rfl ((hfr 46 ye).trans rfl) rfl rfl ((hfr 45 ye).trans rfl) rfl rfl rfl zcm (zr H)) ?_;refine qaJ ?_;refine zaQ 8 7 9 rfl rfl rfl rfl rfl rfl ?_;refine zA (n:=7) (y:=(PL.take (i+1)).map (zaN l)) rfl ybs ?_;exact Nx (i+1) yc yc
 refine CE ?_;refine CQ ?_;refine zA (n:=7) (y:=PL.map (zaN l)) rfl yN ?_;refine zh3 6 7 [.val i64T m,.val i64T k] (z:=(⟨m,k,PL.map (zaN l)⟩:Proof)) (R:=zac) rfl rfl rfl zhh ?_;refine CR ?_;refine qaQ ?_;refine qam ?_;refine CN ?_;refine zlt rfl rfl rfl zaR ?_;refine qcx ?_;exact zq rfl rfl (zl rfl rfl zaR (by unfold prOf;rw[ut (by unfold prE;rw[ur yc,ur yc]),hPL])) (zT (za rfl (by unfold prE;rw[ur yc,ur yc])))
theorem toI_u32 {a b:UInt32}:IntL.toI u32T a=IntL.toI u32T b↔a=b:=⟨fun h=>UInt32.toNat_inj.1 (Int.ofNat.inj h),fun h=>by rw[h]⟩
def idsP (p:Proof):List Ab.Id:=p.p.map fun x=>zw x.h
def zos (p:Proof):List Int:=p.p.map fun x=>zQ x.h
def zgN (l:List Ab.Id) (prev id:Ab.Id):Bool:=decide (prev=id)||l.any fun x=>decide (id=x)
def ztk (y z:Part) (last:Prop) [Decidable last] (d:Ab.Id):Int :=
  if y.h.height≤z.h.height∨¬y.h.bits=z.h.bits∨last∧(¬y.h.height=IntKind.i64.wrap (z.h.height+1)∨¬y.h.prev=d) then 5 else 0
def ztu (y:Part) (c d:Ab.Id):Int :=
  if y.l.length=0∨32<y.l.length∨¬y.l.getD 0 zId=c∨zgN y.l y.h.prev d=false∨¬zal y.l=y.h.links then 6 else 0
def zsJ (y:Part):Int:=if ¬zbx y.h=true then 4 else 0
def zkn:Part:=⟨zko,[]⟩
def yOf (x:CTrial):Part:=x.p.p.getD x.at_.toNat zkn
def zOf (x:CTrial):Part:=x.p.p.getD (x.at_.toNat-1) zkn
def dOf (x:CTrial):Ab.Id:=x.ids.getD (x.at_.toNat-1) zId
def cOf (x:CTrial):Ab.Id:=x.ids.getD 0 zId
def zlR (x:CTrial):Int:=ztk (yOf x) (zOf x) ((x.p.p.length:Int)-x.p.k≤x.at_) (dOf x)
def zlY (x:CTrial):Int:=ztu (yOf x) (cOf x) (dOf x)
def znz (x:CTrial):Int:=zsJ (yOf x)
def TrOk (x:CTrial):Prop:=1≤x.at_∧x.at_<x.p.p.length∧x.ids.length=x.p.p.length∧x.p.p.length≤100∧1≤x.p.k∧x.p.k≤20
theorem zjJ {x:CTrial} {y:Part} (h:x.p.p[x.at_.toNat]?=some y):yOf x=y:=by unfold yOf;simp[h]
theorem zOf_at {x:CTrial} {y:Part} (h:x.p.p[x.at_.toNat-1]?=some y):zOf x=y:=by unfold zOf;simp[h]
theorem zqL {x:CTrial} {y:Ab.Id} (h:x.ids[x.at_.toNat-1]?=some y):dOf x=y:=by unfold dOf;simp[h]
theorem cOf_at {x:CTrial} {y:Ab.Id} (h:x.ids[0]?=some y):cOf x=y:=by unfold cOf;simp[h]
theorem zkG {x:CTrial} {y z:Part} {d:Ab.Id} (hy:x.p.p[x.at_.toNat]?=some y) (hz:x.p.p[x.at_.toNat-1]?=some z) (hd:x.ids[x.at_.toNat-1]?=some d)
    (h:y.h.height≤z.h.height∨¬y.h.bits=z.h.bits∨((x.p.p.length:Int)-x.p.k≤x.at_)∧(¬y.h.height=IntKind.i64.wrap (z.h.height+1)∨¬y.h.prev=d)):zlR x=5:=by
  unfold zlR ztk;rw[zjJ hy,zOf_at hz,zqL hd,ut h]
theorem zrw {x:CTrial} {y z:Part} {d:Ab.Id} (hy:x.p.p[x.at_.toNat]?=some y) (hz:x.p.p[x.at_.toNat-1]?=some z) (hd:x.ids[x.at_.toNat-1]?=some d)
    (h:¬(y.h.height≤z.h.height∨¬y.h.bits=z.h.bits∨((x.p.p.length:Int)-x.p.k≤x.at_)∧(¬y.h.height=IntKind.i64.wrap (z.h.height+1)∨¬y.h.prev=d))):zlR x=0:=by
  unfold zlR ztk;rw[zjJ hy,zOf_at hz,zqL hd,ur h]
theorem ziE {x:CTrial} {y:Part} {c d:Ab.Id} (hy:x.p.p[x.at_.toNat]?=some y) (hc:x.ids[0]?=some c) (hd:x.ids[x.at_.toNat-1]?=some d)
    (h:y.l.length=0∨32<y.l.length∨¬y.l.getD 0 zId=c∨zgN y.l y.h.prev d=false∨¬zal y.l=y.h.links):zlY x=6:=by
  unfold zlY ztu;rw[zjJ hy,cOf_at hc,zqL hd,ut h]
theorem zwI {x:CTrial} {y:Part} {c d:Ab.Id} (hy:x.p.p[x.at_.toNat]?=some y) (hc:x.ids[0]?=some c) (hd:x.ids[x.at_.toNat-1]?=some d)
    (h:¬(y.l.length=0∨32<y.l.length∨¬y.l.getD 0 zId=c∨zgN y.l y.h.prev d=false∨¬zal y.l=y.h.links)):zlY x=0:=by
  unfold zlY ztu;rw[zjJ hy,cOf_at hc,zqL hd,ur h]
def three:List (Option Nat):=[some 53,some 54,some 55]
def askC (f:Option Nat) (x:CTrial):Int:=if f=some 53 then zlR x else if f=some 54 then zlY x else znz x
def zeA:List (Option Nat)→CTrial→Int
  | [],_=>0
  | f::l,x=>if askC f x=0 then zeA l x else askC f x
theorem zmJ (x:CTrial):zeA three x=if ¬zlR x=0 then zlR x else if ¬zlY x=0 then zlY x else znz x:=by
  have e1:askC (some 53) x=zlR x:=by unfold askC;rw[ut rfl]
  have e2:askC (some 54) x=zlY x:=by unfold askC;rw[ur yp,ut rfl]
  have e3:askC (some 55) x=znz x:=by unfold askC;rw[ur yp,ur yp]
  unfold three;simp only[zeA,e1,e2,e3];by_cases h1:zlR x=0
  · by_cases h2:zlY x=0
    · by_cases h3:znz x=0<;>simp[h1,h2,h3]
    simp[h1,h2]
  simp[h1]
theorem zka {l:List (Option Nat)} {j:Nat} {f:Option Nat} {x:CTrial} (h:l[j]?=some f) (h0:askC f x=0):zeA (l.drop j) x=zeA (l.drop (j+1)) x:=by
  obtain⟨hj,rfl⟩:=ul.1 h;rw[List.drop_eq_getElem_cons hj];show(if _ then _ else _)=_;rw[ut h0]
theorem zeW {l:List (Option Nat)} {j:Nat} {f:Option Nat} {x:CTrial} (h:l[j]?=some f) (h0:¬askC f x=0):zeA (l.drop j) x=askC f x:=by
  obtain⟨hj,rfl⟩:=ul.1 h;rw[List.drop_eq_getElem_cons hj];show(if _ then _ else _)=_;rw[ur h0]
def zgV (p:Proof) (ids:List Ab.Id):Nat→Nat→Int
  | 0,_=>0
  | n+1,i=>if zeA three ⟨p,ids,i⟩=0 then zgV p ids n (i+1) else zeA three ⟨p,ids,i⟩
theorem trials_go {p:Proof} {ids:List Ab.Id} {i:Nat} (hi:i<p.p.length) (h:zeA three ⟨p,ids,i⟩=0):zgV p ids (p.p.length-i) i=zgV p ids (p.p.length-(i+1)) (i+1):=by
  rw[show p.p.length-i=(p.p.length-(i+1))+1 by omega];show(if _ then _ else _)=_;rw[ut h]
theorem zjX {p:Proof} {ids:List Ab.Id} {i:Nat} (hi:i<p.p.length) (h:¬zeA three ⟨p,ids,i⟩=0):zgV p ids (p.p.length-i) i=zeA three ⟨p,ids,i⟩:=by
  rw[show p.p.length-i=(p.p.length-(i+1))+1 by omega];show(if _ then _ else _)=_;rw[ur h]
def zaa (p:Proof):Int :=
  if p.m<1∨20<p.m∨p.k<1∨20<p.k then 1
  else if 100<p.p.length∨(p.p.length:Int)≤p.k then 3
  else if zbQ (p.p.getD 0 zkn).h.bits=false∨0<(p.p.getD 0 zkn).l.length∨¬(p.p.getD 0 zkn).h=(zaq (p.p.getD 0 zkn).h.bits).b.h then 12
  else zgV p (idsP p) (p.p.length-1) 1
theorem zow (p:Proof) (hl:p.p.length≤1000000000000):Tells P 22 [.val zac p] (.fresh 49 idT (idsP p)):=by
 refine zc Tryz.func22 rfl rfl rfl (fun ext w hext=>?_);refine qc6 ?_;refine CNQR ?_;refine A0 aL ?_;refine CNQQR ?_;refine A0 (oFp zat) ?_;refine A0 (oLb zau zcm) ?_;refine xL ?_;refine qa2 ?_;refine zcv (T:=idT) (d:=3) 49 rfl ?_;refine Lp (ι:=Nat) 2 (fun (k:Nat)=>((((Fr.none).set 3 (.own 1)).set 7 (.val (sl zbl) p.p)).set 8 (.val i64T (p.p.length:Int))).set 9 (.val i64T (k:Int))) (fun (k:Nat)=>(Hp.none).set 1 (.row 49 idT ((p.p.take k).map fun x=>zw x.h))) (fun (k:Nat)=>k≤p.p.length) (fun (k:Nat)=>p.p.length-k) (0) (uf _) ?_;intro k hinv;refine qak ?_;refine Cf (p:=k<p.p.length) (fun ht10=>?_) (fun ht10=>?_)
 ·
  obtain⟨x,hx⟩:∃x,p.p[k]?=some x:=⟨_,ub ht10⟩;refine CSQBQR ?_;refine qbP ?_;refine qa1 ?_;refine CNR ?_;refine A0 mO ?_;refine A0 (oFp zbk) ?_;refine A0 (oLb zaU zaM) ?_;refine A0 (oCl (zeu x.h) rfl zr0 yf) ?_;refine qb5 ?_;refine xv ?_;refine zA (n:=1) (y:=(p.p.take (k+1)).map fun x=>zw x.h) rfl (by rw[un,hx,List.map_append];simp) ?_;exact Nx (k+1) yc yc
 refine qa9 ?_;exact zb rfl rfl (zh rfl rfl (by rw[uc yc];rfl))
theorem levelsP_ok (p:Proof) (hl:p.p.length≤1000000000000):Tells P 65 [.val zac p] (.fresh 3 i64T (zos p)):=by
 refine zc Tryz.func65 rfl rfl rfl (fun ext w hext=>?_);refine qc6 ?_;refine CNQR ?_;refine A0 aL ?_;refine CNQQR ?_;refine A0 (oFp zat) ?_;refine A0 (oLb zau zcm) ?_;refine xL ?_;refine qa2 ?_;refine zcv (T:=i64T) (d:=3) 3 rfl ?_;refine Lp (ι:=Nat) 2 (fun (k:Nat)=>((((Fr.none).set 3 (.own 1)).set 7 (.val (sl zbl) p.p)).set 8 (.val i64T (p.p.length:Int))).set 9 (.val i64T (k:Int))) (fun (k:Nat)=>(Hp.none).set 1 (.row 3 i64T ((p.p.take k).map fun x=>zQ x.h))) (fun (k:Nat)=>k≤p.p.length) (fun (k:Nat)=>p.p.length-k) (0) (uf _) ?_;intro k hinv;refine qak ?_;refine Cf (p:=k<p.p.length) (fun ht10=>?_) (fun ht10=>?_)
 ·
  obtain⟨x,hx⟩:∃x,p.p[k]?=some x:=⟨_,ub ht10⟩;refine CSQBQR ?_;refine qbP ?_;refine qa1 ?_;refine CNR ?_;refine A0 mO ?_;refine A0 (oFp zbk) ?_;refine A0 (oLb zaU zaM) ?_;refine A0 (oCl (zgO x.h) rfl zxb yf) ?_;refine qaC ?_;refine A0 aO ?_;refine qbh ?_;refine xv ?_;refine zA (n:=1) (y:=(p.p.take (k+1)).map fun x=>zQ x.h) rfl (by rw[un,hx,List.map_append];simp) ?_;exact Nx (k+1) yc yc
 refine qa9 ?_;exact zb rfl rfl (zh rfl rfl (by rw[uc yc];rfl))
theorem cprev_ok (x:CTrial) (h:TrOk x):Tells P 53 [.rptr zgw x] (.val i64T (zlR x)):=by
 obtain⟨h1,h2,h3,h4,h5,h6⟩:=h;obtain⟨y,hy⟩:∃y,x.p.p[x.at_.toNat]?=some y:=yv;obtain⟨z,hz⟩:∃z,x.p.p[x.at_.toNat-1]?=some z:=yv;obtain⟨d,hd⟩:∃d,x.ids[x.at_.toNat-1]?=some d:=yv;refine zc Tryz.func53 rfl rfl rfl (fun ext w hext=>?_);refine CQR ?_;refine qa7 ?_;refine zxB 25 (.box 55 zbW zko) [some 1000001,some 1000001,some 1000001,some 1000001,some 1000001,some 1000001,some 1000001,some 1000001,some 1000001,some 1000001,some 1000001,some 1000001,some 1000001,some 1000001,some 1000001,some 1000001,some 1000001,some 1000001,some 1000001,some 1000001,some 1000001,some 1000001,some 1000001,some 1000001,some 1000001,some 1000001,none,none,none] mixed ye rfl ?_;refine XKF.ga rfl (fun _=>g_mr (.inl rfl) rfl) rfl rfl rfl rfl ?_;refine XKF.ga rfl (fun _=>zef rfl rfl) rfl rfl rfl rfl ?_;refine XKF.ga rfl (fun _=>zic rfl rfl zhW ze3) rfl rfl rfl rfl ?_;refine XKF.ga rfl (fun _=>zic rfl rfl zat zau) rfl rfl rfl rfl ?_;refine XKF.ga rfl (fun _=>zg rfl rfl zcm) rfl rfl rfl rfl ?_;refine XKF.ga rfl (fun _=>g_mr (.inl rfl) rfl) rfl rfl rfl rfl ?_;refine XKF.ga rfl (fun _=>zef rfl rfl) rfl rfl rfl rfl ?_;refine XKF.ga rfl (fun _=>zic rfl rfl zeD zbE) rfl rfl rfl rfl ?_;refine XKF.ga rfl (fun _=>zg rfl rfl ty_3) rfl rfl rfl rfl ?_;refine XKF.ga rfl (fun _=>zK (i:=x.at_.toNat) rfl rfl rfl yc zfE yh) rfl rfl rfl rfl ?_;refine XKF.ga rfl (fun _=>zic rfl rfl zbk zaU) rfl rfl rfl rfl ?_;refine XKF.ga rfl (fun _=>zg rfl rfl zaM) rfl rfl rfl rfl ?_;refine XKF.ga rfl (fun _=>g_mr (.inl rfl) rfl) rfl rfl rfl rfl ?_;refine XKF.ga rfl (fun _=>zef rfl rfl) rfl rfl rfl rfl ?_;refine XKF.ga rfl (fun _=>zic rfl rfl zhW ze3) rfl rfl rfl rfl ?_;refine XKF.ga rfl (fun _=>zic rfl rfl zat zau) rfl rfl rfl rfl ?_;refine XKF.ga rfl (fun _=>zg rfl rfl zcm) rfl rfl rfl rfl ?_;refine XKF.ga rfl (fun _=>g_mr (.inl rfl) rfl) rfl rfl rfl rfl ?_;refine XKF.ga rfl (fun _=>zef rfl rfl) rfl rfl rfl rfl ?_;refine XKF.ga rfl (fun _=>zic rfl rfl zeD zbE) rfl rfl rfl rfl ?_;refine XKF.ga rfl (fun _=>zg rfl rfl ty_3) rfl rfl rfl rfl ?_;refine XKF.ga rfl yal rfl rfl rfl rfl ?_;refine XKF.ga rfl (fun _=>zK (i:=x.at_.toNat-1) rfl rfl rfl yc zfE yh) rfl rfl rfl rfl ?_;refine XKF.ga rfl (fun _=>zic rfl rfl zbk zaU) rfl rfl rfl rfl ?_;refine XKF.ga rfl (fun _=>zg rfl rfl zaM) rfl rfl rfl rfl ?_;refine XKF.f rfl zq6 rfl rfl rfl rfl rfl rfl ?_;refine XKF.e rfl (fun fr' hfr kk H=>by exact zs zq6 rfl rfl rfl rfl (zr H)) (EffA.conv (fun fr' hfr kk H=>by exact zs zq6 rfl rfl rfl rfl (zr H)) ybF) ya1 ya1 ya1 (by (repeat refine zq1 ?_ rfl);exact fun _ _=>rfl) ?_;refine XKF.ew (x:=.idk) rfl ye (fun fr' hfr kk H=>by exact zf rfl rfl rfl ((hfr 3 ye).trans rfl) rfl (Lens.self _) zaM ((hfr 17 ye).trans rfl) (zr H)) ya1 (by (repeat refine zq1 ?_ rfl);exact fun _ _=>rfl) ?_;refine XKF.ew (x:=.idk) rfl ye (fun fr' hfr kk H=>by exact zf rfl rfl rfl ((hfr 4 ye).trans rfl) rfl (Lens.self _) zaM ((hfr 30 ye).trans rfl) (zr H)) ya1 (by (repeat refine zq1 ?_ rfl);exact fun _ _=>rfl) ?_;refine XKF.nilp trivial ?_;refine qaV ?_;refine qbN ?_;refine G0 (oFr zeD zbE) ?_;refine G0 (zg rfl rfl ty_3) ?_;refine qbN ?_;refine G0 (oFr zhW ze3) ?_;refine G0 (oFr zat zau) ?_;refine G0 (zg rfl rfl zcm) ?_;refine G0 yaf ?_;refine qbN ?_;refine G0 (oFr zhW ze3) ?_;refine G0 (oFr zdG zcJ) ?_;refine G0 (zg rfl rfl ty_3) ?_;refine G0 zbb ?_;refine G0 zfd ?_;refine qaP ?_;refine CQ ?_;refine qaV ?_
 refine G0 (oFp zcR) ?_;refine G0 (oLb zar ty_3) ?_;refine G0 (oFp zcR) ?_;refine G0 (oLb zar ty_3) ?_;refine G0 zih ?_;refine G0 mV ?_;refine zaG (d:=53) (p:=y.h.height≤z.h.height) rfl yA (fun g53=>?_) (fun g53=>?_)
 ·
  refine qaK ?_;refine G2 ?_;refine G2 ?_;refine qaT ?_;refine G2 ?_;refine G2 ?_;refine qaf ?_;refine qaf ?_;refine G2 ?_;refine qaW ?_;refine Ct ?_;refine qas ?_;exact zb rfl rfl (za rfl ((zkG hy hz hd (.inl g53)).symm))
 refine G1 (oFp zdF) ?_;refine G1 (oLb za9 zcj) ?_;refine G1 (oFp zdF) ?_;refine G1 (oLb za9 zcj) ?_;refine G1 zdQ ?_;refine qaT ?_;refine zaG (d:=60) (p:=¬y.h.bits=z.h.bits) rfl (by simp[toI_u32]) (fun g60=>?_) (fun g60=>?_)
 ·
  refine G2 ?_;refine G2 ?_;refine qaf ?_;refine qaf ?_;refine G2 ?_;refine qaW ?_;refine Ct ?_;refine qas ?_;exact zb rfl rfl (za rfl ((zkG hy hz hd (.inr (.inl g60))).symm))
 refine G1 mV ?_;refine G1 mV ?_;refine zaG (d:=62) (p:=(x.p.p.length:Int)-x.p.k≤x.at_) rfl yA (fun g62=>?_) (fun g62=>?_)
 ·
  refine G1 (oFp zcR) ?_;refine G1 (oLb zar ty_3) ?_;refine G1 (oFp zcR) ?_;refine G1 (oLb zar ty_3) ?_;refine G1 zdp ?_;refine G1 zdQ ?_;refine G1 mV ?_;refine zaG (d:=69) (p:=¬y.h.height=IntKind.i64.wrap (z.h.height+1)) rfl yH (fun g69=>?_) (fun g69=>?_)
  ·
   refine qab ?_;refine qab ?_;refine G2 ?_;refine G2 ?_;refine G1 oK ?_;refine G1 oK ?_;refine qaW ?_;refine Ct ?_;refine qas ?_;exact zb rfl rfl (za rfl ((zkG hy hz hd (.inr (.inr ⟨g62,.inl g69⟩))).symm))
  refine G1 (oFp zg1) ?_;refine G1 (oLb zdh zaj) ?_;refine qc9 ?_;refine G1 mR ?_;refine G1 (zef rfl rfl) ?_;refine G1 (oFr zeD zbE) ?_;refine G1 (zg rfl rfl ty_3) ?_;refine G1 zbb ?_;refine G1 (zK (i:=x.at_.toNat-1) rfl rfl rfl yc zb8 yh) ?_;refine G1 (zg rfl rfl zaj) ?_;refine G1 (zee rfl rfl rfl (zfl)) ?_;refine G1 oK ?_;refine G1 oK ?_;refine qaW ?_;refine zn (p:=¬y.h.prev=d) rfl yy (fun ht86=>?_) (fun ht86=>?_)
  ·
   refine qas ?_;exact zb rfl rfl (za rfl ((zkG hy hz hd (.inr (.inr ⟨g62,.inr ht86⟩))).symm))
  refine CSQR ?_;refine qad ?_;exact zb rfl rfl (za rfl ((zrw hy hz hd (fun h=>h.elim g53 (fun h=>h.elim g60 (fun h=>h.2.elim g69 ht86)))).symm))
 refine qab ?_;refine G2 ?_;refine qaf ?_;refine G3 ?_;refine G3 ?_;refine G3 ?_;refine G2 ?_;refine G1 oK ?_;refine qaW ?_;refine Cg ?_;refine CSQR ?_;refine qad ?_;exact zb rfl rfl (za rfl ((zrw hy hz hd (fun h=>h.elim g53 (fun h=>h.elim g60 (fun h=>g62 h.1)))).symm))
theorem clink_ok (x:CTrial) (h:TrOk x):Tells P 54 [.rptr zgw x] (.val i64T (zlY x)):=by
 obtain⟨h1,h2,h3,h4,h5,h6⟩:=h;obtain⟨y,hy⟩:∃y,x.p.p[x.at_.toNat]?=some y:=yv;obtain⟨d,hd⟩:∃d,x.ids[x.at_.toNat-1]?=some d:=yv;obtain⟨c,hc⟩:∃c,x.ids[0]?=some c:=yv;refine zc Tryz.func54 rfl rfl rfl (fun ext w hext=>?_);refine CQR ?_;refine qa7 ?_;refine zx [some 1000001,some 1000001,some 1000001,some 1000001,some 1000001,some 1000001,some 1000001,some 1000001,some 1000001,some 1000001,some 1000001,none,none] mixed ye ?_;refine XK.ga (fun _=>g_mr (.inl rfl) rfl) rfl rfl rfl ?_;refine XK.ga (fun _=>zef rfl rfl) rfl rfl rfl ?_;refine XK.ga (fun _=>zic rfl rfl zhW ze3) rfl rfl rfl ?_;refine XK.ga (fun _=>zic rfl rfl zat zau) rfl rfl rfl ?_;refine XK.ga (fun _=>zg rfl rfl zcm) rfl rfl rfl ?_;refine XK.ga (fun _=>g_mr (.inl rfl) rfl) rfl rfl rfl ?_;refine XK.ga (fun _=>zef rfl rfl) rfl rfl rfl ?_;refine XK.ga (fun _=>zic rfl rfl zeD zbE) rfl rfl rfl ?_;refine XK.ga (fun _=>zg rfl rfl ty_3) rfl rfl rfl ?_;refine XK.ga (fun _=>zK (i:=x.at_.toNat) rfl rfl rfl yc zfE yh) rfl rfl rfl ?_;refine XK.ga (fun _=>zg rfl rfl zga) rfl rfl rfl ?_;refine XK.e (fun fr' hfr kk H=>by exact zs zpx rfl rfl rfl rfl (zr H)) ?_;refine XK.e (x:=.idk) (fun fr' hfr kk H=>by exact zf rfl rfl rfl ((hfr 3 ye).trans rfl) rfl (Lens.self _) zga ((hfr 14 ye).trans rfl) (zr H)) ?_;refine xf ?_;refine CQ ?_;refine qaV ?_;refine G0 (oFp zbA) ?_;refine G0 (oLb za4 za5) ?_;refine G0 (zW rfl rfl zcq) ?_;refine G0 zbZ ?_;refine G0 mV ?_;refine zaG (d:=19) (p:=y.l.length=0) rfl (by rw[uo];simp[IntL.toI]) (fun g19=>?_) (fun g19=>?_)
 ·
  refine qaK ?_;refine G2 ?_;refine qaT ?_;refine qab ?_;refine qaK ?_;refine G2 ?_;refine G2 ?_;refine qaT ?_;refine qab ?_;refine qab ?_;refine qab ?_;refine qaT ?_;refine qab ?_;refine G2 ?_;refine qaW ?_;refine Ct ?_;refine qas ?_;exact zb rfl rfl (za rfl ((ziE hy hc hd (.inl g19)).symm))
 refine G1 (oFp zbA) ?_;refine G1 (oLb za4 za5) ?_;refine G1 (zW rfl rfl zcq) ?_;refine G1 zc1 ?_;refine qaT ?_;refine zaG (d:=25) (p:=32<y.l.length) rfl yA (fun g25=>?_) (fun g25=>?_)
 ·
  refine qab ?_;refine qaK ?_;refine G2 ?_;refine G2 ?_;refine qaT ?_;refine qab ?_;refine qab ?_;refine qab ?_;refine qaT ?_;refine qab ?_;refine G2 ?_;refine qaW ?_;refine Ct ?_;refine qas ?_;exact zb rfl rfl (za rfl ((ziE hy hc hd (.inr (.inl g25))).symm))
 obtain⟨e,he⟩:∃e,y.l[0]?=some e:=yv;have hel:y.l.getD 0 zId=e:=by simp[he]
 refine G1 (oFp zbA) ?_;refine G1 (oLb za4 za5) ?_;refine qbX ?_;refine qc9 ?_;refine qbX ?_;refine G1 (zee rfl rfl rfl (zfl)) ?_;refine qaT ?_;refine zaG (d:=38) (p:=¬e=c) rfl yy (fun g38=>?_) (fun g38=>?_)
 ·
  refine qab ?_;refine qab ?_;refine qab ?_;refine qaT ?_;refine qab ?_;refine G2 ?_;refine qaW ?_;refine Ct ?_;refine qas ?_;exact zb rfl rfl (za rfl ((ziE hy hc hd (.inr (.inr (.inl (by rw[hel];exact g38))))).symm))
 refine G1 (oFp zbA) ?_;refine G1 (oLb za4 za5) ?_;refine G1 (oFp zbk) ?_;refine G1 (oFp zg1) ?_;refine G1 (oLb (zaU.comp zdh) zaj) ?_;refine qc9 ?_;refine G1 mR ?_;refine G1 (zef rfl rfl) ?_;refine G1 (oFr zeD zbE) ?_;refine G1 (zg rfl rfl ty_3) ?_;refine G1 zbb ?_;refine G1 (zK (i:=x.at_.toNat-1) rfl rfl rfl yc zb8 yh) ?_;refine G1 (zg rfl rfl zaj) ?_;refine G1 (oCl (leads_ok y.l y.h.prev d) rfl fn_119 ⟨yo,yo,yd,trivial⟩) ?_;refine G1 oN ?_;refine qaT ?_;refine zaG (d:=58) (p:=zgN y.l y.h.prev d=false) rfl (by show(!(zgN y.l y.h.prev d))=_;cases zgN y.l y.h.prev d<;>rfl) (fun g58=>?_) (fun g58=>?_)
 ·
  refine qab ?_;refine G2 ?_;refine qaW ?_;refine Ct ?_;refine qas ?_;exact zb rfl rfl (za rfl ((ziE hy hc hd (.inr (.inr (.inr (.inl g58))))).symm))
 refine G1 (oFp zbA) ?_;refine G1 (oLb za4 za5) ?_;refine G1 (oCl (zd5 y.l yc) rfl zoJ yf) ?_;refine G1 (oFp zbk) ?_;refine G1 (oFp zg0) ?_;refine G1 (oLb (zaU.comp zcA) zaj) ?_;refine G1 (zee rfl rfl rfl (zfl)) ?_;refine qaW ?_;refine zn (p:=¬zal y.l=y.h.links) rfl yy (fun ht66=>?_) (fun ht66=>?_)
 ·
  refine qas ?_;exact zb rfl rfl (za rfl ((ziE hy hc hd (.inr (.inr (.inr (.inr ht66))))).symm))
 refine CSQR ?_;refine qad ?_;exact zb rfl rfl (za rfl ((zwI hy hc hd (fun h=>h.elim g19 (fun h=>h.elim g25 (fun h=>h.elim (by rw[hel];exact g38) (fun h=>h.elim g58 ht66))))).symm))
theorem cwork_ok (x:CTrial) (h:TrOk x):Tells P 55 [.rptr zgw x] (.val i64T (znz x)):=by
 obtain⟨h1,h2,h3,h4,h5,h6⟩:=h;obtain⟨y,hy⟩:∃y,x.p.p[x.at_.toNat]?=some y:=yv;refine zc Tryz.func55 rfl rfl rfl (fun ext w hext=>?_);refine CQR ?_;refine qa7 ?_;refine qaV ?_;refine qbN ?_;refine G0 (oFr zhW ze3) ?_;refine G0 (oFr zat zau) ?_;refine G0 (zg rfl rfl zcm) ?_;refine qbN ?_;refine G0 (oFr zeD zbE) ?_;refine G0 (zg rfl rfl ty_3) ?_;refine G0 (zK (i:=x.at_.toNat) rfl rfl rfl yc zfE yh) ?_;refine G0 (oFr zbk zaU) ?_;refine G0 (zg rfl rfl zaM) ?_;refine G0 (oCl (zl2 y.h) rfl fn_120 ybN) ?_;refine G0 oN ?_;refine GK.nil ?_;refine zn (p:=¬zbx y.h=true) rfl (by cases zbx y.h<;>rfl) (fun ht16=>?_) (fun ht16=>?_)
 ·
  refine qas ?_;exact zb rfl rfl (za rfl (by unfold znz zsJ;rw[zjJ hy,ut ht16]))
 refine CSQR ?_;refine qad ?_;exact zb rfl rfl (za rfl (by unfold znz zsJ;rw[zjJ hy,ur ht16]))
theorem zgu (p:Proof):Tells P 17 [.val zac p] (.val i64T (zaa p)):=by
 refine zc Tryz.func17 rfl rfl rfl (fun ext w hext=>?_);refine qae ?_;refine qbS ?_;refine A0 (oFp zd6) ?_;refine A0 (oLb zdg ty_3) ?_;refine A0 zb2 ?_;refine qax ?_;refine Sp (d:=12) (p:=p.m<1) (fun g12=>?_) (fun g12=>?_)
 ·
  refine qac ?_;refine qbd ?_;refine qbd ?_;refine qaw ?_;refine Ct ?_;refine qas ?_;exact zb rfl rfl (za rfl (ybk))
 refine A1 (oFp zd6) ?_;refine A1 (oLb zdg ty_3) ?_;refine A1 zc1 ?_;refine qal ?_;refine Sp (d:=17) (p:=20<p.m) (fun g17=>?_) (fun g17=>?_)
 ·
  refine qac ?_;refine qbd ?_;refine qaw ?_;refine Ct ?_;refine qas ?_;exact zb rfl rfl (za rfl (ybk))
 refine A1 (oFp zdG) ?_;refine A1 (oLb zcJ ty_3) ?_;refine A1 zb2 ?_;refine qal ?_;refine Sp (d:=22) (p:=p.k<1) (fun g22=>?_) (fun g22=>?_)
 ·
  refine qac ?_;refine qaw ?_;refine Ct ?_;refine qas ?_;exact zb rfl rfl (za rfl (ybk))
 refine A1 (oFp zdG) ?_;refine A1 (oLb zcJ ty_3) ?_;refine A1 zc1 ?_;refine qaw ?_;refine Cf (p:=20<p.k) (fun ht26=>?_) (fun ht26=>?_)
 ·
  refine qas ?_;exact zb rfl rfl (za rfl (ybk))
 refine CSQQR ?_;refine A0 (oFp zat) ?_;refine A0 (oLb zau zcm) ?_;refine xL ?_;refine A0 zc1 ?_;refine qax ?_;refine Sp (d:=31) (p:=100<p.p.length) (fun g31=>?_) (fun g31=>?_)
 ·
  refine qac ?_;refine qac ?_;refine qaw ?_;refine Ct ?_;refine qas ?_;exact zb rfl rfl (za rfl ((by unfold zaa;rw[ur yc,ut yc])))
 refine A1 (oFp zat) ?_;refine A1 (oLb zau zcm) ?_;refine A1 (zW rfl rfl zcx) ?_;refine A1 (oFp zdG) ?_;refine A1 (oLb zcJ ty_3) ?_;refine A1 zih ?_;refine qaw ?_;refine Cf (p:=(p.p.length:Int)≤p.k) (fun ht38=>?_) (fun ht38=>?_)
 ·
  refine qas ?_;exact zb rfl rfl (za rfl ((by unfold zaa;rw[ur yc,ut yc])))
 obtain⟨a,ha⟩:∃a,p.p[0]?=some a:=yv;have hag:p.p.getD 0 zkn=a:=by simp[ha]
 refine CSQR ?_;refine A0 (oFp zat) ?_;refine A0 (oLb zau zcm) ?_;refine A0 (zK (i:=0) rfl rfl rfl yc zfE yh) ?_;refine A0 (oFr zbk zaU) ?_;refine A0 (oFr zdF za9) ?_;refine A0 (zg rfl rfl zcj) ?_;refine A0 (oCl (zj9 a.h.bits) rfl fn_52 ybN) ?_;refine qa5 ?_;refine qa7 ?_;refine qaV ?_;refine G0 mV ?_;refine G0 oN ?_;refine G0 mV ?_;refine zaG (d:=51) (p:=zbQ a.h.bits=false) rfl (by cases zbQ a.h.bits<;>rfl) (fun g51=>?_) (fun g51=>?_)
 ·
  refine qab ?_;refine G2 ?_;refine qaT ?_;refine qab ?_;refine qaK ?_;refine qaW ?_;refine Ct ?_;refine qas ?_;exact zb rfl rfl (za rfl ((by unfold zaa;rw[ur yc,ur yc,hag,ut (.inl g51)])))
 refine G1 (oFp zat) ?_;refine G1 (oLb zau zcm) ?_;refine G1 (zK (i:=0) rfl rfl rfl yc zfE yh) ?_;refine G1 (oFr zbA za4) ?_;refine G1 (zg rfl rfl za5) ?_;refine G1 yY ?_;refine G1 zc1 ?_;refine qaT ?_;refine zaG (d:=60) (p:=0<a.l.length) rfl yA (fun g60=>?_) (fun g60=>?_)
 ·
  refine qab ?_;refine qaK ?_;refine qaW ?_;refine Ct ?_;refine qas ?_;exact zb rfl rfl (za rfl ((by unfold zaa;rw[ur yc,ur yc,hag,ut (.inr (.inl g60))])))
 refine G1 (oFp zat) ?_;refine G1 (oLb zau zcm) ?_;refine G1 (zK (i:=0) rfl rfl rfl yc zfE yh) ?_;refine G1 (oFr zbk zaU) ?_;refine G1 (zg rfl rfl zaM) ?_;refine G1 (oFp zeB) ?_;refine G1 (oFp zbe) ?_;refine G1 (oLb (zeK.comp zaw) zaM) ?_;refine G1 (zee rfl rfl rfl (zjQ)) ?_;refine qaW ?_;refine zn (p:=¬a.h=(zaq a.h.bits).b.h) rfl yy (fun ht70=>?_) (fun ht70=>?_)
 ·
  refine qas ?_;exact zb rfl rfl (za rfl ((by unfold zaa;rw[ur yc,ur yc,hag,ut (.inr (.inr ht70))])))
 have hcp:zaa p=zgV p (idsP p) (p.p.length-1) 1:=by unfold zaa;rw[ur yc,ur yc,hag,ur (fun h=>h.elim g51 (fun h=>h.elim g60 ht70))]
 have hids:=zu (zow p yc);obtain⟨ids,hid⟩:∃ids,ids=idsP p:=⟨_,rfl⟩;rw[←hid] at hids hcp;have hidl:ids.length=p.p.length:=by rw[hid];unfold idsP;simp
 refine qcl ?_;refine zx [some 1,some 1,some 1,some 1,none,some 1] mixed ye ?_;refine X0 (oLs rfl rfl rfl zaR) ?_;refine X0 (oLs rfl rfl rfl zaR) ?_;refine X0 (oCl (hids) rfl zvp yf) ?_;refine X0 (zC rfl ze_117 bd_117 (.cons zhW ze3 zaR rfl (.cons zxk zmQ za5 rfl .nil)) rfl) ?_;refine XK.e (fun fr' hfr kk H=>by exact zi5 rfl rfl rfl rfl ((hfr 74 ye).trans rfl) (zr H)) ?_;refine X0 aP ?_;refine xf ?_;refine CQQR ?_;refine qaN ?_;refine A0 (oFp zeD) ?_;refine zf rfl rfl rfl rfl rfl zbE ty_3 rfl ?_;refine CNB ?_;refine zP (n:=2) (y:=(⟨p,ids,((1:Nat):Int)⟩:CTrial)) rfl rfl ?_;refine Lp (ι:=Nat) 3 (fun i=>(Fr.none.set 1 (.ptr 0 0)).set 5 (.ptr 2 0)) (fun i=>(Hp.none.set 0 (.box 27 zac p)).set 2 (.box 117 zgw ⟨p,ids,(i:Int)⟩)) (fun i=>1≤i∧i≤p.p.length∧zaa p=zgV p ids (p.p.length-i) i) (fun i=>p.p.length-i) (1) (⟨ug _,by omega,hcp⟩) ?_;intro i hinv;refine CQ ?_;refine qaV ?_;refine qbF ?_;refine G0 (oFp zeD) ?_;refine G0 (oLb zbE ty_3) ?_;refine G0 (oFp zat) ?_;refine G0 (oLb zau zcm) ?_;refine G0 (zW rfl rfl zcx) ?_;refine G0 zb2 ?_;refine GK.nil ?_;refine Cf (p:=i<p.p.length) (fun ht86=>?_) (fun ht86=>?_)
 ·
  have htr:TrOk ⟨p,ids,(i:Int)⟩:=⟨by show(1:Int)≤i;omega,by show(i:Int)<p.p.length;omega,hidl,by show p.p.length≤100;omega,by show 1≤p.k;omega,by show p.k≤20;omega⟩;refine CSQBQR ?_;refine A0 (zrY (xs:=[_,_,_]) rfl zxK ze_120 ⟨rfl,⟨_,rfl,rfl⟩,rfl,⟨_,rfl,rfl⟩,rfl,⟨_,rfl,rfl⟩,trivial⟩ rfl) ?_;refine zj (d:=94) (y:=three) rfl rfl ?_;refine qa2 ?_;refine Lp (ι:=Nat) 3 (fun (j:Nat)=>((((Fr.none).set 1 (.ptr 0 0)).set 5 (.ptr 2 0)).set 94 (.val (arrT 3 yp fnoT) three)).set 95 (.val i64T (j:Int))) (fun (j:Nat)=>((Hp.none).set 0 (.box 27 zac p)).set 2 (.box 117 zgw ⟨p,ids,(i:Int)⟩)) (fun (j:Nat)=>j≤3∧zeA three ⟨p,ids,i⟩=zeA (three.drop j) ⟨p,ids,i⟩) (fun (j:Nat)=>3-j) (0) (⟨by omega,rfl⟩) ?_;intro j hj;refine qak ?_;refine Cf (p:=j<3) (fun ht96=>?_) (fun ht96=>?_)
  ·
   obtain⟨e,he⟩:∃e,three[j]?=some e:=⟨_,ub (show j<three.length from ht96)⟩;have hask:e=some 53∨e=some 54∨e=some 55:=by have h:=ud he;unfold three at h;simpa using h
   rcases hask with hk|hk|hk
   ·
    refine CSQBQR ?_;refine A0 (ziO rfl rfl rfl rfl zxK ty_118 yh) ?_;refine zj (d:=97) rfl hk ?_;refine zd0 (d:=97) (f:=53) rfl ?_;refine A0 aC ?_;refine CNQR ?_;refine A0 mC ?_;refine A0 mP ?_;refine A0 (zfw (As:=[_]) (Cs:=[]) (cprev_ok ⟨p,ids,i⟩ htr) rfl rfl fn_53 ybQ yD trivial rfl) ?_;refine qap ?_;refine zn (p:=¬askC e ⟨p,ids,i⟩=0) rfl (by simp[askC,hk,IntL.toI]) (fun ht102=>?_) (fun ht102=>?_)
    ·
     refine qbC ?_;exact zb rfl rfl (za rfl yap)
    refine qaZ ?_;exact Nx (j+1) (⟨by omega,hj.2.trans (zka he (ua ht102))⟩) yc
   ·
    refine CSQBQR ?_;refine A0 (ziO rfl rfl rfl rfl zxK ty_118 yh) ?_;refine zj (d:=97) rfl hk ?_;refine zd0 (d:=97) (f:=54) rfl ?_;refine A0 aC ?_;refine CNQR ?_;refine A0 mC ?_;refine A0 mP ?_;refine A0 (zfw (As:=[_]) (Cs:=[]) (clink_ok ⟨p,ids,i⟩ htr) rfl rfl fn_54 ybQ yD trivial rfl) ?_;refine qap ?_;refine zn (p:=¬askC e ⟨p,ids,i⟩=0) rfl (by simp[askC,hk,IntL.toI]) (fun ht102=>?_) (fun ht102=>?_)
    ·
     refine qbC ?_;exact zb rfl rfl (za rfl yap)
    refine qaZ ?_;exact Nx (j+1) (⟨by omega,hj.2.trans (zka he (ua ht102))⟩) yc
   refine CSQBQR ?_;refine A0 (ziO rfl rfl rfl rfl zxK ty_118 yh) ?_;refine zj (d:=97) rfl hk ?_;refine zd0 (d:=97) (f:=55) rfl ?_;refine A0 aC ?_;refine CNQR ?_;refine A0 mC ?_;refine A0 mP ?_;refine A0 (zfw (As:=[_]) (Cs:=[]) (cwork_ok ⟨p,ids,i⟩ htr) rfl rfl fn_55 ybQ yD trivial rfl) ?_;refine qap ?_;refine zn (p:=¬askC e ⟨p,ids,i⟩=0) rfl (by simp[askC,hk,IntL.toI]) (fun ht102=>?_) (fun ht102=>?_)
   ·
    refine qbC ?_;exact zb rfl rfl (za rfl yap)
   refine qaZ ?_;exact Nx (j+1) (⟨by omega,hj.2.trans (zka he (ua ht102))⟩) yc
  refine CE ?_;refine CI ?_;refine CR ?_;refine qaN ?_;refine A0 (oFp zeD) ?_;refine A0 (oLb zbE ty_3) ?_;refine A0 zdp ?_;refine xc ?_;refine A0 (oFp zeD) ?_;refine zf rfl rfl rfl rfl rfl zbE ty_3 rfl ?_;refine CN ?_;refine zP (n:=2) (y:=(⟨p,ids,((i+1:Nat):Int)⟩:CTrial)) rfl rfl ?_;exact Nx (i+1) (⟨by omega,by omega,by rw[hinv.2.2];exact trials_go ht86 (hj.2.trans (by rw[List.drop_of_length_le (show three.length≤j by show 3≤j;omega)];rfl))⟩) yc
 refine qcn ?_;exact zb rfl rfl (za rfl (by rw[hinv.2.2,show p.p.length-i=0 by omega];rfl))
theorem fewC_no {l:List Block} {k:Nat} {x:Block} (hx:l[k]?=some x) (h:¬fewB x=true):fewC l=false:=by
  unfold fewC;rw[Bool.and_eq_false_iff]
  left
  rw[List.all_eq_false];exact⟨x,ud hx,h⟩
theorem fewB_all {x:Block} (h:¬(x.t.all few&&decide ((x.t.length:Int)≤6))=true):¬fewB x=true:=fun h2=>by unfold fewB at h2;rw[uk] at h2;exact h h2.1
theorem fewB_links {x:Block} (h:40<x.l.length):¬fewB x=true:=fun h2=>by unfold fewB at h2;rw[uk,uj] at h2;omega
theorem fewB_yes {x:Block} (h:(x.t.all few&&decide ((x.t.length:Int)≤6))=true) (h2:¬40<x.l.length):fewB x=true:=by unfold fewB;rw[h,Bool.true_and];exact ui yc
theorem zsv {α:Type} {p:α→Bool} {l:List α} {k:Nat} {x:α} (h:(l.take k).all p=true) (hx:l[k]?=some x) (hp:p x=true):(l.take (k+1)).all p=true:=by
  rw[un,hx,List.all_append,h];simp[hp]
theorem fewC_end {l:List Block} {k:Nat} (h:(l.take k).all fewB=true) (hk:l.length≤k):fewC l=decide ((l.length:Int)≤50):=by
  rw[uc hk] at h;unfold fewC;rw[h,Bool.true_and]
theorem easy_newOf:newOf 545259519=[zdb]:=by unfold newOf;rw[ut zr7,zr6];rfl
theorem fewC_ok (l:List Block):Tells P 20 [.val (bsl zL) l] (.val zm (fewC l)):=by
 refine zc Tryz.func20 rfl rfl rfl (fun ext w hext=>?_);refine ze (d:=0) rfl zk (fun hsl0=>?_);refine CQR ?_;refine qbS ?_;refine qc7 ?_;refine Lp (ι:=Nat) 0 (fun (k:Nat)=>((Fr.none).set 0 (.val (bsl zL) l)).set 3 (.val i64T (k:Int))) (fun (k:Nat)=>Hp.none) (fun (k:Nat)=>k≤l.length∧(l.take k).all fewB=true) (fun (k:Nat)=>l.length-k) (0) (⟨uf _,by simp⟩) ?_;intro k hinv;refine CQQR ?_;refine qao ?_;refine xC ?_;refine qaY ?_;refine Cf (p:=k<l.length) (fun ht8=>?_) (fun ht8=>?_)
 ·
  obtain⟨x,hx⟩:∃x,l[k]?=some x:=⟨_,ub ht8⟩;refine CSQBQR ?_;refine qao ?_;refine A0 (zK (i:=k) rfl rfl rfl yc zdz yh) ?_;refine A0 (oFr zdE zcf) ?_;refine A0 (zg rfl rfl zjF) ?_;refine A0 (oCl (fewAll_ok _ _) rfl fn_66 ybP) ?_;refine qag ?_;refine A0 oN ?_;refine qax ?_;refine zaP (d:=19) (p:=¬(x.t.all few&&decide ((x.t.length:Int)≤6))=true) rfl (by cases (x.t.all few&&decide ((x.t.length:Int)≤6))<;>rfl) (fun g19=>?_) (fun g19=>?_)
  ·
   refine qac ?_;refine qb7 ?_;refine qaw ?_;refine Ct ?_;refine qas ?_;exact zb rfl rfl (za rfl (fewC_no hx (fewB_all g19)).symm)
  refine qca ?_;refine A1 (zK (i:=k) rfl rfl rfl yc zdz yh) ?_;refine A1 (oFr zcQ zbN) ?_;refine A1 (zg rfl rfl za5) ?_;refine A1 yY ?_;refine A1 zc1 ?_;refine qaw ?_;refine Cf (p:=40<x.l.length) (fun ht27=>?_) (fun ht27=>?_)
  ·
   refine qas ?_;exact zb rfl rfl (za rfl (fewC_no hx (fewB_links ht27)).symm)
  refine CSIR ?_;refine qbb ?_;refine qad ?_;exact Nx (k+1) (⟨by omega,zsv hinv.2 hx (fewB_yes (ua g19) ht27)⟩) yc
 refine CE ?_;refine qa4 ?_;refine xC ?_;refine A0 zih ?_;refine qad ?_;exact zb rfl rfl (za rfl (by rw[fewC_end hinv.2 yc,uo];rfl))
def zd7:Proof:=⟨1,1,[⟨ziW,[]⟩,⟨zbF.h,[id0]⟩]⟩
theorem zqP (y:Int):∀i:Nat,i≤32→zaI [31,y] 1 1 i=(0,if i=0 then [] else [0])
  | 0,_=>rfl
  | i+1,h=>by
    have ih:=zqP y i yc;have hu:upOf [31,y] 0 ((([31,y]:List Int).length:Int)-1) (31-(i:Int))=[0]:=by
      show upR [31,y] (31-(i:Int)) 0 (0+1)=[0];rw[upR_yes (v:=[31,y]) (n:=31-(i:Int)) (x:=31) (a:=0) (i:=0) rfl (ug _) yc,zv8];rfl
    have e1:(zaI [31,y] 1 1 i).1=0:=by rw[ih]
    have e2:(zaI [31,y] 1 1 i).2=if i=0 then [] else [0]:=by rw[ih]
    show(if _ then _ else _,_)=_;have h0:(if i+1=0 then ([]:List Int) else [0])=[0]:=ur yc;rw[e1,e2,hu,h0,ur yp];by_cases c:i=0<;>simp[c,zdu]
theorem easy_lvs:zo [zdb,zbF]=[31,zQ zbF.h]:=by
  show [zQ ziW,zQ zbF.h]=_;rw[easy_level]
theorem easy_le1:decide (zQ zbF.h≤31)=true:=yr
theorem easy_mayP:mayP [31,zQ zbF.h] 1 1=true:=by
  have h1:=of_decide_eq_true zvw;have h2:=of_decide_eq_true easy_le1;unfold mayP mayV;generalize zQ zbF.h=y at h1 h2;simp;omega
theorem zvu:zam (zo [zdb,zbF]) 1 1=([0],true):=by
  unfold zam;rw[easy_lvs,ut easy_mayP,zqP _ 32 (ug _),ur yp];simp[zaY]
theorem zxq:prE [zdb,zbF] 1 1=0:=by
  unfold prE;rw[zvx,ur yp,ur yp]
theorem easy_pr:prOf [zdb,zbF] 1 1=zd7:=by
  unfold prOf;rw[ut zxq];unfold zE;rw[zvu];rfl
theorem zvv:zal [id0]=zbF.h.links:=(zwl _).trans easy_lk
theorem zqK:zaa zd7=0:=by
  have ei:idsP zd7=[id0,zw zbF.h]:=by show [zw ziW,zw zbF.h]=_;rw[zr8]
  unfold zaa;rw[ur yp,ur yp,ur (by
    rintro (h|h|h)
    · exact absurd (show zbQ 545259519=true from zr7) (by rw[show zbQ 545259519=false from h];decide)
    · exact absurd h yp
    exact h (show ziW=(zaq 545259519).b.h by rw[zr6];rfl)),ei]
  show(if _ then _ else _)=_;have hf:zeA three ⟨zd7,[id0,zw zbF.h],((1:Nat):Int)⟩=0:=by
    rw[zmJ];have e1:zlR ⟨zd7,[id0,zw zbF.h],((1:Nat):Int)⟩=0:=zrw (y:=⟨zbF.h,[id0]⟩) (z:=⟨ziW,[]⟩) (d:=id0) rfl rfl rfl (by
      rintro (h|h|⟨_,h|h⟩)
      · exact absurd h yp
      · exact h rfl
      · exact h rfl
      exact h rfl)
    have e2:zlY ⟨zd7,[id0,zw zbF.h],((1:Nat):Int)⟩=0:=zwI (y:=⟨zbF.h,[id0]⟩) (c:=id0) (d:=id0) rfl rfl rfl (by
      rintro (h|h|h|h|h)
      · exact absurd h yp
      · exact absurd h yp
      · exact h rfl
      · rw[show zgN [id0] zbF.h.prev id0=true by unfold zgN;rw[ui (show zbF.h.prev=id0 from rfl)];rfl] at h;cases h
      exact h zvv)
    have e3:znz ⟨zd7,[id0,zw zbF.h],((1:Nat):Int)⟩=0:=by
      unfold znz zsJ;rw[zjJ (y:=⟨zbF.h,[id0]⟩) rfl,ur (fun h=>h zoY)]
    rw[ur (fun h=>h e1),ur (fun h=>h e2),e3]
  rw[ut hf];rfl
def yAt (p:Proof) (i:Nat):Part:=p.p.getD i zkn
def stepOk (p:Proof) (i:Nat):Prop :=
  ztk (yAt p i) (yAt p (i-1)) ((p.p.length:Int)-p.k≤(i:Int)) (zw (yAt p (i-1)).h)=0∧ztu (yAt p i) (zw (yAt p 0).h) (zw (yAt p (i-1)).h)=0∧zsJ (yAt p i)=0
def beginOk (a:Part):Prop:=zbQ a.h.bits=true∧a.l.length=0∧a.h=(zaq a.h.bits).b.h
structure HoldsP (p:Proof):Prop where
  m1:1≤p.m
  m2:p.m≤20
  k1:1≤p.k
  k2:p.k≤20
  l1:p.k<p.p.length
  l2:p.p.length≤100
  fst:beginOk (yAt p 0)
  steps:∀i,1≤i→i<p.p.length→stepOk p i
theorem zlQ {y z:Part} {last:Prop} [Decidable last] {d:Ab.Id}:ztk y z last d=0↔z.h.height<y.h.height∧y.h.bits=z.h.bits∧(last→y.h.height=IntKind.i64.wrap (z.h.height+1)∧y.h.prev=d):=by
  unfold ztk
  constructor
  · intro h
    have hn:¬(y.h.height≤z.h.height∨¬y.h.bits=z.h.bits∨last∧(¬y.h.height=IntKind.i64.wrap (z.h.height+1)∨¬y.h.prev=d)):=fun c=>by rw[ut c] at h;cases h
    refine⟨Int.not_le.1 fun c=>hn (.inl c),ua fun c=>hn (.inr (.inl c)),fun hl=>⟨ua fun c=>hn (.inr (.inr ⟨hl,.inl c⟩)),ua fun c=>hn (.inr (.inr ⟨hl,.inr c⟩))⟩⟩
  rintro ⟨h1,h2,h3⟩
  rw[ur]
  rintro (c|c|⟨hl,c|c⟩)
  · omega
  · exact c h2
  · exact c (h3 hl).1
  exact c (h3 hl).2
theorem zfX {y:Part} {c d:Ab.Id}:ztu y c d=0↔1≤y.l.length∧y.l.length≤32∧y.l.getD 0 zId=c∧zgN y.l y.h.prev d=true∧zal y.l=y.h.links:=by
  unfold ztu
  constructor
  · intro h
    have hn:¬(y.l.length=0∨32<y.l.length∨¬y.l.getD 0 zId=c∨zgN y.l y.h.prev d=false∨¬zal y.l=y.h.links):=fun c=>by rw[ut c] at h;cases h
    refine⟨Nat.one_le_iff_ne_zero.2 fun e=>hn (.inl e),Nat.not_lt.1 fun e=>hn (.inr (.inl e)),ua fun e=>hn (.inr (.inr (.inl e))),?_,ua fun e=>hn (.inr (.inr (.inr (.inr e))))⟩;cases e:zgN y.l y.h.prev d
    · exact absurd (.inr (.inr (.inr (.inl e)))) hn
    rfl
  rintro ⟨h1,h2,h3,h4,h5⟩
  rw[ur]
  rintro (e|e|e|e|e)
  · omega
  · omega
  · exact e h3
  · rw[h4] at e;cases e
  exact e h5
theorem zpX {y:Part}:zsJ y=0↔zbx y.h=true:=by
  unfold zsJ;by_cases h:zbx y.h=true
  · rw[ur (show ¬¬zbx y.h=true from fun c=>c h)];simp[h]
  rw[ut (show ¬zbx y.h=true from h)];simp[h]
theorem zjW {p:Proof} {ids:List Ab.Id}:∀(n i:Nat),zgV p ids n i=0↔∀j,i≤j→j<i+n→zeA three ⟨p,ids,j⟩=0
  | 0,i=>by simp[zgV];intro j h1 h2;omega
  | n+1,i=>by
    show(if zeA three ⟨p,ids,i⟩=0 then zgV p ids n (i+1) else zeA three ⟨p,ids,i⟩)=0↔_;by_cases c:zeA three ⟨p,ids,i⟩=0
    · rw[ut c,zjW n (i+1)]
      constructor
      · intro h j h1 h2
        by_cases e:j=i
        · rw[e];exact c
        exact h j yc yc
      intro h j h1 h2;exact h j yc yc
    rw[ur c];exact⟨fun h=>absurd h c,fun h=>h i (ug _) yc⟩
theorem zmF (p:Proof) {i:Nat} (h:i<p.p.length):(idsP p)[i]?=some (zw (yAt p i).h):=by
  unfold idsP yAt;rw[List.getElem?_map,ub h];simp[h]
theorem at_ (p:Proof) {i:Nat} (h:i<p.p.length):p.p[i]?=some (yAt p i):=by unfold yAt;rw[ub h];simp[h]
theorem zqD (p:Proof) {i:Nat} (h1:1≤i) (h:i<p.p.length):zeA three ⟨p,idsP p,(i:Int)⟩=0↔stepOk p i:=by
  rw[zmJ];have e1:zlR ⟨p,idsP p,(i:Int)⟩=ztk (yAt p i) (yAt p (i-1)) ((p.p.length:Int)-p.k≤(i:Int)) (zw (yAt p (i-1)).h):=by
    unfold zlR;rw[zjJ (y:=yAt p i) (at_ p h),zOf_at (y:=yAt p (i-1)) (at_ p (i:=i-1) yc),zqL (zmF p (i:=i-1) yc)]
  have e2:zlY ⟨p,idsP p,(i:Int)⟩=ztu (yAt p i) (zw (yAt p 0).h) (zw (yAt p (i-1)).h):=by
    unfold zlY;rw[zjJ (y:=yAt p i) (at_ p h),cOf_at (zmF p (i:=0) yc),zqL (zmF p (i:=i-1) yc)]
  have e3:znz ⟨p,idsP p,(i:Int)⟩=zsJ (yAt p i):=by
    unfold znz;rw[zjJ (y:=yAt p i) (at_ p h)]
  rw[e1,e2,e3];unfold stepOk;generalize ztk (yAt p i) (yAt p (i-1)) ((p.p.length:Int)-p.k≤(i:Int)) (zw (yAt p (i-1)).h)=a;generalize ztu (yAt p i) (zw (yAt p 0).h) (zw (yAt p (i-1)).h)=b;by_cases ha:a=0
  · by_cases hb:b=0
    · simp[ha,hb]
    simp[ha,hb]
  simp[ha]
theorem zcy {p:Proof}:zaa p=0↔HoldsP p:=by
  have ey:p.p.getD 0 zkn=yAt p 0:=rfl;unfold zaa;rw[ey]
  constructor
  · intro h
    by_cases c1:p.m<1∨20<p.m∨p.k<1∨20<p.k
    · rw[ut c1] at h;cases h
    rw[ur c1] at h;by_cases c2:100<p.p.length∨(p.p.length:Int)≤p.k
    · rw[ut c2] at h;cases h
    rw[ur c2] at h;by_cases c3:zbQ (yAt p 0).h.bits=false∨0<(yAt p 0).l.length∨¬(yAt p 0).h=(zaq (yAt p 0).h.bits).b.h
    · rw[ut c3] at h;cases h
    rw[ur c3,zjW] at h;refine⟨by omega,by omega,by omega,by omega,by omega,by omega,⟨?_,by omega,ua fun e=>c3 (.inr (.inr e))⟩,fun i h1 h2=>(zqD p h1 h2).1 (h i h1 yc)⟩;cases e:zbQ (yAt p 0).h.bits
    · exact absurd (.inl e) c3
    rfl
  intro h
  have:=h.m1;have:=h.m2;have:=h.k1;have:=h.k2;have:=h.l1;have:=h.l2
  rw[ur yc,ur yc,ur (by
    rintro (e|e|e)
    · rw[h.fst.1] at e;cases e
    · have:=h.fst.2.1;omega
    exact e h.fst.2.2),zjW]
  exact fun i h1 h2=>(zqD p h1 yc).2 (h.steps i h1 yc)
theorem HoldsP.step {p:Proof} (h:HoldsP p) {i:Nat} (h1:1≤i) (h2:i<p.p.length) :
    (yAt p (i-1)).h.height<(yAt p i).h.height∧(yAt p i).h.bits=(yAt p (i-1)).h.bits∧((p.p.length:Int)-p.k≤(i:Int)→(yAt p i).h.height=IntKind.i64.wrap ((yAt p (i-1)).h.height+1)∧(yAt p i).h.prev=zw (yAt p (i-1)).h):=zlQ.1 (h.steps i h1 h2).1
theorem ztW (bits:UInt32):(zaq bits).b.h.height=0:=by
  unfold zaq
  split<;>rfl
theorem HoldsP.zero {p:Proof} (h:HoldsP p):(yAt p 0).h.height=0:=by rw[h.fst.2.2];exact ztW _
theorem HoldsP.rise {p:Proof} (h:HoldsP p):∀i,i<p.p.length→0≤(yAt p i).h.height
  | 0,_=>by rw[h.zero];exact Int.le_refl _
  | i+1,hi=>by
    have:=h.rise i yc
    have:=(h.step (i:=i+1) yc hi).1
    rw[Nat.add_sub_cancel] at this;omega
theorem HoldsP.bits {p:Proof} (h:HoldsP p):∀i,i<p.p.length→(yAt p i).h.bits=(yAt p 0).h.bits
  | 0,_=>rfl
  | i+1,hi=>by
    have:=(h.step (i:=i+1) yc hi).2.1
    rw[Nat.add_sub_cancel] at this;rw[this];exact h.bits i yc
theorem zs2 (p:Proof):zdL zac p [.val i64T p.m,.val i64T p.k,.val (sl zbl) p.p]:=zkt (zaB zaz (zaB zaz zaz))
theorem two_ok:Tells P 46 [] (.val (sl zL) [zdb,zbF]):=by
 refine zc Tryz.func46 rfl rfl rfl (fun ext w hext=>?_);refine qbD ?_;refine A0 (oCl (newC_ok 545259519) rfl fn_104 yf) ?_;refine qaB ?_;refine zj (d:=7) (y:=[zdb]) rfl easy_newOf ?_;refine qaU ?_;refine A0 aV ?_;refine qag ?_;refine A0 (oCl (zcn (growC_ok [zdb] [] 0 zs4 ⟨by decide,fun t ht=>by cases ht⟩)) rfl fn_105 ⟨yo,yd,yo,trivial⟩) ?_;refine qaB ?_;refine zj (d:=12) (y:=[zdb,zbF]) rfl easy_grown ?_;refine qaU ?_;refine A0 aV ?_;refine qag ?_;refine qad ?_;exact zb rfl rfl (za rfl (rfl))
theorem mayH_ok {h:Head} (hm:zbx h=true):hOk h=true:=by
  unfold zbx zQ at hm;by_cases c:zbQ h.bits=true∧hOk h=true
  · exact c.2
  rw[ur c] at hm;exact absurd hm yp
theorem zeY {l:List Block} {t:Tip} {k:Nat} {c:Block} (h:Chain l t) (hc:l[k]?=some c):c.h.height=k∧hOk c.h=true∧(k=0→c.l=[])∧(1≤k→c.h.links=zal c.l):=by
  obtain⟨hk,_⟩:=ul.1 hc;by_cases k0:k=0
  · subst k0
    obtain⟨t',h1,_⟩:=zf1 h (i:=1) (ug _) yc;have e:l.take 1=[c]:=by rw[show(1:Nat)=0+1 from rfl,un,hc];rfl
    rw[e] at h1;obtain⟨_,hb,_⟩:=zhm h1;rw[hb];exact⟨rfl,rfl,fun _=>rfl,fun c=>by omega⟩
  obtain⟨g,hg⟩:∃g,l[0]?=some g:=yv;obtain⟨a,ha⟩:∃a,l[k-1]?=some a:=yv;obtain⟨s1,_,_,_,_,_,s7,s8⟩:=zfn h yc hc ha hg;exact⟨s1,mayH_ok s8,fun c=>absurd c k0,fun _=>s7⟩
theorem zxz (n:UInt64) {k:Nat} (hk:k≤64):(zcl (IntL.toI u64T (za6 n k))).toNat=n.toNat/2^k%256:=by
  unfold zcl;show(UInt8.ofNat ((((za6 n k).toNat:Nat):Int)%256).toNat).toNat=_;rw[zgg n hk,UInt8.toNat_ofNat_of_lt' ybp];omega
theorem zkP (n:UInt64) (s:Nat):zB n (s+1)=zcl (IntL.toI u64T (za6 n (8*s)))::zB n s:=by
  unfold zB;rw[List.range_succ_eq_map,List.map_cons,List.map_map];have e1:s+1-1-0=s:=yc;rw[e1];congr 1;apply List.map_congr_left;intro j _;show zcl (IntL.toI u64T (za6 n (8*(s+1-1-(j+1)))))=_;rw[show s+1-1-(j+1)=s-1-j by omega]
theorem ziA {n m:UInt64}:∀s:Nat,s≤8→zB n s=zB m s→n.toNat%2^(8*s)=m.toNat%2^(8*s)
  | 0,_,_=>by simp[Nat.mod_one]
  | s+1,hs,h=>by
    rw[zkP,zkP] at h;injection h with h1 h2;have ih:=ziA s yc h2;have h1:=congrArg UInt8.toNat h1;rw[zxz n yc,zxz m yc] at h1;rw[Nat.mul_add,Nat.pow_add,Nat.mod_mul,Nat.mod_mul (x:=m.toNat),ih,show 2^(8*1)=256 from rfl,h1]
theorem zfe {n m:UInt64} (h:zB n 8=zB m 8):n=m:=by
  have h1:=ziA 8 (ug _) h;have hn:n.toNat<18446744073709551616:=n.toNat_lt;have hm:m.toNat<18446744073709551616:=m.toNat_lt;rw[show(2:Nat)^(8*8)=18446744073709551616 from rfl,Nat.mod_eq_of_lt hn,Nat.mod_eq_of_lt hm] at h1;exact UInt64.toNat_inj.1 h1
theorem zkk (a b c d:UInt64):zgx [a,b,c,d]=zB d 8++(zB c 8++(zB b 8++zB a 8)):=by rfl
theorem zqT {a b:Wide} (ha:a.length=4) (hb:b.length=4) (h:zgx a=zgx b):a=b:=by
  match a,ha with
  | [a0,a1,a2,a3],_=>match b,hb with
    | [b0,b1,b2,b3],_ =>
      rw[zkk,zkk] at h;obtain⟨h3,h⟩:=List.append_inj h (by rw[zJ,zJ]);obtain⟨h2,h⟩:=List.append_inj h (by rw[zJ,zJ]);obtain⟨h1,h0⟩:=List.append_inj h (by rw[zJ,zJ]);rw[zfe h0,zfe h1,zfe h2,zfe h3]
def HW (h:Head):Prop:=h.prev.length=32∧h.links.length=32∧h.txs.length=32∧h.past.length=32∧h.work.length=4
theorem zeS {n:Int} (h0:0≤n) (h1:n<4294967296):(zae n).toNat=n.toNat:=by
  unfold zae;rw[UInt64.toNat_ofNat_of_lt' y7];omega
theorem zw4 {n m:Int} (h0:0≤n) (h1:n<4294967296) (k0:0≤m) (k1:m<4294967296) (h:zB (zae n) 4=zB (zae m) 4):n=m:=by
  have h:=ziA 4 yp h;rw[zeS h0 h1,zeS k0 k1,show(2:Nat)^(8*4)=4294967296 from rfl] at h;omega
theorem zvn {h:Head}:hOk h=true↔0≤h.height∧h.height≤1048576:=by unfold hOk;rw[uj]
theorem zuZ {a b:Head} (ha:HW a) (hb:HW b) (oa:hOk a=true) (ob:hOk b=true) (h:zbU a=zbU b):a=b:=by
  obtain⟨a1,a2,a3,a4,a5⟩:=ha;obtain⟨b1,b2,b3,b4,b5⟩:=hb;have oa:=zvn.1 oa;have ob:=zvn.1 ob;unfold zbU at h;simp only[List.flatten_cons,List.flatten_nil,List.append_nil] at h;obtain⟨e1,h⟩:=List.append_inj h (by rw[zJ,zJ]);obtain⟨e2,h⟩:=List.append_inj h (by rw[a1,b1]);obtain⟨e3,h⟩:=List.append_inj h (by rw[a2,b2]);obtain⟨e4,h⟩:=List.append_inj h (by rw[a3,b3]);obtain⟨e5,h⟩:=List.append_inj h (by rw[a4,b4]);obtain⟨e6,h⟩:=List.append_inj h (by rw[zct,zct]);obtain⟨e7,e8⟩:=List.append_inj h (by rw[zJ,zJ]);have f1:a.height=b.height:=zw4 (n:=a.height) (m:=b.height) oa.1 yc ob.1 yc e1;have f6:=zqT a5 b5 e6;have ab:((a.bits.toNat:Nat):Int)<4294967296:=by have:a.bits.toNat<4294967296:=a.bits.toNat_lt;omega
  have bb:((b.bits.toNat:Nat):Int)<4294967296:=by have:b.bits.toNat<4294967296:=b.bits.toNat_lt;omega
  have f7:a.bits=b.bits:=UInt32.toNat_inj.1 (Int.ofNat.inj (zw4 (n:=((a.bits.toNat:Nat):Int)) (m:=((b.bits.toNat:Nat):Int)) yc ab yc bb e7));have f8:=zfe e8;cases a;cases b;simp only at f1 e2 e3 e4 e5 f6 f7 f8;subst f1 e2 e3 e4 e5 f6 f7 f8;rfl
theorem zot (h:Head):-1≤zQ h∧zQ h≤31:=by
  unfold zQ
  split
  · split
    · exact⟨by omega,by omega⟩
    have:=zkz (f:=ztw (zlX (zw h)) (tgtW h.bits)) 0 32 yp
    unfold levelW;exact⟨by omega,by omega⟩
  exact⟨by omega,by omega⟩
theorem mayH_level {h:Head} (hm:zbx h=true):0≤zQ h:=by
  have:=(zot h).1
  unfold zbx at hm;rw[Bool.not_eq_true',decide_eq_false_iff_not] at hm;omega
theorem lvl_at {l:List Block} {k:Nat} {b:Block} (hb:l[k]?=some b):(zo l)[k]?=some (zQ b.h):=by unfold zo;rw[List.getElem?_map,hb];rfl
theorem zpc {l:List Block} {t:Tip} {k:Nat} {b:Block} (h:Chain l t) (hb:l[k]?=some b):0≤zQ b.h∧(k=0→zQ b.h=31):=by
  obtain⟨hk,_⟩:=ul.1 hb;by_cases k0:k=0
  · subst k0
    obtain⟨t',h1,_⟩:=zf1 h (i:=1) (ug _) yc;have e:l.take 1=[b]:=by rw[show(1:Nat)=0+1 from rfl,un,hb];rfl
    rw[e] at h1;obtain⟨ht,hb,_⟩:=zhm h1;have e2:zQ b.h=31:=by
      rw[hb];unfold zQ;rw[ut ⟨ht,rfl⟩];rfl
    exact⟨by omega,fun _=>e2⟩
  obtain⟨g,hg⟩:∃g,l[0]?=some g:=yv;obtain⟨a,ha⟩:∃a,l[k-1]?=some a:=yv;exact⟨mayH_level (zfn h yc hb ha hg).2.2.2.2.2.2.2,fun c=>absurd c k0⟩
theorem zju {l:List Block} {t:Tip} (h:Chain l t):mayV (zo l)=true:=by
  have hlen:=(zgv h).2.2.1;have hpos:0<l.length:=List.length_pos_iff.2 (zjt (congrArg (·.2) h));obtain⟨g,hg⟩:∃g,l[0]?=some g:=⟨_,ub hpos⟩;have hl:(zo l).length=l.length:=zcb l;unfold mayV;rw[uk,uj,Bool.not_eq_true',List.any_eq_false];refine⟨⟨by omega,by omega,?_⟩,fun n hn=>?_⟩
  · rw[lvl_at hg,(zpc h hg).2 rfl]
  unfold zo at hn;obtain⟨b,hb,rfl⟩:=List.mem_map.1 hn;obtain⟨k,hk⟩:=List.getElem?_of_mem hb;have h1:=(zpc h hk).1;have h2:=(zot b.h).2;rw[uj];omega
theorem zqO {v:List Int} {m k:Int}:∀i:Nat,∀n,n≤i→∀x∈(zaI v m k n).2,x∈(zaI v m k i).2
  | 0,n,hn,x,hx=>by rw[show n=0 by omega] at hx;exact hx
  | i+1,n,hn,x,hx=>by
    by_cases e:n=i+1
    · rw[e] at hx;exact hx
    have:=zqO i n yc x hx
    show x∈List.foldl zdu _ _;rw[zgn];exact .inl this
theorem climb_zero {v:List Int} {m k:Int} (h:mayP v m k=true):(0:Int)∈(zaI v m k 32).2:=by
  refine zqO 32 1 yc 0 ?_;show(0:Int)∈List.foldl zdu _ _;rw[zgn];refine .inr (zqo.2 ⟨0,rfl,Int.le_refl _,?_,?_,?_⟩)
  · have:=zgM h;omega
  · have:=zgM h;omega
  have h0:=(zkS (zhf h).1).2.2.1;simp[h0]
theorem zuQ {l:List Int} (h:l.Nodup):(zaY l).Pairwise (· < ·):=by
  have h1:=zhA l;have h2:(zaY l).Nodup:=(List.mergeSort_perm l _).symm.nodup h;exact(h1.and h2).imp fun h=>by have:=h.1;have:=h.2;omega
theorem zkH (v:List Int) (m k:Int):(zam v m k).1.Pairwise (· < ·):=by
  unfold zam
  split
  · rename_i c;exact zuQ (zlj c 32 (ug _)).2.1
  exact List.Pairwise.nil
theorem zu1 {v:List Int} {m k:Int} (h:mayP v m k=true):(0:Int)∈(zam v m k).1:=by
  unfold zam;rw[ut h];exact zne.2 (climb_zero h)
theorem zgJ {L M:List Int} (hL:L.Pairwise (· < ·)) (hM:M.Pairwise (· < ·)) (hsub:∀x∈M,x∈L):M.length≤L.length:=by
  induction L generalizing M with
  | nil =>
    match M with
    | []=>exact ug _
    | x::_=>exact absurd (hsub x (List.mem_cons_self ..)) yy
  | cons a L ih =>
    rw[List.pairwise_cons] at hL;have hf:(M.filter fun x=>decide (x≠a)).length≤L.length:=ih hL.2 (hM.sublist List.filter_sublist) (fun x hx=>by
      rw[List.mem_filter] at hx;have h1:=hsub x hx.1;have h2:=of_decide_eq_true hx.2;exact(List.mem_cons.1 h1).resolve_left h2)
    have h1:(M.filter fun x=>!decide (x≠a)).length≤1:=by
      have hs:=hM.sublist (List.filter_sublist (p:=fun x=>!decide (x≠a)))
      match he:M.filter (fun x=>!decide (x≠a)) with
      | []=>simp
      | [_]=>simp
      | b::c::r =>
        rw[he,List.pairwise_cons] at hs;have hb:b∈M.filter (fun x=>!decide (x≠a)):=by rw[he];simp
        have hc:c∈M.filter (fun x=>!decide (x≠a)):=by rw[he];simp
        simp only[List.mem_filter,Bool.not_eq_true',decide_eq_false_iff_not,Decidable.not_not] at hb hc
        have:=hs.1 c yy
        omega
    have:=zl7 (fun x=>decide (x≠a)) M
    rw[List.length_cons];omega
theorem zdM {L:List Int} (hL:L.Pairwise (· < ·)) {i j:Nat} {x y:Int} (hi:L[i]?=some x) (hj:L[j]?=some y):x<y↔i<j:=by
  obtain⟨h1,e1⟩:=ul.1 hi;obtain⟨h2,e2⟩:=ul.1 hj;have hp:=List.pairwise_iff_getElem.1 hL
  constructor
  · intro h
    rcases Nat.lt_trichotomy i j with c|c|c
    · exact c
    · subst c;omega
    have:=hp j i h2 h1 c;omega
  intro h
  have:=hp i j h1 h2 h;omega
structure BuildOk (l:List Block) (m k:Int):Prop where
  c:(zH l).2=0
  m1:1≤m
  m2:m≤20
  k1:1≤k
  k2:k≤20
  kl:k<l.length
theorem zfQ {l:List Block} {m k:Int} (h:prE l m k=0):BuildOk l m k:=by
  unfold prE at h;by_cases hc:(zH l).2=0
  · rw[ur (fun q=>q hc)] at h
    by_cases q:m<1∨20<m∨k<1∨20<k∨(l.length:Int)≤k
    · rw[ut q] at h;cases h
    exact⟨hc,by omega,by omega,by omega,by omega,by omega⟩
  rw[ut hc] at h;exact absurd h hc
section
variable {l:List Block} {m k:Int}
theorem zui (h:BuildOk l m k):mayP (zo l) m k=true:=by
  have h1:=h.m1;have h2:=h.k1;have h3:=h.kl;unfold mayP;rw[zju (zdr h.c),ui (by rw[zcb];omega)];rfl
theorem zmE (l:List Block) (k:Int):((List.range k.toNat).map fun j:Nat=>(l.length:Int)-k+(j:Int)).Pairwise (· < ·):=by
  rw[List.pairwise_map];exact(List.pairwise_lt_range ..).imp fun h=>by omega
theorem zfI (h:BuildOk l m k):(zE l m k).Pairwise (· < ·):=by
  have hl:=zcb l;unfold zE;rw[List.pairwise_append];refine⟨zkH ..,zmE ..,fun a ha b hb=>?_⟩;have h1:=(zlS ha).2;obtain⟨j,_,rfl⟩:=List.mem_map.1 hb;rw[hl] at h1;omega
theorem places_at (h:BuildOk l m k) {i:Nat} {x:Int} (hx:(zE l m k)[i]?=some x) :
    (0≤x∧x<l.length)∧((i<(zam (zo l) m k).1.length∧(zam (zo l) m k).1[i]?=some x)∨((zam (zo l) m k).1.length≤i∧(l.length:Int)-k≤x)):=by
  refine⟨zdn ⟨h.k1,h.kl⟩ (ud hx),?_⟩;unfold zE at hx;by_cases c:i<(zam (zo l) m k).1.length
  · rw[List.getElem?_append_left c] at hx
    exact .inl ⟨c,hx⟩
  rw[List.getElem?_append_right yc] at hx;obtain⟨j,_,rfl⟩:=List.mem_map.1 (ud hx);exact .inr ⟨by omega,by omega⟩
theorem places_len (h:BuildOk l m k):(zE l m k).length=(zam (zo l) m k).1.length+k.toNat:=by unfold zE;simp
theorem zmA (h:BuildOk l m k):(zE l m k)[0]?=some 0:=by
  have h0:=zu1 (zui h);have hs:=zkH (zo l) m k;unfold zE
  match hp:(zam (zo l) m k).1 with
  | []=>rw[hp] at h0;cases h0
  | a::r =>
    rw[hp] at h0 hs;have ha:=(zlS (v:=zo l) (m:=m) (k:=k) (x:=a) (by rw[hp];exact List.mem_cons_self ..)).1;rcases List.mem_cons.1 h0 with e|e
    · rw[←e];rfl
    have:=(List.pairwise_cons.1 hs).1 0 e
    omega
theorem zu4 (h:BuildOk l m k):(zE l m k)[(zE l m k).length-1]?=some ((l.length:Int)-1):=by
  have h1:=h.k1;rw[places_len h];unfold zE;rw[List.getElem?_append_right yc,List.getElem?_map,List.getElem?_range yc];simp only[Option.map_some,Option.some.injEq];omega
theorem zoe (h:BuildOk l m k) {i:Nat} {x:Int} (hx:(zE l m k)[i]?=some x) :
    ∃b:Block,l[x.toNat]?=some b∧b.h.height=x∧((zE l m k).map (zaN l))[i]?=some ⟨b.h,b.l⟩:=by
  have hr:=(places_at h hx).1;obtain⟨b,hb⟩:∃b,l[x.toNat]?=some b:=yv;refine⟨b,hb,?_,?_⟩
  · have:=(zeY (zdr h.c) hb).1
    omega
  rw[List.getElem?_map,hx];have e:l.getD x.toNat default=b:=by rw[uq,hb];rfl
  show some (zaN l x)=_;unfold zaN;rw[e]
theorem zq2 (n:Nat):((List.range n).map fun j:Nat=>(j:Int)).Pairwise (· < ·):=by
  rw[List.pairwise_map];exact(List.pairwise_lt_range ..).imp fun h=>by omega
end
set_option maxRecDepth 20000
theorem zkx {α:Type} {p:List α→Prop} (h0:p []) (h1:∀l x,p l→p (l++[x])):∀l,p l:=fun l=>by
  have:∀r:List α,p r.reverse:=fun r=>by
    induction r with
    | nil=>exact h0
    | cons x r ih=>rw[List.reverse_cons];exact h1 _ _ ih
  have:=this l.reverse
  rwa [List.reverse_reverse] at this
theorem i64_sub (x y:Int):decide (x<y)=decide (x-y<0):=by rw[uo];omega
def cstep (out:List Int) (x:Int):List Int:=if out.getLast?=some x then out else out++[x]
def zR (l:List Int):List Int:=l.foldl cstep []
theorem zfm (l:List Int) (x:Int):zR (l++[x])=cstep (zR l) x:=by unfold zR;rw[List.foldl_append];rfl
theorem zt5 {l:List Int} {k:Nat} {x:Int} (h:l[k]?=some x):zR (l.take (k+1))=cstep (zR (l.take k)) x:=by
  rw[un,h];exact zfm _ x
theorem zmK:∀l:List Int,(zR l).getLast?=l.getLast?:=fun l=>by
  refine zkx (p:=fun l=>(zR l).getLast?=l.getLast?) rfl (fun l x ih=>?_) l
  · show(zR (l++[x])).getLast?=(l++[x]).getLast?
    rw[zfm];unfold cstep
    split
    · rename_i c;rw[c];simp
    simp
theorem zkg (l:List Int):(zR l).length≤l.length:=by
  refine zkx (p:=fun l=>(zR l).length≤l.length) (ug _) (fun l x ih=>?_) l
  · show(zR (l++[x])).length≤(l++[x]).length
    rw[zfm];unfold cstep
    split<;>simp<;>omega
theorem last_take {l:List Int} {k:Nat} {x:Int} (h:l[k]?=some x):(l.take (k+1)).getLast?=some x:=by
  rw[un,h];simp
theorem zfZ {l:List Int} {k:Nat} {x y:Int} (hx:l[k]?=some x) (hy:l[k+1]?=some y):zR (l.take (k+2))=if x=y then zR (l.take (k+1)) else zR (l.take (k+1))++[y]:=by
  rw[zt5 (k:=k+1) hy];unfold cstep;rw[zmK,last_take hx];simp only[Option.some.injEq]
def swpI {α:Type} [Inhabited α] (l:List α) (k:Nat):List α:=(List.range l.length).map fun j=>if j<k∨l.length-k≤j then l.getD (l.length-1-j) default else l.getD j default
theorem zhx {α:Type} [Inhabited α] {l:List α} {k:Nat}:(swpI l k).length=l.length:=by unfold swpI;simp
theorem zlK {α:Type} [Inhabited α] {l:List α} {k j:Nat} (h:j<l.length):(swpI l k)[j]?=some (if j<k∨l.length-k≤j then l.getD (l.length-1-j) default else l.getD j default):=by
  unfold swpI;rw[List.getElem?_map,List.getElem?_range h];rfl
theorem swpI_zero {α:Type} [Inhabited α] {l:List α}:swpI l 0=l:=by
  apply List.ext_getElem?;intro j;by_cases h:j<l.length
  · rw[zlK h,ur yc,uq,ub h];rfl
  rw[List.getElem?_eq_none (by rw[zhx];omega),List.getElem?_eq_none yc]
theorem swpI_step {α:Type} [Inhabited α] {l:List α} {k:Nat} {x y:α} (hk:2*(k+1)≤l.length) (hx:(swpI l k)[k]?=some x) (hy:(swpI l k)[l.length-1-k]?=some y):((swpI l k).set k y).set (l.length-1-k) x=swpI l (k+1):=by
  rw[zlK yc,ur yc] at hx;rw[zlK yc,ur yc] at hy;injection hx with hx;injection hy with hy;apply List.ext_getElem?;intro j;by_cases h:j<l.length
  · rw[zlK h,List.getElem?_set]
    by_cases c:l.length-1-k=j
    · rw[ut c,ut (by rw[List.length_set,zhx];omega),ut yc,←hx]
      congr 2;omega
    rw[ur c,List.getElem?_set];by_cases d:k=j
    · rw[ut d,ut (by rw[zhx];omega),ut yc,←hy]
      congr 2;omega
    rw[ur d,zlK h];by_cases e:j<k∨l.length-k≤j
    · rw[ut e,ut yc]
    rw[ur e,ur yc]
  rw[List.getElem?_eq_none (by rw[List.length_set,List.length_set,zhx];omega),List.getElem?_eq_none (by rw[zhx];omega)]
theorem swpI_end {α:Type} [Inhabited α] {l:List α} {k:Nat} (h1:2*k≤l.length) (h2:¬(k:Int)<(l.length:Int)-1-k):swpI l k=l.reverse:=by
  apply List.ext_getElem?;intro j;by_cases h:j<l.length
  · rw[zlK h,List.getElem?_reverse h,ub yc]
    congr 1
    split
    · rw[uq,ub yc];rfl
    have e:j=l.length-1-j:=yc;rw[uq,ub yc];show l[j]=_;congr 1
  rw[List.getElem?_eq_none (by rw[zhx];omega),List.getElem?_eq_none (by rw[List.length_reverse];omega)]
def Fresh (l:List Int) (k:Nat):Prop:=zR (l.take k)=l.take k
theorem fresh_one (l:List Int) (h:1≤l.length):Fresh l 1:=by
  cases l with
  | nil=>simp at h
  | cons x l=>rfl
theorem fresh_go {l:List Int} {k:Nat} {x y:Int} (h:Fresh l (k+1)) (hx:l[k]?=some x) (hy:l[k+1]?=some y) (hn:¬y=x):Fresh l (k+2):=by
  unfold Fresh at h ⊢;rw[zfZ hx hy,ur (fun e=>hn e.symm),h];have e:l.take (k+1+1)=l.take (k+1)++(l[k+1]?).toList:=un;rw[hy] at e;exact e.symm
theorem fresh_dup {l:List Int} {k:Nat} {x y:Int} (h:Fresh l (k+1)) (hx:l[k]?=some x) (hy:l[k+1]?=some y) (hn:y=x):zR (l.take (k+2))=l.take (k+1):=by
  rw[zfZ hx hy,ut hn.symm,h]
def zhe (l:List Int) (i:Nat):List Int:=zR (l.take i)++l.drop (zR (l.take i)).length
theorem rowAt_len {l:List Int} {i:Nat} (h:i≤l.length):(zhe l i).length=l.length:=by
  unfold zhe
  have:=zkg (l.take i)
  rw[um] at this;rw[ue,List.length_drop];omega
theorem zte {l:List Int} {i j:Nat} (h:(zR (l.take i)).length≤j):(zhe l i)[j]?=l[j]?:=by
  unfold zhe;rw[List.getElem?_append_right h,List.getElem?_drop];congr 1;omega
theorem rowAt_same {l:List Int} {i:Nat} {x y:Int} (hx:l[i]?=some x) (hy:l[i+1]?=some y) (h:x=y):zhe l (i+2)=zhe l (i+1):=by
  unfold zhe;rw[zfZ hx hy,ut h]
theorem set_app {α:Type} (a b:List α) (y:α) (h:0<b.length):(a++b).set a.length y=a++[y]++b.drop 1:=by
  cases b with
  | nil=>simp at h
  | cons z b=>rw[List.set_append_right _ _ (ug _),Nat.sub_self];simp
theorem rowAt_new {l:List Int} {i:Nat} {x y:Int} (hx:l[i]?=some x) (hy:l[i+1]?=some y) (h:¬x=y) (hc:(zR (l.take (i+1))).length<l.length):(zhe l (i+1)).set (zR (l.take (i+1))).length y=zhe l (i+2):=by
  unfold zhe;rw[zfZ hx hy,ur h,set_app _ _ _ (by rw[List.length_drop];omega),List.drop_drop,ue];rfl
theorem zuV {l:List Int} {k:Nat} (h:zR (l.take (k+2))=l.take (k+1)) (hk:k+1≤l.length):zhe l (k+2)=l:=by
  unfold zhe;rw[h,um,Nat.min_eq_left hk,List.take_append_drop]
theorem zsc {l:List Int} (h:l.length<2):zR l=l:=by
  match l,h with
  | [],_=>rfl
  | [x],_=>rfl
theorem sNaN_ok (x:Int):Tells P 163 [.val i64T x] (.val zm false):=by
 refine zc Tryz.func163 rfl rfl rfl (fun ext w hext=>?_);refine ze (d:=0) rfl zt (fun hin0=>?_);refine qbJ ?_;refine qax ?_;refine A0 zdQ ?_;refine qad ?_;exact zb rfl rfl (zcP (by simp[Fr.set]))
theorem lessInt_ok (x y:Int):Tells P 162 [.val i64T x,.val i64T y] (.val zm (decide (x<y))):=by
 refine zc Tryz.func162 rfl rfl rfl (fun ext w hext=>?_);refine ze (d:=0) rfl zt (fun hin0=>?_);refine ze (d:=1) rfl zt (fun hin1=>?_);refine qbJ ?_;refine A0 (oCl (zrR x) rfl fn_212 yf) ?_;refine qax ?_;refine zi4 (d:=7) rfl (rfl) ?_;refine qac ?_;refine qal ?_;refine qca ?_;refine A1 zb2 ?_;refine qaI ?_;exact zb rfl rfl (za rfl (rfl))
theorem growInt (n:Nat) (hn:n≤1000000000):Tells P 267 [.lit (.slice none 0 0),.val i64T (n:Int)] (.fresh 3 i64T []):=by
 refine zc Tryz.func267 rfl rfl rfl (fun ext w hext=>?_);refine ze (d:=1) rfl zt (fun hin1=>?_);refine qaq ?_;refine qbg ?_;refine qaY ?_;refine ze1 rfl (uh (by show ¬((n:Int)<0);omega)) ?_;refine qbM ?_;refine A0 mL ?_;refine A0 (zhj rfl rfl zcX) ?_;refine A0 mL ?_;refine A0 yaA ?_;refine A0 zbb ?_;refine A0 zbb ?_;refine qag ?_;refine qcC ?_;refine zn (p:=0<n) rfl yab (fun ht16=>?_) (fun ht16=>?_)
 ·
  refine CR ?_;refine A0 mL ?_;refine A0 mL ?_;refine A0 (zhj rfl rfl zcX) ?_;refine A0 (by first|exact zfM rfl rfl rfl yaq zbR|exact zk3 rfl rfl rfl zbR yg) ?_;refine qax ?_;refine zmi (T:=i64T) (n:=n) rfl rfl rfl rfl rfl rfl yaq zeo ze_3 (ui_3) (⟨by assumption,by omega,by omega⟩) ?_;refine A0 mL ?_;refine A0 yaA ?_;refine A0 (zmG (q:=0) rfl rfl rfl rfl zbR yn yg) ?_;refine A0 aS ?_;refine CNQR ?_;refine A0 mS ?_;refine A0 aS ?_;refine CN ?_;exact zb rfl rfl (zj1 rfl rfl yx rfl)
 refine CSQR ?_;refine A0 mL ?_;refine A0 aL ?_;refine CN ?_;exact zb rfl rfl (zp rfl)
theorem concatInt (ls:List (List Int)) (hl:ls.flatten.length≤1000000000):Tells P 216 [.val (bsl (bsl i64T)) ls] (.fresh 3 i64T ls.flatten):=by
 refine zc Tryz.func216 rfl rfl rfl (fun ext w hext=>?_);refine ze (d:=0) rfl zk (fun hsl0=>?_);refine qbD ?_;refine qaj ?_;refine A0 (zW rfl rfl isl_347) ?_;refine qa2 ?_;refine Lp (ι:=Nat) 0 (fun (k:Nat)=>(((((Fr.none).set 0 (.val (bsl (bsl i64T)) ls)).set 3 (.val i64T ((ls.take k).flatten.length:Int))).set 9 (.val (bsl (bsl i64T)) ls)).set 10 (.val i64T (ls.length:Int))).set 11 (.val i64T (k:Int))) (fun (k:Nat)=>Hp.none) (fun (k:Nat)=>k≤ls.length) (fun (k:Nat)=>ls.length-k) (0) (uf _) ?_;intro k hinv;refine qak ?_;refine Cf (p:=k<ls.length) (fun ht12=>?_) (fun ht12=>?_)
 ·
  obtain⟨x,hx⟩:∃x,ls[k]?=some x:=⟨_,ub ht12⟩;have hle:=zeg ls (k+1);rw[zaH hx,ue] at hle;refine CSQBQR ?_;refine A0 (zby rfl rfl rfl sl_347 yh) ?_;refine A0 (zg rfl rfl zen) ?_;refine A0 aX ?_;refine CNQR ?_;refine qax ?_;refine A0 mX ?_;refine A0 yaA ?_;refine A0 zdp ?_;refine qag ?_;refine qaY ?_;refine ze1 rfl (uh yS) ?_;refine qaZ ?_;refine zj (d:=3) (y:=((ls.take (k+1)).flatten.length:Int)) rfl (by rw[zaH hx,ue];omega) ?_;exact Nx (k+1) yc yc
 refine zj (d:=3) (y:=((ls.flatten.length:Nat):Int)) rfl yN ?_;refine CE ?_;refine qa4 ?_;refine zaD (growInt ls.flatten.length hl) rfl fn_267 ybP rfl rfl rfl ?_;refine A0 aO ?_;refine qbg ?_;refine A0 (zW rfl rfl isl_347) ?_;refine qa2 ?_;refine Lp (ι:=Nat) 1 (fun k=>(((Fr.none.set 6 (.own 0)).set 25 (.val (bsl (bsl i64T)) ls)).set 26 (.val i64T (ls.length:Int))).set 27 (.val i64T (k:Int))) (fun k=>Hp.none.set 0 (.row 3 i64T (ls.take k).flatten)) (fun k=>k≤ls.length) (fun k=>ls.length-k) (0) (uf _) ?_;intro k hinv;refine qak ?_;refine Cf (p:=k<ls.length) (fun ht28=>?_) (fun ht28=>?_)
 ·
  obtain⟨x,hx⟩:∃x,ls[k]?=some x:=⟨_,ub ht28⟩;have hle:=zeg ls (k+1);rw[zaH hx,ue] at hle;refine CSQBQR ?_;refine A0 (zby rfl rfl rfl sl_347 yh) ?_;refine A0 (zg rfl rfl zen) ?_;refine A0 aX ?_;refine CNR ?_;refine A0 mO ?_;refine A0 mX ?_;refine zF rfl rfl rfl rfl rfl rfl rfl zeo yc ?_;refine A0 aO ?_;refine qbh ?_;refine xm ?_;refine zA (n:=0) rfl (zaH hx).symm ?_;exact Nx (k+1) yc yc
 refine qa9 ?_;exact zb rfl rfl (zh rfl rfl yN)
theorem revInt (l:List Int) (hl:l.length≤1000000000000):zfr P 158 (.row 3 i64T l) [.own 0] (.lit (.tuple #[])) (.row 3 i64T l.reverse):=by
 refine zgo trivial Tryz.func158 rfl rfl ⟨Nat.one_pos,trivial⟩ (fun ext pg w hext hgr=>?_);refine zjA (n:=0) rfl (fun hrl=>?_);refine qb6 ?_;refine xG ?_;refine A0 zbb ?_;refine A0 aV ?_;refine qc7 ?_;refine zA (n:=0) (y:=swpI l 0) rfl swpI_zero.symm ?_;refine zj (d:=3) (y:=(l.length:Int)-1-((0:Nat):Int)) rfl yc ?_;refine Lp (ι:=Nat) 1 (fun (k:Nat)=>(((Fr.none).set 0 (.own 0)).set 2 (.val i64T (k:Int))).set 3 (.val i64T ((l.length:Int)-1-k))) (fun (k:Nat)=>(Hp.none).set 0 (.row 3 i64T (swpI l k))) (fun (k:Nat)=>2*k≤l.length) (fun (k:Nat)=>l.length-k) (0) (uf _) ?_;intro k hinv;refine CQQR ?_;refine qao ?_;refine qaY ?_;refine Cf (p:=(k:Int)<(l.length:Int)-1-k) (fun ht9=>?_) (fun ht9=>?_)
 ·
  have hsl:=zhx (l:=l) (k:=k);obtain⟨x,hx⟩:∃x,(swpI l k)[k]?=some x:=yv;obtain⟨y,hy⟩:∃y,(swpI l k)[l.length-1-k]?=some y:=yv;have hsl2:((swpI l k).set k y).length=l.length:=by rw[List.length_set,hsl]
  have hy2:((swpI l k).set k y)[l.length-1-k]?=some y:=by rw[List.getElem?_set_ne yc];exact hy
  refine qcl ?_;refine CB ?_;refine zx [some 1,some 1,some 1000001,some 1000001,some 1,some 1,some 1,some 1,some 1,some 1,some 1,some 1,some 1,none,some 1,none] mixed ye ?_;refine X0 mO ?_;refine X0 mV ?_;refine XK.ga (fun _=>g_mo (.inl rfl) rfl) rfl rfl rfl ?_;refine XK.ga (fun _=>g_mv (.inl rfl) rfl) rfl rfl rfl ?_;refine X0 mO ?_;refine X0 mV ?_;refine X0 (zcs (i:=l.length-1-k) rfl rfl rfl rfl yn zbR yg) ?_;refine X0 (zbX rfl rfl rfl rfl yh (Lens.self _) ty_3) ?_;refine X0 mO ?_;refine X0 mV ?_;refine X0 (zcs (i:=k) rfl rfl rfl rfl yn zbR yg) ?_;refine X0 (zbX rfl rfl rfl rfl yh (Lens.self _) ty_3) ?_;refine X0 (zcs (i:=k) rfl rfl rfl rfl yn zbR yg) ?_;refine XK.e (x:=.idk) (fun fr' hfr kk H=>by exact zcM rfl rfl rfl ((hfr 26 ye).trans rfl) rfl rfl yh (Lens.self _) ty_3 ((hfr 21 ye).trans rfl) (zr H)) ?_;refine X0 (zcs (i:=l.length-1-k) rfl rfl rfl rfl yn zbR yg) ?_;refine XK.e (x:=.idk) (fun fr' hfr kk H=>by exact zcM rfl rfl rfl ((hfr 27 ye).trans rfl) rfl rfl yh (Lens.self _) ty_3 ((hfr 25 ye).trans rfl) (zr H)) ?_;refine xf ?_;refine CI ?_;refine CR ?_;refine qbb ?_;refine qcb ?_;refine qbA ?_;refine zA (n:=0) (y:=swpI l (k+1)) rfl (swpI_step yc hx hy) ?_;refine zj (d:=3) (y:=(l.length:Int)-1-((k+1:Nat):Int)) rfl yc ?_;exact Nx (k+1) yc yc
 refine CE ?_;exact zus rfl rfl rfl rfl rfl (give_row rfl (swpI_end hinv ht9))
theorem bsInt_ok (l:List Int) (y:Int) (hl:l.length<4611686018427387904):Tells P 94 [.val (bsl i64T) l,.val i64T y] (.tup2 (.val i64T (halves (fun x=>x-y) l 0 l.length:Nat)) (.val zm (zfy (fun x=>x-y) l (halves (fun x=>x-y) l 0 l.length)))):=by
 refine zc Tryz.func94 rfl rfl rfl (fun ext w hext=>?_);refine ze (d:=0) rfl zk (fun hsl0=>?_);refine ze (d:=1) rfl zt (fun hin1=>?_);refine CQR ?_;refine A0 aV ?_;refine qag ?_;refine qbt ?_;refine qag ?_;refine A0 aV ?_;refine qa7 ?_;refine CB ?_;refine Lp (ι:=Nat×Nat) 0 (fun (i:Nat×Nat)=>match i with|(lo,hi)=>(((((Fr.none).set 0 (.val (bsl i64T) l)).set 1 (.val i64T y)).set 6 (.val i64T (l.length:Int))).set 7 (.val i64T (lo:Int))).set 8 (.val i64T (hi:Int))) (fun (i:Nat×Nat)=>match i with|(lo,hi)=>Hp.none) (fun (i:Nat×Nat)=>match i with|(lo,hi)=>lo≤hi∧hi≤l.length∧halves (fun x=>x-y) l 0 l.length=halves (fun x=>x-y) l lo hi) (fun (i:Nat×Nat)=>match i with|(lo,hi)=>hi-lo) ((0,l.length)) (⟨uf _,ug _,rfl⟩) ?_;intro⟨lo,hi⟩ hinv;dsimp only at hinv;refine CQQR ?_;refine qao ?_;refine qaY ?_;refine Cf (p:=lo<hi) (fun ht15=>?_) (fun ht15=>?_)
 ·
  obtain⟨x,hx⟩:∃x,l[(lo+hi)/2]?=some x:=yv;refine CS ?_;refine CB ?_;refine CQR ?_;refine qao ?_;refine A0 zdp ?_;refine qc4 ?_;refine xk ?_;refine A0 (zm8 rfl (ui_3) (zv6) rfl (mid_eq yc)) ?_;refine qag ?_;refine qax ?_;refine A0 (zK (i:=(lo+hi)/2) rfl rfl rfl yc zbR yh) ?_;refine qbL ?_;refine qax ?_;refine A0 (oCl (lessInt_ok x y) rfl fn_162 ybP) ?_;refine CN ?_;refine zn (p:=x-y<0) rfl ((i64_sub _ _)) (fun ht27=>?_) (fun ht27=>?_)
  ·
   refine CR ?_;refine qbb ?_;refine qad ?_;refine CI ?_;exact Nx (((lo+hi)/2+1,hi)) yaJ yat
  refine CR ?_;refine qax ?_;refine qad ?_;refine CI ?_;exact Nx ((lo,(lo+hi)/2)) yaJ yat
 refine CE ?_;refine CQR ?_;refine qao ?_;refine qax ?_;refine A0 zb2 ?_;refine Sp (d:=34) (p:=lo<l.length) (fun g34=>?_) (fun g34=>?_)
 ·
  obtain⟨x,hx⟩:∃x,l[lo]?=some x:=⟨_,ub g34⟩;refine qax ?_;refine qca ?_;refine A1 (zK (i:=lo) rfl rfl rfl yc zbR yh) ?_;refine A1 (zg rfl rfl ty_3) ?_;refine A1 mV ?_;refine A1 zbZ ?_;refine Sp (d:=41) (p:=x=y) (fun g41=>?_) (fun g41=>?_)
  ·
   refine A1 mV ?_;refine qac ?_;refine qac ?_;refine A3 ?_;refine A3 ?_;refine A2 ?_;refine A1 oK ?_;refine A0 oK ?_;refine qbA ?_;exact zV rfl rfl (za rfl yax) (za rfl (by rw[hinv.2.2,show hi=lo by omega,zcr];unfold zfy;rw[hx];symm;exact ui (show x-y=0 by omega)))
  refine qca ?_;refine A1 mV ?_;refine A1 (zK (i:=lo) rfl rfl rfl yc zbR yh) ?_;refine A1 (zg rfl rfl ty_3) ?_;refine A1 (oCl (sNaN_ok x) rfl fn_163 ybN) ?_;refine zi4 (d:=47) rfl (rfl) ?_;refine A1 mV ?_;refine A2 ?_;refine A2 ?_;refine A1 oK ?_;refine A1 oK ?_;refine A0 oK ?_;refine qbA ?_;exact zV rfl rfl (za rfl yax) (za rfl (by rw[hinv.2.2,show hi=lo by omega,zcr];unfold zfy;rw[hx];symm;exact uh (show ¬x-y=0 by omega)))
 refine qax ?_;refine qac ?_;refine qb7 ?_;refine A3 ?_;refine A3 ?_;refine A3 ?_;refine A3 ?_;refine A3 ?_;refine A3 ?_;refine A3 ?_;refine A3 ?_;refine A3 ?_;refine A2 ?_;refine A0 oK ?_;refine qbA ?_;exact zV rfl rfl (za rfl yax) (za rfl (by rw[hinv.2.2,show hi=lo by omega,zcr];unfold zfy;rw[List.getElem?_eq_none yc]))
theorem compactInt (l:List Int) (hl:l.length≤1000000000):zfr P 218 (.row 3 i64T l) [.own 0] (.fresh 3 i64T (zR l)) (.none_):=by
 refine zgo trivial Tryz.func218 rfl rfl ⟨Nat.one_pos,trivial⟩ (fun ext pg w hext hgr=>?_);refine zjA (n:=0) rfl (fun hrl=>?_);refine qaq ?_;refine CNQQR ?_;refine A0 mO ?_;refine xG ?_;refine qaY ?_;refine Cf (p:=l.length<2) (fun ht8=>?_) (fun ht8=>?_)
 ·
  refine qb6 ?_;refine qbm ?_;exact zdZ rfl rfl rfl rfl rfl zc9 (zlP zc9 (fun h=>h.elim) rfl rfl (zsc ht8).symm)
 refine CSQQR ?_;refine qc7 ?_;refine Lp (ι:=Nat) 1 (fun (k:Nat)=>((Fr.none).set 0 (.own 0)).set 3 (.val i64T ((k:Int)+1))) (fun (k:Nat)=>(Hp.none).set 0 (.row 3 i64T l)) (fun (k:Nat)=>k+1≤l.length∧Fresh l (k+1)) (fun (k:Nat)=>l.length-k) (0) (⟨by omega,fresh_one l yc⟩) ?_;intro k hinv;refine qb1 ?_;refine A0 mO ?_;refine xG ?_;refine qaY ?_;refine Cf (p:=k+1<l.length) (fun ht13=>?_) (fun ht13=>?_)
 ·
  obtain⟨x,hx⟩:∃x,l[k]?=some x:=yv;obtain⟨y,hy⟩:∃y,l[k+1]?=some y:=⟨_,ub ht13⟩;refine qcl ?_;refine CB ?_;refine qaV ?_;refine G0 mO ?_;refine G0 mV ?_;refine G0 (zcs (i:=k+1) rfl rfl rfl rfl yn zbR yg) ?_;refine xM ?_;refine G0 mO ?_;refine G0 mV ?_;refine G0 zbb ?_;refine G0 (zcs (i:=k) rfl rfl rfl rfl yn zbR yg) ?_;refine xM ?_;refine G0 zbZ ?_;refine GK.nil ?_;refine Cf (p:=y=x) (fun ht25=>?_) (fun ht25=>?_)
  ·
   have hdup:=fresh_dup hinv.2 hx hy ht25;have hdl:(zR (l.take (k+2))).length=k+1:=by rw[hdup,um];omega
   refine qb6 ?_;refine qax ?_;refine A0 (ztL (p:=k+1) rfl rfl rfl rfl zbR yn yg) ?_;refine A0 aS ?_;refine CNQQR ?_;refine qc7 ?_;refine zA (n:=0) (y:=zhe l (k+1+1)) rfl (zuV hdup yc).symm ?_;refine zj (d:=3) (y:=((zR (l.take (k+1+1))).length:Int)) rfl (by rw[hdl];omega) ?_;refine zj (d:=5) (y:=((k+1:Nat):Int)-k) rfl yc ?_;refine Lp (ι:=Nat) 1 (fun j=>(((Fr.none.set 0 (.own 0)).set 3 (.val i64T ((zR (l.take (j+1))).length:Int))).set 4 (.osub 0 i64T.size (k+1) (l.length-(k+1)))).set 5 (.val i64T ((j:Int)-k))) (fun j=>Hp.none.set 0 (.row 3 i64T (zhe l (j+1)))) (fun j=>k+1≤j∧j<l.length∧(zR (l.take (j+1))).length≤j) (fun j=>l.length-j) (k+1) (⟨ug _,by omega,by rw[hdl];omega⟩) ?_;intro j hj;refine qb1 ?_;refine A0 mS ?_;refine A0 (g_len_s rfl rfl yc zcX) ?_;refine qaY ?_;refine Cf (p:=j+1<l.length) (fun ht32=>?_) (fun ht32=>?_)
   ·
    have hrw:=rowAt_len (l:=l) (i:=j+1) yc;obtain⟨x2,hx2⟩:∃x,l[j]?=some x:=yv;obtain⟨y2,hy2⟩:∃y,l[j+1]?=some y:=⟨_,ub ht32⟩;have hxr:(zhe l (j+1))[k+1+(j-k-1)]?=some x2:=by rw[show k+1+(j-k-1)=j by omega,zte hj.2.2];exact hx2
    have hyr:(zhe l (j+1))[k+1+(j-k)]?=some y2:=by rw[show k+1+(j-k)=j+1 by omega,zte yc];exact hy2
    refine qcl ?_;refine CB ?_;refine qaV ?_;refine G0 mS ?_;refine G0 mV ?_;refine G0 (g_ia_s (i:=j-k) rfl rfl rfl yn zbR yg) ?_;refine xM ?_;refine G0 mS ?_;refine G0 mV ?_;refine G0 zbb ?_;refine G0 (g_ia_s (i:=j-k-1) rfl rfl rfl yn zbR yg) ?_;refine xM ?_;refine G0 zdQ ?_;refine GK.nil ?_;refine Cf (p:=¬y2=x2) (fun ht44=>?_) (fun ht44=>?_)
    ·
     obtain⟨z,hz⟩:∃z,(zhe l (j+1))[(zR (l.take (j+1))).length]?=some z:=yv;have hcl:(zR (l.take (j+1+1))).length=(zR (l.take (j+1))).length+1:=by rw[zfZ hx2 hy2,ur (fun e=>ht44 e.symm),ue];rfl
     refine qb6 ?_;refine qax ?_;refine A0 mS ?_;refine qax ?_;refine A0 (g_ia_s (i:=j-k) rfl rfl rfl yn zbR yg) ?_;refine xH ?_;refine A0 (zcs (i:=(zR (l.take (j+1))).length) rfl rfl rfl rfl yn zbR yg) ?_;refine zcM rfl rfl rfl rfl rfl rfl yh (Lens.self _) ty_3 rfl ?_;refine CNR ?_;refine qbb ?_;refine A0 aV ?_;refine CNIR ?_;refine qbb ?_;refine qad ?_;refine zA (n:=0) (y:=zhe l (j+1+1)) rfl (rowAt_new hx2 hy2 (fun e=>ht44 e.symm) yc) ?_;refine zj (d:=3) (y:=((zR (l.take (j+1+1))).length:Int)) rfl (by rw[hcl];omega) ?_;refine zj (d:=5) (y:=((j+1:Nat):Int)-k) rfl yc ?_;exact Nx (j+1) (⟨by omega,by omega,by omega⟩) yc
    have hcl:(zR (l.take (j+1+1))).length=(zR (l.take (j+1))).length:=by rw[zfZ hx2 hy2,ut (ua ht44).symm]
    refine CSIR ?_;refine qbb ?_;refine qad ?_;refine zA (n:=0) (y:=zhe l (j+1+1)) rfl (rowAt_same hx2 hy2 (ua ht44).symm).symm ?_;refine zj (d:=3) (y:=((zR (l.take (j+1+1))).length:Int)) rfl (by rw[hcl]) ?_;refine zj (d:=5) (y:=((j+1:Nat):Int)-k) rfl yc ?_;exact Nx (j+1) (⟨by omega,by omega,by omega⟩) yc
   refine CE ?_;refine CQ ?_;have hjl:l.take (j+1)=l:=uc yc;have hcl:=zkg l;have hcj:=hj.2.2;rw[hjl] at hcj;refine zA (n:=0) (y:=zR l++l.drop (zR l).length) rfl (by unfold zhe;rw[hjl]) ?_;refine zj (d:=3) (y:=((zR l).length:Int)) rfl (by rw[hjl]) ?_;refine CR ?_;refine A0 mO ?_;refine qax ?_;refine A0 (ztL (p:=(zR l).length) rfl rfl rfl rfl zbR yn yg) ?_;refine zsn rfl rfl rfl rfl rfl zeo ze_3 yx ?_;refine CNQR ?_;refine A0 mO ?_;refine qax ?_;refine A0 (zmG (q:=(zR l).length) rfl rfl rfl rfl zbR yn yg) ?_;refine A0 aS ?_;refine CN ?_;exact zdZ rfl rfl rfl rfl rfl zc9 (zmx rfl rfl yx (by rw[List.take_append_of_le_length yy];simp))
  refine CSIR ?_;refine qbb ?_;refine qad ?_;refine zj (d:=3) (y:=((k+1:Nat):Int)+1) rfl yc ?_;exact Nx (k+1) (⟨by omega,fresh_go hinv.2 hx hy ht25⟩) yc
 refine qa9 ?_;exact zdZ rfl rfl rfl rfl rfl zc9 (zlP zc9 (fun h=>h.elim) rfl rfl (by have h:=hinv.2;unfold Fresh at h;rw[uc yc] at h;exact h.symm))
def zbB (v:List Int) (n:Int):Nat→Nat
  | 0=>0
  | j+1=>if 0<n∧v.getD (j+1) 0<n then zbB v n j else j+1
theorem zh0 (v:List Int) (n:Int):∀j,zbB v n j≤j
  | 0=>ug _
  | j+1=>by
    unfold zbB
    split
    · have:=zh0 v n j;omega
    exact ug _
theorem back_go {v:List Int} {n x:Int} {j:Nat} (hj:0<j) (hx:v[j]?=some x) (h0:0<n) (h:x<n):zbB v n j=zbB v n (j-1):=by
  cases j with
  | zero=>omega
  | succ j =>
    have e:v.getD (j+1) 0=x:=by simp[hx]
    show(if 0<n∧v.getD (j+1) 0<n then zbB v n j else j+1)=zbB v n j;rw[e,ut ⟨h0,h⟩]
theorem zun {v:List Int} {n:Int} {j:Nat} (h:∀x,v[j]?=some x→¬(0<n∧x<n)) (hj:j<v.length):zbB v n j=j:=by
  cases j with
  | zero=>rfl
  | succ j =>
    show(if 0<n∧v.getD (j+1) 0<n then zbB v n j else j+1)=j+1;have e:v[j+1]?=some (v.getD (j+1) 0):=by rw[uq,ub hj];rfl
    rw[ur (h _ e)]
theorem zum (v:List Int) (j:Nat):zbB v 0 j=j:=by
  cases j with
  | zero=>rfl
  | succ j=>show(if (0:Int)<0∧_ then _ else _)=_;rw[ur (fun h=>by have:=h.1;omega)]
def zgG (v:List Int) (low at_ n:Nat):List Int :=
  if h:low<at_ then
    if hx:zbB v n (at_-1)<low then
      match n with
      | 0=>[]
      | n+1=>zgG v low at_ n
    else ((zbB v n (at_-1):Nat):Int)::zgG v low (zbB v n (at_-1)) n
  else []
termination_by at_+n
decreasing_by
  · omega
  have:=zh0 v n (at_-1);omega
theorem zhw (v:List Int) {low at_ n:Nat} (h:¬low<at_):zgG v low at_ n=[]:=by rw[zgG,dif_neg h]
theorem zio {v:List Int} {low at_ n:Nat} (h:low<at_) (hx:zbB v ((n+1:Nat):Int) (at_-1)<low):zgG v low at_ (n+1)=zgG v low at_ n:=by
  rw[zgG,dif_pos h,dif_pos hx]
theorem zin {v:List Int} {low at_ n:Nat} (h:low<at_) (hx:¬zbB v n (at_-1)<low):zgG v low at_ n=((zbB v n (at_-1):Nat):Int)::zgG v low (zbB v n (at_-1)) n:=by
  rw[zgG,dif_pos h,dif_neg hx]
def zao (v:List Int) (high low:Int):Bool:=mayV v&&decide (0≤low∧low≤high∧high<v.length)
def zaC (v:List Int) (high low:Int):List Int:=if zao v high low=true then (high::zgG v low.toNat high.toNat 31).reverse else []
theorem zk5 {v:List Int} {high low:Int} (h:zao v high low=false):zaC v high low=[]:=by unfold zaC;rw[h];rfl
structure WalkAt (v:List Int) (high low:Nat) (s:Nat×Nat×List Int):Prop where
  lo:low≤s.1
  hi:s.1≤high
  n:s.2.1≤31
  l:s.2.2++zgG v low s.1 s.2.1=(high:Int)::zgG v low high 31
  len:s.2.2.length+s.1≤high+1
theorem zsM {v:List Int} {high low a n:Nat} {l:List Int} (h:WalkAt v high low (a,n,l)) (ha:¬a=low) (hx:zbB v n (a-1)<low):1≤n∧WalkAt v high low (a,n-1,l):=by
  have h1:=h.lo;simp only at h1;cases n with
  | zero =>
    rw[show((0:Nat):Int)=0 from rfl,zum] at hx;omega
  | succ n =>
    have h3:=h.n;simp only at h3;refine⟨by omega,h.lo,h.hi,by show n≤31;omega,?_,h.len⟩
    have:=h.l
    simp only at this;rw[zio yc hx] at this;exact this
theorem zsL {v:List Int} {high low a n:Nat} {l:List Int} (h:WalkAt v high low (a,n,l)) (ha:¬a=low) (hx:¬zbB v n (a-1)<low):WalkAt v high low (zbB v n (a-1),n,l++[((zbB v n (a-1):Nat):Int)]):=by
  have h1:=h.lo;have h2:=h.hi;have h5:=h.len;have h4:=h.l;simp only at h1 h2 h4 h5;have hb:=zh0 v n (a-1);refine⟨by show low≤zbB v n (a-1);omega,by show zbB v n (a-1)≤high;omega,h.n,?_,by show(l++_).length+zbB v n (a-1)≤high+1;rw[ue];simp only[List.length_singleton];omega⟩;show(l++[((zbB v n (a-1):Nat):Int)])++zgG v low (zbB v n (a-1)) n=_;rw[List.append_assoc,List.singleton_append,←zin yc hx];exact h4
theorem zez {v:List Int} {high low:Int} (h:zao v high low=true):0<v.length∧v.length≤200∧v[0]?=some 31∧0≤low∧low≤high∧high<v.length:=by
  unfold zao mayV at h;rw[uk,uk,uj,uj] at h;exact⟨h.1.1.1,h.1.1.2.1,h.1.1.2.2,h.2⟩
theorem follow_end {v:List Int} {H L a n:Nat} {l:List Int} (hok:zao v H L=true) (h:WalkAt v H L (a,n,l)) (ha:a=L):l.reverse=zaC v H L:=by
  have:=h.l
  simp only at this;rw[zhw v yc,List.append_nil] at this;unfold zaC;rw[ut hok,this];rfl
theorem build_walk {o:Oper} {y0 y1 y2 y3:Operand} (ho:o.op = .build 253 #[(0,y0),(1,y1),(2,y2),(3,y3)]) (e:Operand→Value) (w:World) (h:∀y∈[y0,y1,y2,y3],(e y).oneCell'=true∧(e y).cells.size=1):(execOp e o).run P w = .ok (.value (.agg ([y0,y1,y2,y3].map e).toArray)) w :=
  run_build4 (z0:=.slice none 0 0) (z1:=.int .i64 0) (z2:=.int .i64 0) (z3:=.slice none 0 0) (fun w=>by kernel_rfl) yr yr ho e w h
def zjK (a b:List Int):List Int:=zR (zaY (a++b))
theorem znR (l:List Int):(zaY l).length=l.length:=(List.mergeSort_perm l _).length_eq
theorem znG (a b:List Int):(zjK a b).length≤a.length+b.length:=by
  have:=zkg (zaY (a++b))
  rw[znR,ue] at this;exact this
theorem zre (v:List Int) (low:Nat):∀s at_ n,at_+n≤s→(zgG v low at_ n).length≤at_
  | 0,at_,n,h=>by rw[zhw v yc];exact uf _
  | s+1,at_,n,h=>by
    by_cases c:low<at_
    · by_cases d:zbB v n (at_-1)<low
      · cases n with
        | zero=>rw[zgG,dif_pos c,dif_pos d];exact uf _
        | succ n=>rw[zio c d];exact zre v low s at_ n yc
      rw[zin c d,List.length_cons];have hb:=zh0 v n (at_-1)
      have:=zre v low s (zbB v n (at_-1)) n yc
      omega
    rw[zhw v c];exact uf _
theorem zfY (v:List Int) (high low:Int):(zaC v high low).length≤201:=by
  unfold zaC
  split
  · rename_i c
    obtain⟨_,h2,_,h4,h5,h6⟩:=zez c
    have:=zre v low.toNat _ high.toNat 31 (ug _)
    rw[List.length_reverse,List.length_cons];omega
  simp
theorem back_ok (v:List Int) (i:Nat) (n:Int) (h0:∀z,v[0]?=some z→n≤z) (h1:1≤i) (hi:i≤v.length):Tells P 215 [.val (bsl i64T) v,.val i64T (i:Int),.val i64T n] (.val i64T (zbB v n (i-1):Nat)):=by
 refine zc Tryz.func215 rfl rfl rfl (fun ext w hext=>?_);refine ze (d:=0) rfl zk (fun hsl0=>?_);refine ze (d:=1) rfl zt (fun hin1=>?_);refine ze (d:=2) rfl zt (fun hin2=>?_);refine qbJ ?_;refine A0 zbb ?_;refine qa7 ?_;refine CB ?_;refine zj (d:=7) (y:=((i-1:Nat):Int)) rfl yc ?_;refine Lp (ι:=Nat) 0 (fun (j:Nat)=>(((Fr.none).set 0 (.val (bsl i64T) v)).set 2 (.val i64T n)).set 7 (.val i64T (j:Int))) (fun (j:Nat)=>Hp.none) (fun (j:Nat)=>j≤i-1∧zbB v n (i-1)=zbB v n j) (fun (j:Nat)=>j) (i-1) (⟨ug _,rfl⟩) ?_;intro j hinv;refine qb1 ?_;refine A0 zc1 ?_;refine Sp (d:=11) (p:=0<n) (fun g11=>?_) (fun g11=>?_)
 ·
  obtain⟨x,hx⟩:∃x,v[j]?=some x:=yv;refine qax ?_;refine qca ?_;refine A1 (zK (i:=j) rfl rfl rfl yc zbR yh) ?_;refine A1 (zg rfl rfl ty_3) ?_;refine A1 mV ?_;refine A1 zb2 ?_;refine qaw ?_;refine Cf (p:=x<n) (fun ht19=>?_) (fun ht19=>?_)
  ·
   have hj0:0<j:=Nat.pos_of_ne_zero fun e=>by subst e;have:=h0 x hx;omega
   refine CS ?_;refine CB ?_;refine CR ?_;refine qcb ?_;refine qad ?_;refine CI ?_;refine zj (d:=7) (y:=((j-1:Nat):Int)) rfl yc ?_;exact Nx (j-1) (⟨by omega,hinv.2.trans (back_go hj0 hx g11 ht19)⟩) yc
  refine CE ?_;refine qbK ?_;exact zb rfl rfl (za rfl (by rw[hinv.2,zun (fun y hy h=>by rw[hx] at hy;injection hy with hy;omega) yc]))
 refine qax ?_;refine qac ?_;refine qac ?_;refine qaw ?_;refine Cg ?_;refine CE ?_;refine qbK ?_;exact zb rfl rfl (za rfl (by rw[hinv.2,zun (fun y hy h=>g11 h.1) yc]))
theorem ztS (v:List Int) (high low:Int):Tells P 95 [.val (bsl i64T) v,.val i64T high,.val i64T low] (.tup2 (.fresh 3 i64T (zaC v high low)) (.val zm (zao v high low))):=by
 refine zc Tryz.func95 rfl rfl rfl (fun ext w hext=>?_);refine ze (d:=0) rfl zk (fun hsl0=>?_);refine ze (d:=1) rfl zt (fun hin1=>?_);refine ze (d:=2) rfl zt (fun hin2=>?_);refine qbp ?_;refine zsj (ι:=Unit) 2 0 rfl rfl rfl (fun (_u:Unit)=>(((Fr.none).set 2 (.val i64T low)).set 8 (.ptr 1 0)).set 9 (.bnd 165 1)) (fun (_u:Unit)=>((Hp.none).set 0 (.row 3 i64T [high])).set 1 (.parts 253 [.val (bsl i64T) v,.val i64T (high:Int),.val i64T (31:Int),.own 0])) (fun (_u:Unit)=>zao v high low=true) (fun (_u:Unit)=>0) ?_ (fun hreach=>?_)
 ·
  intro _u hinv;have hok:=hinv;obtain⟨hv1,hv2,hv3,ho1,ho2,ho3⟩:=zez hok;obtain⟨H,hH⟩:∃H:Nat,high=H:=⟨high.toNat,by omega⟩;obtain⟨L,hL⟩:∃L:Nat,low=L:=⟨low.toNat,by omega⟩;subst hH;subst hL;refine CQ ?_;refine CB ?_;refine Lp (ι:=Nat×Nat×List Int) 2 (fun (i:Nat×Nat×List Int)=>match i with|(a,n,l)=>(((Fr.none).set 2 (.val i64T (L:Int))).set 8 (.ptr 1 0)).set 9 (.bnd 165 1)) (fun (i:Nat×Nat×List Int)=>match i with|(a,n,l)=>((Hp.none).set 0 (.row 3 i64T l)).set 1 (.parts 253 [.val (bsl i64T) v,.val i64T (a:Int),.val i64T (n:Int),.own 0])) (fun (i:Nat×Nat×List Int)=>match i with|(a,n,l)=>WalkAt v H L (a,n,l)) (fun (i:Nat×Nat×List Int)=>match i with|(a,n,l)=>a+n) ((H,31,[(H:Int)])) (⟨by show L≤H;omega,ug _,ug _,rfl,by show 1+H≤H+1;omega⟩) ?_;intro⟨a,n,l⟩ hinv;dsimp only at hinv;have hlo:=hinv.lo;have hhi:=hinv.hi;have hn31:=hinv.n;have hlen:=hinv.len;simp only at hlo hhi hn31 hlen;have hb0:∀z,v[0]?=some z→(n:Int)≤z:=fun z hz=>by rw[hv3] at hz;injection hz with hz;omega
  refine CB ?_;refine CB ?_;refine CQR ?_;refine qaN ?_;refine A0 (oFp zr4) ?_;refine A0 (zy rfl rfl rfl rfl rfl ty_3) ?_;refine qax ?_;refine A0 zbZ ?_;refine qad ?_;refine Cf (p:=a=L) (fun ht36=>?_) (fun ht36=>?_)
  ·
   refine CE ?_;refine CQR ?_;refine qaN ?_;refine A0 (oFp zns) ?_;refine qbu ?_;refine zgT (revInt l yc) rfl fn_158 rfl trivial trivial rfl ⟨yi,trivial⟩ rfl rfl rfl ?_;refine CNQR ?_;refine qaN ?_;refine A0 (oFp zns) ?_;refine qbu ?_;refine qch ?_;exact zV rfl rfl (zh rfl rfl (follow_end hok hinv ht36)) (za rfl hok.symm)
  refine CQR ?_;refine A0 (g_mb (.inl rfl) rfl) ?_;refine qax ?_;refine aw_inlineb rfl rfl rfl rfl rfl Tryz.func165 fn_165 rfl rfl (fun ia2 iok2=>?_);refine CQR ?_;refine qbI ?_;refine qbF ?_;refine G0 (oFp fd_253_0) ?_;refine xg ?_;refine qbF ?_;refine G0 (oFp zr4) ?_;refine G0 (zy rfl rfl rfl rfl rfl ty_3) ?_;refine qbF ?_;refine G0 (oFp zr3) ?_;refine G0 (zy rfl rfl rfl rfl rfl ty_3) ?_;refine G0 (oCl (back_ok v a (n:Int) hb0 yc yc) rfl fn_215 yT) ?_;refine qaP ?_;refine CQQR ?_;refine qao ?_;refine qaY ?_;refine Cf (p:=zbB v n (a-1)<L) (fun ht21=>?_) (fun ht21=>?_)
  ·
   obtain⟨hn1,hwn⟩:=zsM hinv ht36 ht21;refine qas ?_;refine zbn rfl ?_;refine A0 oN ?_;refine qad ?_;refine Ct ?_;refine CR ?_;refine qaN ?_;refine A0 (oFp zr3) ?_;refine A0 (zy rfl rfl rfl rfl rfl ty_3) ?_;refine A0 (zj5 rfl rfl rfl (show _=(((n-1:Nat):Int):Int) from(zax yc).trans yc)) ?_;refine xc ?_;refine A0 (oFp zr3) ?_;refine zZ rfl rfl rfl rfl rfl rfl rfl rfl rfl rfl ty_3 ?_;refine CN ?_;refine CI ?_;refine CI ?_;exact Nx ((a,n-1,l)) (hwn) ybq
  have hwn:=zsL hinv ht36 ht21;refine CSQR ?_;refine A0 mP ?_;refine qaN ?_;refine A0 (oFp zns) ?_;refine qbu ?_;refine qax ?_;refine qaC ?_;refine xc ?_;refine A0 (oFp zns) ?_;refine zZ rfl rfl rfl rfl rfl rfl rfl rfl rfl rfl zen ?_;refine CNQR ?_;refine A0 mP ?_;refine qax ?_;refine xc ?_;refine A0 (oFp zr4) ?_;refine zZ rfl rfl rfl rfl rfl rfl rfl rfl rfl rfl ty_3 ?_;refine CNQR ?_;refine qad ?_;refine zbn rfl ?_;refine A0 oN ?_;refine qad ?_;refine Cg ?_;refine CS ?_;refine CI ?_;refine CI ?_;refine xz ?_;exact Nx ((zbB v n (a-1),n,l++[((zbB v n (a-1):Nat):Int)])) (hwn) ybq
 refine qb1 ?_;refine A0 (oCl (mayV_ok v) rfl fn_164 yf) ?_;refine Sp (d:=11) (p:=mayV v=true) (fun g11=>?_) (fun g11=>?_)
 ·
  refine A0 oN ?_;refine qax ?_;refine A1 mV ?_;refine A1 zb2 ?_;refine Sp (d:=15) (p:=low<0) (fun g15=>?_) (fun g15=>?_)
  ·
   refine qbd ?_;refine qbd ?_;refine qco ?_;refine Ct ?_;refine qbp ?_;exact zV rfl rfl yaj (za rfl (show zao v high low=false from by unfold zao;rw[uh yc,Bool.and_false]).symm)
  refine qal ?_;refine qca ?_;refine A1 zc1 ?_;refine Sp (d:=20) (p:=high<low) (fun g20=>?_) (fun g20=>?_)
  ·
   refine qbd ?_;refine qco ?_;refine Ct ?_;refine qbp ?_;exact zV rfl rfl yaj (za rfl (show zao v high low=false from by unfold zao;rw[uh yc,Bool.and_false]).symm)
  refine qal ?_;refine qca ?_;refine A1 (zW rfl rfl zcX) ?_;refine A1 zfd ?_;refine qaw ?_;refine Cf (p:=(v.length:Int)≤high) (fun ht27=>?_) (fun ht27=>?_)
  ·
   refine qbp ?_;exact zV rfl rfl yaj (za rfl (show zao v high low=false from by unfold zao;rw[uh yc,Bool.and_false]).symm)
  have hok:zao v high low=true:=by unfold zao;rw[g11,Bool.true_and];exact ui yc
  refine CSQR ?_;refine qao ?_;refine qax ?_;refine zce (T:=i64T) (xs:=[_]) rfl rfl rfl rfl zbR zeo yB rfl rfl ?_;refine zvP [.tmp 28,.tmp 29,.const (.int .i64 (31)),.tmp 31] (fun e w h=>build_walk rfl e w h) rfl rfl rfl rfl rfl rfl rfl rfl rfl ?_;refine A0 aP ?_;refine CNQR ?_;refine A0 mP ?_;refine A0 (g_mkbp rfl rfl) ?_;refine A0 (g_mb (.inr rfl) rfl) ?_;refine CNQ ?_;exact zsm hreach (()) rfl (hok) rfl (by (repeat refine Fr.le_set ?_ yaw);exact Fr.le_none _) (by (repeat refine Hp.le_set ?_ rfl);exact Hp.le_none _) (by (repeat refine Fr.below_setB ?_ rfl);exact Fr.below_none _) (by (repeat refine Hp.below_set ?_ yp);exact Hp.below_none _)
 refine A0 oN ?_;refine qax ?_;refine A2 ?_;refine A2 ?_;refine qbd ?_;refine qbd ?_;refine qco ?_;refine Ct ?_;refine qbp ?_;exact zV rfl rfl (by rw[zk5 (show zao v high low=false from by unfold zao;rw[Bool.eq_false_iff.2 g11];rfl)];exact zp rfl) (za rfl (show zao v high low=false from by unfold zao;rw[Bool.eq_false_iff.2 g11];rfl).symm)
theorem union_ok (a b:List Int) (h:a.length+b.length≤1000000):Tells P 166 [.val (bsl i64T) a,.val (bsl i64T) b] (.fresh 3 i64T (zjK a b)):=by
 refine zc Tryz.func166 rfl rfl rfl (fun ext w hext=>?_);refine ze (d:=0) rfl zk (fun hsl0=>?_);refine ze (d:=1) rfl zk (fun hsl1=>?_);refine qbD ?_;refine qao ?_;refine A0 (zX (T:=(bsl i64T)) (xs:=[_,_]) rfl sl_347 row_347 y4 rfl rfl) ?_;refine zaD (concatInt [a,b] yx) rfl fn_216 yf rfl rfl rfl ?_;refine A0 aO ?_;refine CNQ ?_;refine zA (n:=0) (y:=a++b) rfl yy ?_;refine CR ?_;refine A0 mO ?_;refine zgT (zp4 (a++b) yx) rfl fn_217 rfl trivial trivial rfl ⟨yi,trivial⟩ rfl rfl rfl ?_;refine CNQR ?_;refine A0 mO ?_;refine zxD (compactInt (zaY (a++b)) (by rw[znR];simp;omega)) rfl fn_218 rfl trivial ⟨yi,trivial⟩ rfl rfl rfl ?_;refine qbm ?_;exact zb rfl rfl (zh rfl rfl rfl)
theorem both_ok (a b:List Int) (h:a.length+b.length≤1000000):Tells P 96 [.val (bsl i64T) a,.val (bsl i64T) b] (.fresh 3 i64T (zjK a b)):=by
 refine zc Tryz.func96 rfl rfl rfl (fun ext w hext=>?_);refine ze (d:=0) rfl zk (fun hsl0=>?_);refine ze (d:=1) rfl zk (fun hsl1=>?_);refine qbD ?_;refine qao ?_;refine zaD (union_ok a b h) rfl fn_166 yl rfl rfl rfl ?_;refine qbm ?_;exact zb rfl rfl (zh rfl rfl rfl)
end Go.Proofs.YtikaeepohlkjdaaGreat
