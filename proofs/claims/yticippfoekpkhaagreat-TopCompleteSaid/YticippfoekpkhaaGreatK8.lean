/- Parts of the proof: the layer that reads Go values as data, and what the functions of the program tell. -/
import Derived.Test.YticippfoekpkhaaGreatK7
set_option linter.unusedVariables false
set_option linter.unusedSimpArgs false
set_option maxRecDepth 20000
namespace Go.Proofs.YticippfoekpkhaaGreat
open Go.Ab Go.RowKit
def zb9 (root:Total) (i:Int) (leaf:Total) (path:List Total):Wide×Bool :=
  if root.n<1∨64<root.n∨i<0∨root.n≤i∨leaf.n≠1∨(spans 0 root.n.toNat i.toNat).length≠path.length then (zav,false) else
  match chkF (spans 0 root.n.toNat i.toNat) path leaf zav with
  | some c=>if c.1=root then (c.2,true) else (zav,false)
  | none=>(zav,false)
def zqd (tip:Head) (pick:Wide) (s:Sample):Int :=
  if s.h.height≠s.i then 5 else if zat s.h=false then 4 else
  if (zb9 ⟨tip.past,tip.work,tip.height⟩ s.i (zbA s.h) s.path).2=false∨cmpW pick (zb9 ⟨tip.past,tip.work,tip.height⟩ s.i (zbA s.h) s.path).1<0∨0≤cmpW pick (addW (zb9 ⟨tip.past,tip.work,tip.height⟩ s.i (zbA s.h) s.path).1 (zbA s.h).w) then 7 else 0
def zjR (tip:Head) (picks:List Wide):List Sample→Nat→Int
  | [],_=>0
  | s::l,k=>if zqd tip (picks.getD k zav) s=0 then zjR tip picks l (k+1) else zqd tip (picks.getD k zav) s
def zgc (s:Sampling) (n:Int):Int:=if n<1∨20<n then 1 else if zat s.tip=false∨s.tip.height<1 then 4 else if (s.s.length:Int)≠n∨64<s.tip.height then 3 else zjR s.tip (zb8 (zag s.tip) s.tip.work n) s.s 0
def zhT (l:List Block) (L:List Total) (w:Wide):Sample:=⟨zoH L w,((l[(zoH L w).toNat]?).map (·.h)).getD zhC,zmc L (spans 0 L.length (zoH L w).toNat)⟩
def zcG (l:List Block) (n:Int):Int:=if (zM l).2≠0 then (zM l).2 else if n<1∨20<n∨l.length<2 then 1 else 0
def zd1 (l:List Block) (n:Int):Sampling:=if zcG l n=0 then ⟨(zM l).1.b.h,(zb8 (zag (zM l).1.b.h) (zM l).1.b.h.work n).map (zhT l (zQ (l.take (l.length-1))))⟩ else zhG
theorem sbuild_is {l:List Block} {n:Int} (h:zcG l n=0):(zM l).2=0∧1≤n∧n≤20∧2≤l.length:=by
  unfold zcG at h
  split at h
  · rename_i c;exact absurd h c
  rename_i c
  split at h
  · exact absurd h yn
  rename_i d;exact⟨ua c,by omega,by omega,by omega⟩
theorem zsV {l:List Block} {t:Tip} {k:Nat} {b:Block} (h:Chain l t) (hb:l[k]?=some b):b.h.height=(k:Int)∧zat b.h=true:=by
  obtain⟨hk,_⟩:=ul.1 hb;obtain⟨t',h1,_⟩:=zgQ h (i:=k+1) ya ya;obtain⟨c1,c2,_,_,_⟩:=zch h1;have hlen:(l.take (k+1)).length=k+1:=ybd;rw[List.getLast?_eq_getElem?,hlen,Nat.add_sub_cancel,List.getElem?_take,if_pos ya,hb] at c1;injection c1 with c1;refine⟨by rw[c1,c2,hlen];omega,?_⟩;cases k with
  | succ k =>
    obtain⟨g,hg0⟩:∃g,l[0]?=some g:=yo;obtain⟨a,ha⟩:∃a,l[k]?=some a:=yo;exact(zb5 h (i:=k+1) ya hb (by simpa using ha) hg0).2.2.2.2.2.2.2
  | zero =>
    have e:l.take (0+1)=[b]:=by
      rw[un,List.take_zero,hb];rfl
    rw[e] at h1;obtain⟨o1,o2,_⟩:=zim h1;rw[o2];show zat (zf4 b.h.bits)=true;unfold zat zK;rw[if_pos ⟨o1,rfl⟩,if_pos (show(zf4 b.h.bits).height=0 from rfl)];rfl
theorem seg_all {L:List Total}:seg L 0 L.length=L:=by unfold seg;rw[List.drop_zero,List.take_length]
theorem seg_zero {L:List Total} {k:Nat}:seg L 0 k=L.take k:=by unfold seg;rw[List.drop_zero]
theorem zot {L:List Total} {k:Nat} {x:Total} (h:L[k]?=some x):wsum (L.take (k+1))=wsum (L.take k)+nW x.w:=by
  rw[un,h,zpW];simp[wsum]
theorem pick_at {l:List Block} {t:Tip} {m:Nat} {n:Int} {w:Wide} (h:Chain l t) (hm:l.length=m+2) (hw:w∈zb8 (zag t.b.h) t.b.h.work n) :
    ∃(k:Nat) (b:Block),k<m+1∧l[k]?=some b∧(zQ (l.take (m+1)))[k]?=some (zbA b.h)∧w.length=4∧zoH (zQ (l.take (m+1))) w=(k:Int)∧wsum ((zQ (l.take (m+1))).take k)≤nW w∧nW w<wsum ((zQ (l.take (m+1))).take (k+1))∧wsum ((zQ (l.take (m+1))).take (k+1))<W256:=by
  obtain⟨a1,a2,a3,a4,a5,a6,a7,a8,a9⟩:=zhs h hm;obtain⟨i,hi⟩:=List.mem_iff_getElem?.1 hw;obtain⟨e,hz,_⟩:=picks_at hi;obtain⟨w4,wlt⟩:=pickN_lt (seed:=zag t.b.h) (i:=i) a5 hz;rw[←e] at w4 wlt;have hL:Leafs (zQ (l.take (m+1))):=by rw[zcE];exact(zjw h).take
  have hlen:(zQ (l.take (m+1))).length=m+1:=by unfold zQ;rw[List.length_map,um];omega
  have hws:=zli h;have hcut:=zg1 (zQ l) (m+1);rw[←zcE] at hcut;rcases loc_spec w4 (fun x hx=>(hL x hx).2) with ⟨_,g⟩|⟨k,g1,g2,g3,g4,g5⟩
  · have:=g ya;omega
  obtain⟨b,hb⟩:∃b,l[k]?=some b:=yo;refine⟨k,b,by omega,hb,?_,w4,g2,g3,g4,g5⟩;unfold zQ;rw[List.getElem?_map,List.getElem?_take,if_pos ya,hb];rfl
theorem samp_ok {l:List Block} {t:Tip} {m:Nat} {n:Int} {w:Wide} (h:Chain l t) (hm:l.length=m+2) (hw:w∈zb8 (zag t.b.h) t.b.h.work n):zqd t.b.h w (zhT l (zQ (l.take (m+1))) w)=0:=by
  obtain⟨k,b,k1,k2,k3,w4,k4,k5,k6,k7⟩:=pick_at h hm hw;obtain⟨a1,a2,a3,a4,a5,a6,a7,a8,a9⟩:=zhs h hm;obtain⟨L,hLd⟩:∃L,L=zQ (l.take (m+1)):=⟨_,rfl⟩;have hL:Leafs L:=by rw[hLd,zcE];exact(zjw h).take
  have hlen:L.length=m+1:=by rw[hLd];unfold zQ;rw[List.length_map,um];omega
  have h48:=(zch h).2.2.1;have hws:wsum L<W256:=by
    have:=zli h
    have hcut:=zg1 (zQ l) (m+1);rw[←zcE,←hLd] at hcut;omega
  rw[←hLd] at a2 a3 a4 k3 k4 k5 k6 k7 ⊢;have es:zhT l L w=⟨(k:Int),b.h,zmc L (spans 0 L.length k)⟩:=by
    unfold zhT;rw[k4,Int.toNat_natCast,k2];rfl
  have hroot:(⟨t.b.h.past,t.b.h.work,t.b.h.height⟩:Total)=wholeT L:=by
    rw[a1,a2,a3,←a4]
  obtain⟨u,u1,u2,u3⟩:=way_up hL ya hws k3 (m+1) 0 ya ya ya ya;rw[←hlen,seg_all] at u1;rw[Nat.sub_zero,seg_zero] at u3;obtain⟨hh1,hh2⟩:=zsV h k2;have hc:zb9 ⟨t.b.h.past,t.b.h.work,t.b.h.height⟩ (k:Int) (zbA b.h) (zmc L (spans 0 L.length k))=(u,true):=by
    have hn:(wholeT L).n=((L.length:Nat):Int):=by rw[a4,hlen]
    rw[hroot];unfold zb9;rw[hn,Int.toNat_natCast,Int.toNat_natCast,if_neg (by
      unfold zmc;rw[List.length_map,show(zbA b.h).n=1 from rfl];omega),u1]
    simp
  have hx4:(zbA b.h).w.length=4:=(hL _ (ud k3)).2;have hts:=zot k3;rw[es];unfold zqd;simp only[];rw[hc,if_neg (fun e=>e hh1),if_neg (by rw[hh2];decide),if_neg]
  rintro (e|e|e)
  · cases e
  · have:=(cmp_neg w4 u2).1 e
    omega
  have e:0≤cmpW w (addW u (zbA b.h).w):=e;have e':¬cmpW w (addW u (zbA b.h).w)<0:=ya;refine e' ((cmp_neg w4 (ze9 u2 hx4)).2 ?_);rw[zpm u2 hx4,u3,←hts,Nat.mod_eq_of_lt k7];exact k6
theorem zrY {tip:Head} {picks:List Wide} {f:Wide→Sample}:∀(ps:List Wide) (k:Nat),ps=picks.drop k→(∀w∈ps,zqd tip w (f w)=0)→zjR tip picks (ps.map f) k=0
  | [],_,_,_=>rfl
  | w::ps,k,h,hs=>by
    have hk:picks.getD k zav=w:=by
      have:picks[k]?=some w:=by
        have:=congrArg (·[0]?) h
        simpa [List.getElem?_drop] using this.symm
      rw[uq,this];rfl
    rw[List.map_cons,zjR,hk,if_pos (hs w yB)];refine zrY ps (k+1) ?_ fun v hv=>hs v (by simp[hv])
    have:=congrArg List.tail h
    rw[List.tail_cons,List.tail_drop] at this;exact this
theorem zrX {l:List Block} {n:Int} (h:zcG l n=0):∃(t:Tip) (m:Nat),zM l=(t,0)∧Chain l t∧l.length=m+2∧1≤n∧n≤20∧zd1 l n=⟨t.b.h,(zb8 (zag t.b.h) t.b.h.work n).map (zhT l (zQ (l.take (m+1))))⟩∧((zb8 (zag t.b.h) t.b.h.work n).length:Int)=n:=by
  obtain⟨h1,h2,h3,h4⟩:=sbuild_is h;refine⟨(zM l).1,l.length-2,by rw[←h1],ze6 h1,by omega,h2,h3,?_,?_⟩
  · unfold zd1
    rw[if_pos h,show l.length-2+1=l.length-1 by omega]
  obtain⟨_,_,_,_,_,_,a7,_,_⟩:=zhs (ze6 h1) (n:=l.length-2) ya;exact zsd ⟨h2,h3,fun e=>by rw[e,zk0] at a7;omega⟩
theorem holds {l:List Block} {n:Int} (h:zcG l n=0):zgc (zd1 l n) n=0∧((zd1 l n).s.length:Int)=n∧(∃b,l[l.length-1]?=some b∧(zd1 l n).tip=b.h)∧∀other,other≠n→zgc (zd1 l n) other≠0:=by
  obtain⟨t,m,h0,h1,h2,h3,h4,h5,h6⟩:=zrX h;obtain⟨a1,a2,a3,a4,a5,a6,a7,a8,a9⟩:=zhs h1 h2;have h48:=(zch h1).2.2.1;have hlen:((zd1 l n).s.length:Int)=n:=by rw[h5];simp only[List.length_map];exact h6
  have htip:(zd1 l n).tip=t.b.h:=by rw[h5]
  refine⟨?_,hlen,⟨t.b,by rw[h2];exact a9,htip⟩,fun other ho=>?_⟩
  · unfold zgc
    rw[if_neg ya,htip,a8,a1,if_neg (fun h=>h.elim (fun h=>by cases h) (fun h=>by omega)),if_neg ya,h5];exact zrY _ 0 rfl fun w hw=>samp_ok h1 h2 hw
  unfold zgc;rw[hlen,htip,a8,a1];by_cases c:other<1∨20<other
  · rw[if_pos c];decide
  rw[if_neg c,if_neg (fun h=>h.elim (fun h=>by cases h) (fun h=>by omega)),if_pos (.inl fun e=>ho e.symm)];decide
set_option maxRecDepth 20000
def swp {α:Type} [Inhabited α] (l:List α) (k:Nat):List α:=(List.range l.length).map fun j=>if j<k∨l.length-k≤j then l.getD (l.length-1-j) default else l.getD j default
theorem zja {α:Type} [Inhabited α] {l:List α} {k:Nat}:(swp l k).length=l.length:=by unfold swp;simp
theorem zoZ {α:Type} [Inhabited α] {l:List α} {k j:Nat} (h:j<l.length):(swp l k)[j]?=some (if j<k∨l.length-k≤j then l.getD (l.length-1-j) default else l.getD j default):=by
  unfold swp;rw[List.getElem?_map,List.getElem?_range h];rfl
theorem swp_zero {α:Type} [Inhabited α] {l:List α}:swp l 0=l:=by
  apply List.ext_getElem?;intro j;by_cases h:j<l.length
  · rw[zoZ h,if_neg ya,uq,ub h];rfl
  rw[List.getElem?_eq_none (by rw[zja];omega),List.getElem?_eq_none ya]
theorem swp_step {α:Type} [Inhabited α] {l:List α} {k:Nat} {x y:α} (hk:2*(k+1)≤l.length) (hx:(swp l k)[k]?=some x) (hy:(swp l k)[l.length-1-k]?=some y):((swp l k).set k y).set (l.length-1-k) x=swp l (k+1):=by
  rw[zoZ ya,if_neg ya] at hx;rw[zoZ ya,if_neg ya] at hy;injection hx with hx;injection hy with hy;apply List.ext_getElem?;intro j;by_cases h:j<l.length
  · rw[zoZ h,List.getElem?_set]
    by_cases c:l.length-1-k=j
    · rw[if_pos c,if_pos (by rw[List.length_set,zja];omega),if_pos ya,←hx]
      congr 2;omega
    rw[if_neg c,List.getElem?_set];by_cases d:k=j
    · rw[if_pos d,if_pos (by rw[zja];omega),if_pos ya,←hy]
      congr 2;omega
    rw[if_neg d,zoZ h];by_cases e:j<k∨l.length-k≤j
    · rw[if_pos e,if_pos ya]
    rw[if_neg e,if_neg ya]
  rw[List.getElem?_eq_none (by rw[List.length_set,List.length_set,zja];omega),List.getElem?_eq_none (by rw[zja];omega)]
theorem swp_end {α:Type} [Inhabited α] {l:List α} {k:Nat} (h1:2*k≤l.length) (h2:¬(k:Int)<(l.length:Int)-1-k):swp l k=l.reverse:=by
  apply List.ext_getElem?;intro j;by_cases h:j<l.length
  · rw[zoZ h,List.getElem?_reverse h,ub ya]
    congr 1
    split
    · rw[uq,ub ya];rfl
    have e:j=l.length-1-j:=ya;rw[uq,ub ya];show l[j]=_;congr 1
  rw[List.getElem?_eq_none (by rw[zja];omega),List.getElem?_eq_none (by rw[List.length_reverse];omega)]
def zgy (s:Nat×Nat×Bool):MStep:=⟨⟨s.1,s.2.1⟩,s.2.2⟩
def zbp (n i:Nat):List MStep:=(spans 0 n i).map zgy
theorem spans_go {f m i:Nat} (h:2≤m):(spans f m i).reverse.map zgy=(if i<f+halfN m then [zgy (f+halfN m,m-halfN m,true)]++(spans f (halfN m) i).reverse.map zgy else [zgy (f,halfN m,false)]++(spans (f+halfN m) (m-halfN m) i).reverse.map zgy):=by
  conv=>lhs;rw[spans]
  rw[dif_neg ya]
  split<;>simp
theorem zm2 {f m i:Nat} (h:¬2≤m):spans f m i=[]:=by rw[spans,dif_pos ya]
theorem spans_in:∀{m f i:Nat},∀s∈spans f m i,f≤s.1∧s.1+s.2.1≤f+m∧1≤s.2.1:=by
  intro m
  induction m using Nat.strongRecOn with
  | ind m ih =>
    intro f i s hs;by_cases c:2≤m
    · have hp:=zeq m
      have hlt:=zfx c;rw[spans,dif_neg ya] at hs
      split at hs
      · rcases List.mem_append.1 hs with h|h
        · have:=ih (halfN m) hlt s h;omega
        rw[List.mem_singleton.1 h];simp only[];omega
      rcases List.mem_append.1 hs with h|h
      · have:=ih (m-halfN m) ya s h;omega
      rw[List.mem_singleton.1 h];simp only[];omega
    rw[zm2 c] at hs;cases hs
theorem zrO:∀{m f i:Nat},(spans f m i).length≤m:=by
  intro m
  induction m using Nat.strongRecOn with
  | ind m ih =>
    intro f i;by_cases c:2≤m
    · have hp:=zeq m
      have hlt:=zfx c;rw[spans,dif_neg ya]
      split
      · have:=ih (halfN m) hlt (f:=f) (i:=i);rw[ue,List.length_singleton];omega
      have:=ih (m-halfN m) ya (f:=f+halfN m) (i:=i);rw[ue,List.length_singleton];omega
    rw[zm2 c];simp
def zh0 (l:List Total) (i:Int):Bool:=decide (l.length≤64∧0≤i∧i<l.length)
def ziY (l:List Total) (i:Int):List Total:=if zh0 l i=true then zmc l (spans 0 l.length i.toNat) else []
theorem zvc (n:Nat) (h:2≤n) (hn:n<4398046511104):Tells P 144 [.val i64T (n:Int)] (.val i64T (halfN n:Nat)):=by
 obtain⟨hb1,hb2⟩:=zpK h hn;refine zc Tryz.func144 rfl rfl rfl (fun ext w hext=>?_);refine zf (d:=0) rfl zt (fun hin0=>?_);refine qbV ?_;refine A0 zbh ?_;refine qcm ?_;refine A0 (oCl (lenU_ok _) rfl fn_185 yd) ?_;refine A0 zbh ?_;refine A0 (g_shlI rfl rfl rfl ya6 rfl) ?_;refine qad ?_;exact zb rfl rfl (za rfl (half_eq h hn))
theorem revStep (l:List MStep) (hl:l.length≤1000000000000):zee P 145 (.row 177 zft l) [.own 0] (.lit (.tuple #[])) (.row 177 zft l.reverse):=by
 refine zeD trivial Tryz.func145 rfl rfl ⟨Nat.one_pos,trivial⟩ (fun ext pg w hext hgr=>?_);refine zgT (n:=0) rfl (fun hrl=>?_);refine qb3 ?_;refine A0 (zaV rfl rfl rfl zqD) ?_;refine A0 zbh ?_;refine A0 aV ?_;refine A0 aV ?_;refine CNB ?_;refine zz (n:=0) (y:=swp l 0) rfl swp_zero.symm ?_;refine zj (d:=3) (y:=(l.length:Int)-1-((0:Nat):Int)) rfl ya ?_;refine Lp (ι:=Nat) 1 (fun (k:Nat)=>(((Fr.none).set 0 (.own 0)).set 2 (.val i64T (k:Int))).set 3 (.val i64T ((l.length:Int)-1-k))) (fun (k:Nat)=>(Hp.none).set 0 (.row 177 zft (swp l k))) (fun (k:Nat)=>2*k≤l.length) (fun (k:Nat)=>l.length-k) (0) (uf _) ?_;intro k hinv;refine CQQR ?_;refine qaq ?_;refine qaT ?_;refine Cf (p:=(k:Int)<(l.length:Int)-1-k) (fun ht9=>?_) (fun ht9=>?_)
 ·
  have hsl:=zja (l:=l) (k:=k);obtain⟨x,hx⟩:∃x,(swp l k)[k]?=some x:=yo;obtain⟨y,hy⟩:∃y,(swp l k)[l.length-1-k]?=some y:=yo;have hsl2:((swp l k).set k y).length=l.length:=by rw[List.length_set,hsl]
  have hy2:((swp l k).set k y)[l.length-1-k]?=some y:=by rw[List.getElem?_set_ne ya];exact hy
  refine CS ?_;refine CQ ?_;refine CB ?_;refine zC [some 1,some 1,some 1000001,some 1000001,some 1,some 1,some 1,some 1,some 1,some 1,some 1,some 1,some 1,none,some 1,none] mixed yc ?_;refine qcf ?_;refine XK.ga (fun _=>g_mo (.inl rfl) rfl) rfl rfl rfl ?_;refine XK.ga (fun _=>g_mv (.inl rfl) rfl) rfl rfl rfl ?_;refine qcf ?_;refine X0 (zdc (i:=l.length-1-k) rfl rfl rfl rfl ym zlD yh) ?_;refine X0 (zbR rfl rfl rfl rfl yj (Lens.self _) zly) ?_;refine qcf ?_;refine X0 (zdc (i:=k) rfl rfl rfl rfl ym zlD yh) ?_;refine X0 (zbR rfl rfl rfl rfl yj (Lens.self _) zly) ?_;refine X0 (zdc (i:=k) rfl rfl rfl rfl ym zlD yh) ?_;refine XK.e (x:=.idk) (fun fr' hfr kk H=>by exact zdF rfl rfl rfl ((hfr 26 yc).trans rfl) rfl rfl yj (Lens.self _) zly ((hfr 21 yc).trans rfl) (zr H)) ?_;refine X0 (zdc (i:=l.length-1-k) rfl rfl rfl rfl ym zlD yh) ?_;refine XK.e (x:=.idk) (fun fr' hfr kk H=>by exact zdF rfl rfl rfl ((hfr 27 yc).trans rfl) rfl rfl yj (Lens.self _) zly ((hfr 25 yc).trans rfl) (zr H)) ?_;refine XK.nil' ?_;refine CI ?_;refine CR ?_;refine qaW ?_;refine qbI ?_;refine qbu ?_;refine zz (n:=0) (y:=swp l (k+1)) rfl (swp_step ya hx hy) ?_;refine zj (d:=3) (y:=(l.length:Int)-1-((k+1:Nat):Int)) rfl ya ?_;exact Nx (k+1) ya ya
 refine CE ?_;exact zoh rfl rfl rfl rfl rfl (zvs rfl (swp_end hinv ht9))
theorem zuL (n q:Nat) (hn:n≤1000000000000):Tells P 90 [.val i64T (n:Int),.val i64T (q:Int)] (.fresh 177 zft (zbp n q)):=by
 refine zc Tryz.func90 rfl rfl rfl (fun ext w hext=>?_);refine zf (d:=0) rfl zt (fun hin0=>?_);refine zf (d:=1) rfl zt (fun hin1=>?_);refine qbv ?_;refine A0 aL ?_;refine qaN ?_;refine A0 (zu rfl zjD bd_175 (.cons zf8 zb6 ty_3 rfl (.cons zf7 zcK ty_3 rfl .nil)) rfl) ?_;refine zq zjD rfl rfl rfl rfl ?_;refine zg rfl rfl rfl rfl rfl (Lens.self _) zfm rfl ?_;refine CNB ?_;refine zcJ (T:=zft) (d:=5) 177 rfl ?_;refine Lp (ι:=List MStep×Nat×Nat) 2 (fun(out,f,m)=>((Fr.none.set 1 (.val i64T (q:Int))).set 5 (.own 1)).set 6 (.ptr 0 0)) (fun(out,f,m)=>(Hp.none.set 0 (.box 175 zp9 ⟨(f:Int),(m:Int)⟩)).set 1 (.row 177 zft out)) (fun(out,f,m)=>f+m≤n∧(spans 0 n q).reverse.map zgy=out++(spans f m q).reverse.map zgy) (fun(out,f,m)=>m) (([],0,n)) (⟨by omega,rfl⟩) ?_;intro⟨out,f,m⟩ hinv;dsimp only at hinv;have hol:out.length≤n:=by have h1:=congrArg List.length hinv.2;have h2:=zrO (m:=n) (f:=0) (i:=q);simp at h1;omega
 refine CQQR ?_;refine A0 (oFp zf7) ?_;refine A0 (oLb zcK ty_3) ?_;refine qcs ?_;refine Cf (p:=2≤m) (fun ht14=>?_) (fun ht14=>?_)
 ·
  have hp:=zeq m;have hlt:=zfx ht14;have hgo:=spans_go (f:=f) (i:=q) ht14;refine CSQBQR ?_;refine A0 (oFp zf7) ?_;refine A0 (oLb zcK ty_3) ?_;refine A0 (oCl (zvc m ya ya) rfl fn_144 yd) ?_;refine qaA ?_;refine zrc 14 (.box 175 zp9 zSpan) [some 1000001,some 1000001,some 1000001,some 1000001,some 1000001,some 1000001,some 1000001,some 1000001,some 1000001,some 1000001,some 1000001,some 1000001,some 1000001,none,some 1000002,none,none] mixed yc rfl ?_;refine XKF.ga rfl (fun _=>zf3 rfl rfl zf8 rfl) rfl rfl rfl rfl ?_;refine XKF.gf (t:=18) rfl rfl rfl (fun _ he=>zs rfl rfl he zb6 ty_3) rfl rfl ⟨rfl,trivial⟩ rfl rfl rfl ?_;refine XKF.ga rfl (fun _=>g_mv (.inl rfl) rfl) rfl rfl rfl rfl ?_;refine XKF.ga rfl (fun _=>zu rfl zjD bd_175 (.cons zf8 zb6 ty_3 rfl (.cons zf7 zcK ty_3 rfl .nil)) rfl) rfl rfl rfl rfl ?_;refine XKF.ga rfl (fun _=>zf3 rfl rfl zf8 rfl) rfl rfl rfl rfl ?_;refine XKF.gf (t:=22) rfl rfl rfl (fun _ he=>zs rfl rfl he zb6 ty_3) rfl rfl ⟨rfl,trivial⟩ rfl rfl rfl ?_;refine XKF.ga rfl (fun _=>g_mv (.inl rfl) rfl) rfl rfl rfl rfl ?_;refine XKF.ga rfl (fun _=>g_add rfl rfl rfl (show _=(((f+halfN m:Nat):Int):Int) from(show IntKind.i64.wrap ((f:Int)+(halfN m:Int))=_ from(zaz ya).trans ya))) rfl rfl rfl rfl ?_;refine XKF.ga rfl (fun _=>zf3 rfl rfl zf7 rfl) rfl rfl rfl rfl ?_;refine XKF.gf (t:=26) rfl rfl rfl (fun _ he=>zs rfl rfl he zcK ty_3) rfl rfl ⟨rfl,trivial⟩ rfl rfl rfl ?_;refine XKF.ga rfl (fun _=>g_mv (.inl rfl) rfl) rfl rfl rfl rfl ?_;refine XKF.ga rfl (fun _=>zsy rfl rfl rfl (show _=(((m-halfN m:Nat):Int):Int) from(show IntKind.i64.wrap ((m:Int)-(halfN m:Int))=_ from(zaz ya).trans ya))) rfl rfl rfl rfl ?_;refine XKF.ga rfl (fun _=>zu rfl zjD bd_175 (.cons zf8 zb6 ty_3 rfl (.cons zf7 zcK ty_3 rfl .nil)) rfl) rfl rfl rfl rfl ?_;refine XKF.e rfl (fun fr' hfr kk H=>by exact zq zjD rfl rfl rfl rfl (zr H)) (EffA.conv (fun fr' hfr kk H=>by exact zq zjD rfl rfl rfl rfl (zr H)) yaH) yaq yaq yaq (by (repeat refine zkC ?_ rfl);exact fun _ _=>rfl) ?_;refine XKF.f rfl zjD rfl rfl rfl rfl rfl rfl ?_;refine XKF.ew (x:=.idk) rfl yc (fun fr' hfr kk H=>by exact zg rfl rfl rfl ((hfr 8 yc).trans rfl) rfl (Lens.self _) zfm ((hfr 21 yc).trans rfl) (zr H)) yaq (by (repeat refine zkC ?_ rfl);exact fun _ _=>rfl) ?_;refine XKF.ew (x:=.idk) rfl yc (fun fr' hfr kk H=>by exact zg rfl rfl rfl ((hfr 9 yc).trans rfl) rfl (Lens.self _) zfm ((hfr 30 yc).trans rfl) (zr H)) yaq (by (repeat refine zkC ?_ rfl);exact fun _ _=>rfl) ?_;refine XKF.nilp ⟨⟨hpB rfl rfl,hpB rfl rfl,hpB rfl rfl,trivial⟩,⟨hpB rfl rfl,hpB rfl rfl,hpB rfl rfl,trivial⟩,⟨hpB rfl rfl,hpB rfl rfl,hpB rfl rfl,trivial⟩,trivial⟩ ?_;refine qa6 ?_;refine A0 (oFp zf8) ?_;refine A0 (oLb zb6 ty_3) ?_;refine qaT ?_;refine Cf (p:=q<f+halfN m) (fun ht34=>?_) (fun ht34=>?_)
  ·
   rw[if_pos ht34] at hgo;refine zC [some 1,some 1,some 1,some 1,none,some 2,some 1,none] mixed yc ?_;refine X0 mO ?_;refine X0 (oLs rfl rfl rfl zfm) ?_;refine X0 (zu rfl zuu bd_177 (.cons ziG zdL zfm rfl (.cons zqO ziu ty_4 rfl .nil)) rfl) ?_;refine X0 (zL (T:=zft) (xs:=[_]) rfl zlD zqf yx rfl rfl) ?_;refine XK.e (fun fr' hfr kk H=>by exact zN rfl rfl rfl rfl ((hfr 35 yc).trans rfl) rfl ((hfr 38 yc).trans rfl) zqf yam (zr H)) ?_;refine XK.gb (t:=8) rfl rfl (fun _ he=>zs rfl rfl he (Lens.self _) zfm) rfl ⟨hpB rfl rfl,hpB rfl rfl,trivial⟩ rfl rfl rfl ?_;refine X0 aO ?_;refine XK.e (x:=.idk) (fun fr' hfr kk H=>by exact zg rfl rfl rfl ((hfr 6 yc).trans rfl) rfl (Lens.self _) zfm ((hfr 40 yc).trans rfl) (zr H)) ?_;refine XK.nil' ?_;refine CI ?_;refine CQR ?_;refine A0 (oLs rfl rfl rfl zfm) ?_;refine CNR ?_;refine zq zjD rfl rfl rfl rfl ?_;refine zg rfl rfl rfl rfl rfl (Lens.self _) zfm rfl ?_;refine CN ?_;refine zrb 0 ?_;refine zaS 5 0 6 rfl rfl rfl rfl rfl rfl ?_;refine zaS 4 1 6 rfl rfl rfl rfl rfl rfl ?_;exact Nx ((out++[zgy (f+halfN m,m-halfN m,true)],f,halfN m)) yaK (by first|(show halfN m<m;omega)|(show m-halfN m<m;omega))
  rw[if_neg ht34] at hgo;refine zC [some 1,some 1,some 1,some 1,none,some 2,some 1,none] mixed yc ?_;refine X0 mO ?_;refine X0 (oLs rfl rfl rfl zfm) ?_;refine X0 (zu rfl zuu bd_177 (.cons ziG zdL zfm rfl (.cons zqO ziu ty_4 rfl .nil)) rfl) ?_;refine X0 (zL (T:=zft) (xs:=[_]) rfl zlD zqf yx rfl rfl) ?_;refine XK.e (fun fr' hfr kk H=>by exact zN rfl rfl rfl rfl ((hfr 41 yc).trans rfl) rfl ((hfr 44 yc).trans rfl) zqf yam (zr H)) ?_;refine XK.gb (t:=9) rfl rfl (fun _ he=>zs rfl rfl he (Lens.self _) zfm) rfl ⟨hpB rfl rfl,hpB rfl rfl,trivial⟩ rfl rfl rfl ?_;refine X0 aO ?_;refine XK.e (x:=.idk) (fun fr' hfr kk H=>by exact zg rfl rfl rfl ((hfr 6 yc).trans rfl) rfl (Lens.self _) zfm ((hfr 46 yc).trans rfl) (zr H)) ?_;refine XK.nil' ?_;refine CI ?_;refine CQR ?_;refine A0 (oLs rfl rfl rfl zfm) ?_;refine CNR ?_;refine zq zjD rfl rfl rfl rfl ?_;refine zg rfl rfl rfl rfl rfl (Lens.self _) zfm rfl ?_;refine CN ?_;refine zrb 0 ?_;refine zaS 5 0 6 rfl rfl rfl rfl rfl rfl ?_;refine zaS 4 1 6 rfl rfl rfl rfl rfl rfl ?_;exact Nx ((out++[zgy (f,halfN m,false)],f+halfN m,m-halfN m)) yaK (by first|(show halfN m<m;omega)|(show m-halfN m<m;omega))
 refine CE ?_;refine qb3 ?_;refine zgf (revStep out ya) rfl fn_145 rfl trivial trivial rfl ⟨ye,trivial⟩ rfl rfl rfl ?_;refine CNQR ?_;refine A0 mO ?_;refine qbm ?_;exact zb rfl rfl (zh rfl rfl (by rw[zm2 ht14] at hinv;unfold zbp;rw[show out=(spans 0 n q).reverse.map zgy by rw[hinv.2];simp,List.map_reverse,List.reverse_reverse]))
theorem zp0 (l:List Total) (h1:1≤l.length) (hl:l.length<4398046511104):Tells P 91 [.val (bsl zah) l] (.val zah (wholeT l)):=by
 refine zc Tryz.func91 rfl rfl rfl (fun ext w hext=>?_);refine zf (d:=0) rfl zl (fun hsl0=>?_);refine CQR ?_;refine qbC ?_;refine qaN ?_;refine xw ?_;refine A0 zcw ?_;refine CN ?_;refine Cf (p:=l.length=1) (fun ht6=>?_) (fun ht6=>?_)
 ·
  obtain⟨x,hx⟩:∃x,l[0]?=some x:=yo;refine qa6 ?_;refine A0 (zR (i:=0) rfl rfl rfl ya zfP yj) ?_;refine A0 (ze rfl rfl zbm) ?_;refine qaK ?_;refine CN ?_;exact zab rfl rfl rfl rfl zbm (by rw[wholeT,dif_pos ya];cases l with|nil=>simp at h1|cons a m=>simp at hx ⊢;exact hx.symm)
 have hp:=zeq l.length;have hh:=zfx (n:=l.length) ya;refine CSQR ?_;refine qaw ?_;refine xw ?_;refine A0 (oCl (zvc l.length ya ya) rfl fn_144 yd) ?_;refine qaA ?_;refine xm ?_;refine qb9 ?_;refine X0 yaN ?_;refine X0 (oCl (zp0 (l.take (halfN l.length)) ybd ybd) rfl fn_91 yd) ?_;refine qb9 ?_;refine X0 (zlR rfl rfl rfl zfP yh) ?_;refine X0 (oCl (zp0 (l.drop (halfN l.length)) yaU yaU) rfl fn_91 yd) ?_;refine X0 (oCl (znA (wholeT (l.take (halfN l.length))) (wholeT (l.drop (halfN l.length)))) rfl zsH yi) ?_;refine XK.e (x:=.idk) (fun fr' hfr kk H=>by exact zg rfl rfl rfl ((hfr 2 yc).trans rfl) rfl (Lens.self _) zbm ((hfr 21 yc).trans rfl) (zr H)) ?_;refine XK.nil' ?_;exact zab rfl rfl rfl rfl zbm ((zmN ya).symm)
termination_by l.length
decreasing_by
  all_goals (simp;omega)
theorem path_ok (l:List Total) (i:Int):Tells P 41 [.val (bsl zah) l,.val i64T i] (.tup2 (.fresh 130 zah (ziY l i)) (.val zn (zh0 l i))):=by
 refine zc Tryz.func41 rfl rfl rfl (fun ext w hext=>?_);refine zf (d:=0) rfl zl (fun hsl0=>?_);refine zf (d:=1) rfl zt (fun hin1=>?_);refine qap ?_;refine qam ?_;refine xw ?_;refine A0 zcq ?_;refine qaw ?_;refine Sp (d:=12) (p:=64<l.length) (fun g12=>?_) (fun g12=>?_)
 ·
  refine A2 ?_;refine qar ?_;refine qas ?_;refine Ct ?_;refine qbe ?_;exact zU rfl rfl yaj (za rfl (by unfold zh0;symm;apply uh;omega))
 refine A1 mV ?_;refine A1 zbu ?_;refine qaj ?_;refine Sp (d:=16) (p:=i<0) (fun g16=>?_) (fun g16=>?_)
 ·
  refine qbA ?_;refine qas ?_;refine Ct ?_;refine qbe ?_;exact zU rfl rfl yaj (za rfl (by unfold zh0;symm;apply uh;omega))
 refine A1 mV ?_;refine A1 mV ?_;refine A1 (zO rfl rfl zgJ) ?_;refine A1 zfR ?_;refine qas ?_;refine Cf (p:=(l.length:Int)≤i) (fun ht21=>?_) (fun ht21=>?_)
 ·
  refine qbe ?_;exact zU rfl rfl yaj (za rfl (by unfold zh0;symm;apply uh;omega))
 obtain⟨q,rfl⟩:∃q:Nat,i=q:=⟨i.toNat,by omega⟩;have hsl:(zbp l.length q).length=(spans 0 l.length q).length:=by unfold zbp;rw[List.length_map]
 have hsn:=zrO (m:=l.length) (f:=0) (i:=q);refine CSQR ?_;refine A0 aL ?_;refine qaN ?_;refine xw ?_;refine qaw ?_;refine A0 (oCl (zB (zuL l.length q ya)) rfl fn_90 yi) ?_;refine A0 (zO rfl rfl zqD) ?_;refine qa0 ?_;refine zcJ (T:=zah) (d:=6) 130 rfl ?_;refine Lp (ι:=Nat) 1 (fun k=>((((Fr.none.set 0 (.val (bsl zah) l)).set 6 (.own 0)).set 25 (.val (sl zft) (zbp l.length q))).set 26 (.val i64T ((zbp l.length q).length:Int))).set 27 (.val i64T (k:Int))) (fun k=>Hp.none.set 0 (.row 130 zah (zmc l ((spans 0 l.length q).take k)))) (fun k=>k≤(zbp l.length q).length) (fun k=>(zbp l.length q).length-k) (0) (uf _) ?_;intro k hinv;refine qal ?_;refine Cf (p:=k<(zbp l.length q).length) (fun ht28=>?_) (fun ht28=>?_)
 ·
  obtain⟨s,hs⟩:∃s,(spans 0 l.length q)[k]?=some s:=yo;have hx:(zbp l.length q)[k]?=some (zgy s):=by unfold zbp;rw[List.getElem?_map,hs];rfl
  have hin:=spans_in s (ud hs);refine CSQBQR ?_;refine A0 (zR (i:=k) rfl rfl rfl ya zlD yj) ?_;refine A0 (ze rfl rfl zly) ?_;refine zq zuu rfl rfl rfl rfl ?_;refine zg rfl rfl rfl rfl rfl (Lens.self _) zly rfl ?_;refine CNR ?_;refine A0 mO ?_;refine qaw ?_;refine A0 (oFp ziG) ?_;refine A0 (oFp zf8) ?_;refine A0 (oLb (zdL.comp zb6) ty_3) ?_;refine zj (d:=35) (y:=((s.1:Nat):Int)) rfl rfl ?_;refine A0 (oFp ziG) ?_;refine A0 (oFp zf8) ?_;refine A0 (oLb (zdL.comp zb6) ty_3) ?_;refine zj (d:=38) (y:=((s.1:Nat):Int)) rfl rfl ?_;refine A0 (oFp ziG) ?_;refine A0 (oFp zf7) ?_;refine A0 (oLb (zdL.comp zcK) ty_3) ?_;refine zj (d:=41) (y:=((s.2.1:Nat):Int)) rfl rfl ?_;refine A0 (g_add rfl rfl rfl (show _=(((s.1+s.2.1:Nat):Int):Int) from(zaz ya).trans ya)) ?_;refine A0 (g_sl_lh rfl rfl rfl rfl zfP yh) ?_;refine zj (d:=43) (y:=seg l s.1 s.2.1) rfl (by unfold seg;rw[Int.toNat_natCast,Int.toNat_natCast,List.drop_take,Nat.add_sub_cancel_left]) ?_;refine A0 (oCl (zp0 (seg l s.1 s.2.1) (by rw[zna ya];omega) (by rw[zna ya];omega)) rfl fn_91 yd) ?_;refine A0 (zL (T:=zah) (xs:=[_]) rfl zfP zhU yx rfl rfl) ?_;refine zN rfl rfl rfl rfl rfl rfl rfl zhU (by first|omega|(simp[zmc];omega)) ?_;refine qbW ?_;refine zz (n:=0) (y:=zmc l ((spans 0 l.length q).take (k+1))) rfl (by unfold zmc;rw[un,hs];simp) ?_;exact Nx (k+1) ya ya
 refine CE ?_;refine qb3 ?_;refine qcc ?_;exact zU rfl rfl (zh rfl rfl (by unfold ziY;rw[if_pos ya9,uc ya,Int.toNat_natCast])) (za rfl (by unfold zh0;symm;apply ui;omega))
theorem zdj {root leaf:Total} {i:Int} {path:List Total} (h:root.n<1∨64<root.n∨i<0∨root.n≤i∨leaf.n≠1∨(spans 0 root.n.toNat i.toNat).length≠path.length):zb9 root i leaf path=(zav,false):=by unfold zb9;rw[if_pos h]
theorem check_go {root leaf:Total} {N q:Nat} {path:List Total} (hN:root.n=(N:Int)) (h1:1≤N) (h2:N≤64) (h3:q<N) (hl:leaf.n=1) (hp:(spans 0 N q).length=path.length):zb9 root (q:Int) leaf path=match chkF (spans 0 N q) path leaf zav with
  | some c=>if c.1=root then (c.2,true) else (zav,false)
  | none=>(zav,false):=by
  unfold zb9;rw[hN,Int.toNat_natCast,Int.toNat_natCast];exact if_neg ya
theorem chk_step {sp:List (Nat×Nat×Bool)} {p:List Total} {cur:Total} {ah:Wide} {k:Nat} {s:Nat×Nat×Bool} {x:Total} (hs:sp[k]?=some s) (hx:p[k]?=some x):chkF (sp.drop k) (p.drop k) cur ah=if zfU cur.w x.w=false∨x.n≠(s.2.1:Int) then none else if s.2.2=true then chkF (sp.drop (k+1)) (p.drop (k+1)) (zfv cur x) ah else chkF (sp.drop (k+1)) (p.drop (k+1)) (zfv x cur) (addW ah x.w):=by
  obtain⟨h1,rfl⟩:=ul.1 hs;obtain⟨h2,rfl⟩:=ul.1 hx;rw[List.drop_eq_getElem_cons h1,List.drop_eq_getElem_cons h2,chkF]
theorem zq2 {sp:List (Nat×Nat×Bool)} {p:List Total} {cur:Total} {ah:Wide} {k:Nat} (h:sp.length≤k):chkF (sp.drop k) (p.drop k) cur ah=some (cur,ah):=by
  rw[List.drop_of_length_le h];cases p.drop k<;>rfl
theorem loc_yes {l:List Total} {w s:Wide} {k:Nat} {x:Total} (hx:l[k]?=some x) (h1:¬zfU s x.w=false) (h2:0<cmpW (addW s x.w) w):locF w (l.drop k) s k=(k:Int):=by
  obtain⟨h,rfl⟩:=ul.1 hx;rw[List.drop_eq_getElem_cons h,locF,if_neg h1,if_pos h2]
theorem loc_no {l:List Total} {w s:Wide} {k:Nat} {x:Total} (hx:l[k]?=some x) (h1:zfU s x.w=false):locF w (l.drop k) s k = -1:=by
  obtain⟨h,rfl⟩:=ul.1 hx;rw[List.drop_eq_getElem_cons h,locF,if_pos h1]
theorem loc_go {l:List Total} {w s:Wide} {k:Nat} {x:Total} (hx:l[k]?=some x) (h1:¬zfU s x.w=false) (h2:¬0<cmpW (addW s x.w) w):locF w (l.drop k) s k=locF w (l.drop (k+1)) (addW s x.w) (k+1):=by
  obtain⟨h,rfl⟩:=ul.1 hx;rw[List.drop_eq_getElem_cons h,locF,if_neg h1,if_neg h2]
theorem loc_end {l:List Total} {w s:Wide} {k:Nat} (h:l.length≤k):locF w (l.drop k) s k = -1:=by rw[List.drop_of_length_le h];rfl
def zji (x:STrial):Int:=if ¬x.s.h.height=x.s.i then 5 else 0
def zlw (x:STrial):Int:=if ¬zat x.s.h=true then 4 else 0
def zhV (x:STrial):Int:=if (zb9 ⟨x.tip.past,x.tip.work,x.tip.height⟩ x.s.i (zbA x.s.h) x.s.path).2=false∨cmpW x.pick (zb9 ⟨x.tip.past,x.tip.work,x.tip.height⟩ x.s.i (zbA x.s.h) x.s.path).1<0∨0≤cmpW x.pick (addW (zb9 ⟨x.tip.past,x.tip.work,x.tip.height⟩ x.s.i (zbA x.s.h) x.s.path).1 (zbA x.s.h).w) then 7 else 0
theorem mcheck_ok (root:Total) (i:Int) (leaf:Total) (path:List Total):Tells P 95 [.val zah root,.val i64T i,.val zah leaf,.val (bsl zah) path] (.tup2 (.val zan (zb9 root i leaf path).1) (.val zn (zb9 root i leaf path).2)):=by
 refine zc Tryz.func95 rfl rfl rfl (fun ext w hext=>?_);refine zf (d:=1) rfl zt (fun hin1=>?_);refine zf (d:=3) rfl zl (fun hsl3=>?_);refine qax ?_;refine qaz ?_;refine qce ?_;refine A0 (oFp zcc) ?_;refine A0 (oLb zby ty_3) ?_;refine A0 zbu ?_;refine qaw ?_;refine Sp (d:=20) (p:=root.n<1) (fun g20=>?_) (fun g20=>?_)
 ·
  refine qac ?_;refine qaj ?_;refine A2 ?_;refine qar ?_;refine qaH ?_;refine qas ?_;refine Ct ?_;refine qay ?_;refine qad ?_;exact zp rfl rfl (zx rfl rfl zap (by rw[zdj (.inl g20)])) (zad (za rfl (by rw[zdj (.inl g20)])))
 refine A1 (oFp zcc) ?_;refine A1 (oLb zby ty_3) ?_;refine A1 zcq ?_;refine qaj ?_;refine Sp (d:=25) (p:=64<root.n) (fun g25=>?_) (fun g25=>?_)
 ·
  refine A2 ?_;refine qar ?_;refine qaH ?_;refine qas ?_;refine Ct ?_;refine qay ?_;refine qad ?_;exact zp rfl rfl (zx rfl rfl zap (by rw[zdj (.inr (.inl g25))])) (zad (za rfl (by rw[zdj (.inr (.inl g25))])))
 refine A1 mV ?_;refine A1 zbu ?_;refine qaj ?_;refine Sp (d:=29) (p:=i<0) (fun g29=>?_) (fun g29=>?_)
 ·
  refine qbA ?_;refine qaH ?_;refine qas ?_;refine Ct ?_;refine qay ?_;refine qad ?_;exact zp rfl rfl (zx rfl rfl zap (by rw[zdj (.inr (.inr (.inl g29)))])) (zad (za rfl (by rw[zdj (.inr (.inr (.inl g29)))])))
 refine A1 mV ?_;refine A1 (oFp zcc) ?_;refine A1 (oLb zby ty_3) ?_;refine A1 zfR ?_;refine qaj ?_;refine Sp (d:=35) (p:=root.n≤i) (fun g35=>?_) (fun g35=>?_)
 ·
  refine qac ?_;refine qas ?_;refine Ct ?_;refine qay ?_;refine qad ?_;exact zp rfl rfl (zx rfl rfl zap (by rw[zdj (.inr (.inr (.inr (.inl g35))))])) (zad (za rfl (by rw[zdj (.inr (.inr (.inr (.inl g35))))])))
 refine A1 (oFp zcc) ?_;refine A1 (oLb zby ty_3) ?_;refine A1 ze1 ?_;refine qas ?_;refine zo (p:=¬leaf.n=1) rfl yO (fun ht39=>?_) (fun ht39=>?_)
 ·
  refine qay ?_;refine qad ?_;exact zp rfl rfl (zx rfl rfl zap (by rw[zdj (.inr (.inr (.inr (.inr (.inl ht39)))))])) (zad (za rfl (by rw[zdj (.inr (.inr (.inr (.inr (.inl ht39)))))])))
 obtain⟨q,rfl⟩:∃q:Nat,i=q:=⟨i.toNat,by omega⟩;obtain⟨N,hN⟩:∃N:Nat,root.n=N:=⟨root.n.toNat,by omega⟩;have hsl:(zbp N q).length=(spans 0 N q).length:=by unfold zbp;rw[List.length_map]
 refine CSQR ?_;refine A0 (oFp zcc) ?_;refine A0 (oLb zby ty_3) ?_;refine zj (d:=42) (y:=(N:Int)) rfl hN ?_;refine qaw ?_;refine A0 (oCl (zB (zuL N q ya)) rfl fn_90 yi) ?_;refine qam ?_;refine A0 (zO rfl rfl zqD) ?_;refine qaw ?_;refine xw ?_;refine qbz ?_;refine zo (p:=¬(zbp N q).length=path.length) rfl ybj (fun ht49=>?_) (fun ht49=>?_)
 ·
  refine qay ?_;refine qad ?_;exact zp rfl rfl (zx rfl rfl zap yaV) (zad (za rfl yaV))
 have hcg:=check_go (q:=q) (path:=path) hN ya ya ya (ua ht39) ya;refine CSQR ?_;refine qaz ?_;refine qaN ?_;refine A0 (zO rfl rfl zqD) ?_;refine qa0 ?_;refine Lp (ι:=Nat×Total×Wide) 4 (fun(k,cur,ah)=>((((((((Fr.none.set 3 (.val (bsl zah) path)).set 4 (.ptr 0 0)).set 6 (.ptr 1 0)).set 8 (.ptr 2 0)).set 9 (.val zn false)).set 11 (.ptr 3 0)).set 51 (.val (sl zft) (zbp N q))).set 52 (.val i64T ((zbp N q).length:Int))).set 53 (.val i64T (k:Int))) (fun(k,cur,ah)=>(((Hp.none.set 0 (.box 130 zah root)).set 1 (.box 130 zah cur)).set 2 (.box 29 zan zav)).set 3 (.box 29 zan ah)) (fun(k,cur,ah)=>k≤(zbp N q).length∧chkF (spans 0 N q) path leaf zav=chkF ((spans 0 N q).drop k) (path.drop k) cur ah) (fun(k,cur,ah)=>(zbp N q).length-k) ((0,leaf,zav)) (⟨uf _,rfl⟩) ?_;intro⟨k,cur,ah⟩ hinv;dsimp only at hinv;refine qal ?_;refine Cf (p:=k<(zbp N q).length) (fun ht54=>?_) (fun ht54=>?_)
 ·
  obtain⟨s,hs⟩:∃s,(spans 0 N q)[k]?=some s:=yo;have hsx:(zbp N q)[k]?=some (zgy s):=by unfold zbp;rw[List.getElem?_map,hs];rfl
  obtain⟨x,hx⟩:∃x,path[k]?=some x:=yo;have hst:=chk_step (cur:=cur) (ah:=ah) hs hx;refine qaL ?_;refine A0 (zR (i:=k) rfl rfl rfl ya zlD yj) ?_;refine A0 (ze rfl rfl zly) ?_;refine zq zuu rfl rfl rfl rfl ?_;refine A0 aV ?_;refine zg rfl rfl rfl rfl rfl (Lens.self _) zly rfl ?_;refine CNQR ?_;refine qaq ?_;refine A0 (zR (i:=k) rfl rfl rfl ya zfP yj) ?_;refine A0 (ze rfl rfl zbm) ?_;refine qbC ?_;refine qaK ?_;refine CNQQR ?_;refine qbw ?_;refine qbw ?_;refine A0 (oCl (zjA cur.w x.w) rfl ztX yi) ?_;refine qaQ ?_;refine qaz ?_;refine qak ?_;refine qag ?_;refine A0 oN ?_;refine qaw ?_;refine zbj (d:=72) (p:=zfU cur.w x.w=false) rfl (by cases zfU cur.w x.w<;>rfl) (fun g72=>?_) (fun g72=>?_)
  ·
   refine qac ?_;refine qac ?_;refine qas ?_;refine Ct ?_;refine qay ?_;refine qad ?_;exact zp rfl rfl (zx rfl rfl zap (by rw[hcg,hinv.2,hst,if_pos (.inl g72)])) (zad (za rfl (by rw[hcg,hinv.2,hst,if_pos (.inl g72)])))
  refine A1 (oFp zcc) ?_;refine A1 (oLb zby ty_3) ?_;refine A1 (oFp ziG) ?_;refine A1 (oFp zf7) ?_;refine A1 (oLb (zdL.comp zcK) ty_3) ?_;refine A1 ze1 ?_;refine qas ?_;refine zo (p:=¬x.n=(s.2.1:Int)) rfl (by simp[IntL.toI];rfl) (fun ht79=>?_) (fun ht79=>?_)
  ·
   refine qay ?_;refine qad ?_;exact zp rfl rfl (zx rfl rfl zap (by rw[hcg,hinv.2,hst,if_pos (.inr ht79)])) (zad (za rfl (by rw[hcg,hinv.2,hst,if_pos (.inr ht79)])))
  refine CSQQR ?_;refine A0 (oFp zqO) ?_;refine A0 (oLb ziu ty_4) ?_;refine CN ?_;refine zo (p:=s.2.2=true) rfl (by cases s;rename_i a b;cases b;rename_i b c;cases c<;>rfl) (fun ht82=>?_) (fun ht82=>?_)
  ·
   refine CQR ?_;refine xx ?_;refine xx ?_;refine A0 (oCl (znA cur x) rfl zsH yi) ?_;refine qaK ?_;refine CN ?_;refine CE ?_;refine CR ?_;refine qah ?_;exact Nx ((k+1,zfv cur x,ah)) yan (by show(zbp N q).length-(k+1)<(zbp N q).length-k;omega)
  refine CSQR ?_;refine xx ?_;refine xx ?_;refine A0 (oCl (znA x cur) rfl zsH yi) ?_;refine qaK ?_;refine CNR ?_;refine qaG ?_;refine qbw ?_;refine A0 (oCl (zjA ah x.w) rfl ztX yi) ?_;refine qaQ ?_;refine qak ?_;refine qaV ?_;exact Nx ((k+1,zfv x cur,addW ah x.w)) yan (by show(zbp N q).length-(k+1)<(zbp N q).length-k;omega)
 refine CE ?_;refine CQQR ?_;refine xx ?_;refine xx ?_;refine A0 (zhy rfl rfl rfl (eqt_130)) ?_;refine CN ?_;refine zo (p:=¬cur=root) rfl yB (fun ht99=>?_) (fun ht99=>?_)
 ·
  refine qay ?_;refine qad ?_;exact zp rfl rfl (zx rfl rfl zap (by rw[hcg,hinv.2,zq2 ya];simp only[];rw[if_neg ht99])) (zad (za rfl (by rw[hcg,hinv.2,zq2 ya];simp only[];rw[if_neg ht99])))
 refine CSQR ?_;refine qaG ?_;refine qak ?_;refine qad ?_;exact zp rfl rfl (zx rfl rfl zap (by rw[hcg,hinv.2,zq2 ya];simp only[];rw[if_pos (ua ht99)])) (zad (za rfl (by rw[hcg,hinv.2,zq2 ya];simp only[];rw[if_pos (ua ht99)])))
theorem locate_ok (l:List Total) (z:Wide):Tells P 40 [.val (bsl zah) l,.val zan z] (.val i64T (zoH l z)):=by
 refine zc Tryz.func40 rfl rfl rfl (fun ext w hext=>?_);refine zf (d:=0) rfl zl (fun hsl0=>?_);refine qai ?_;refine qa4 ?_;refine qaz ?_;refine qaN ?_;refine xw ?_;refine qa0 ?_;refine Lp (ι:=Nat×Wide) 2 (fun (i:Nat×Wide)=>match i with|(k,s)=>(((((Fr.none).set 3 (.ptr 0 0)).set 5 (.ptr 1 0)).set 10 (.val (bsl zah) l)).set 11 (.val i64T (l.length:Int))).set 12 (.val i64T (k:Int))) (fun (i:Nat×Wide)=>match i with|(k,s)=>((Hp.none).set 0 (.box 29 zan z)).set 1 (.box 29 zan s)) (fun (i:Nat×Wide)=>match i with|(k,s)=>k≤l.length∧zoH l z=locF z (l.drop k) s k) (fun (i:Nat×Wide)=>match i with|(k,s)=>l.length-k) ((0,zav)) (⟨uf _,rfl⟩) ?_;intro⟨k,s⟩ hinv;dsimp only at hinv;refine qal ?_;refine Cf (p:=k<l.length) (fun ht13=>?_) (fun ht13=>?_)
 ·
  obtain⟨x,hx⟩:∃x,l[k]?=some x:=⟨_,ub ht13⟩;refine qaL ?_;refine A0 (zR (i:=k) rfl rfl rfl ya zfP yj) ?_;refine A0 (ze rfl rfl zbm) ?_;refine qbC ?_;refine A0 aV ?_;refine qaK ?_;refine CNQR ?_;refine qaG ?_;refine qbw ?_;refine A0 (oCl (zjA s x.w) rfl ztX yi) ?_;refine qaQ ?_;refine qaz ?_;refine qak ?_;refine qaA ?_;refine CB ?_;refine qa6 ?_;refine A0 oN ?_;refine qad ?_;refine zo (p:=zfU s x.w=false) rfl (by cases zfU s x.w<;>rfl) (fun ht24=>?_) (fun ht24=>?_)
  ·
   refine qau ?_;exact zb rfl rfl (za rfl (hinv.2.trans (loc_no hx ht24)).symm)
  refine CQR ?_;refine qaG ?_;refine qaG ?_;refine A0 (oCl (zq0 (addW s x.w) z) rfl fn_89 yi) ?_;refine A0 zcq ?_;refine qad ?_;refine Cf (p:=0<cmpW (addW s x.w) z) (fun ht27=>?_) (fun ht27=>?_)
  ·
   refine qcd ?_;exact zb rfl rfl (za rfl (hinv.2.trans (loc_yes hx ht24 ht27)).symm)
  refine CSIR ?_;refine qaG ?_;refine qak ?_;refine qaV ?_;exact Nx ((k+1,addW s x.w)) (⟨by omega,hinv.2.trans (loc_go hx ht24 ht27)⟩) yab
 refine CE ?_;refine qau ?_;exact zb rfl rfl (za rfl (hinv.2.trans (loc_end ya)).symm)
theorem zrN (x:STrial):Tells P 43 [.rptr zeg x] (.val i64T (zji x)):=by
 refine zc Tryz.func43 rfl rfl rfl (fun ext w hext=>?_);refine CQR ?_;refine qaA ?_;refine qbc ?_;refine qbo ?_;refine G0 (oFr zga zdK) ?_;refine G0 (oFr zkm zgW) ?_;refine G0 (oFr zcr zak) ?_;refine G0 (ze rfl rfl ty_3) ?_;refine qbo ?_;refine G0 (oFr zga zdK) ?_;refine G0 (oFr zqS zlu) ?_;refine G0 (ze rfl rfl ty_3) ?_;refine G0 ze1 ?_;refine GK.nil ?_;refine zo (p:=¬x.s.h.height=x.s.i) rfl yO (fun ht14=>?_) (fun ht14=>?_)
 ·
  refine qau ?_;exact zb rfl rfl (za rfl (by unfold zji;rw[if_pos ht14]))
 refine CSQR ?_;refine qad ?_;exact zb rfl rfl (za rfl (by unfold zji;rw[if_neg ht14]))
theorem zuG (x:STrial):Tells P 44 [.rptr zeg x] (.val i64T (zlw x)):=by
 refine zc Tryz.func44 rfl rfl rfl (fun ext w hext=>?_);refine CQR ?_;refine qce ?_;refine A0 mR ?_;refine A0 (zbX rfl rfl) ?_;refine A0 (oFr zga zdK) ?_;refine A0 (oFr zkm zgW) ?_;refine A0 (ze rfl rfl zaF) ?_;refine A0 (oCl (zgK _) rfl fn_42 ybz) ?_;refine qbj ?_;refine zo (p:=¬zat x.s.h=true) rfl (by cases zat x.s.h<;>rfl) (fun ht9=>?_) (fun ht9=>?_)
 ·
  refine qau ?_;exact zb rfl rfl (za rfl (by unfold zlw;rw[if_pos ht9]))
 refine CSQR ?_;refine qad ?_;exact zb rfl rfl (za rfl (by unfold zlw;rw[if_neg ht9]))
theorem zuM (x:STrial):Tells P 45 [.rptr zeg x] (.val i64T (zhV x)):=by
 obtain⟨c,hc⟩:∃c,c=zb9 ⟨x.tip.past,x.tip.work,x.tip.height⟩ x.s.i (zbA x.s.h) x.s.path:=⟨_,rfl⟩;have hck:=mcheck_ok ⟨x.tip.past,x.tip.work,x.tip.height⟩ x.s.i (zbA x.s.h) x.s.path;rw[←hc] at hck;refine zc Tryz.func45 rfl rfl rfl (fun ext w hext=>?_);refine CQR ?_;refine qaA ?_;refine zC [some 1000001,some 1000001,some 1000001,some 1000001,some 1000001,some 1000001,some 1000001,some 1000001,some 1000001,some 1000001,some 1000001,some 1000001,some 1000001,none,none] mixed yc ?_;refine XK.ga (fun _=>g_mr (.inl rfl) rfl) rfl rfl rfl ?_;refine XK.ga (fun _=>zbX rfl rfl) rfl rfl rfl ?_;refine XK.ga (fun _=>zb4 rfl rfl zga zdK) rfl rfl rfl ?_;refine XK.ga (fun _=>zb4 rfl rfl zkm zgW) rfl rfl rfl ?_;refine XK.ga (fun _=>ze rfl rfl zaF) rfl rfl rfl ?_;refine XK.ga (fun _=>zec (zdb _) rfl zoP ybz rfl) rfl rfl rfl ?_;refine XK.ga (fun _=>g_mr (.inl rfl) rfl) rfl rfl rfl ?_;refine XK.ga (fun _=>zbX rfl rfl) rfl rfl rfl ?_;refine XK.ga (fun _=>zb4 rfl rfl zga zdK) rfl rfl rfl ?_;refine XK.ga (fun _=>zb4 rfl rfl zkm zgW) rfl rfl rfl ?_;refine XK.ga (fun _=>ze rfl rfl zaF) rfl rfl rfl ?_;refine XK.ga (fun _=>zec (zjl _) rfl fn_94 ybz rfl) rfl rfl rfl ?_;refine XK.ga (fun _=>zec (zqz (zag x.s.h) (zcb x.s.h)) rfl fn_93 yi rfl) rfl rfl rfl ?_;refine XK.e (fun fr' hfr kk H=>by exact zq zoU rfl rfl rfl rfl (zr H)) ?_;refine XK.e (x:=.idk) (fun fr' hfr kk H=>by exact zg rfl rfl rfl ((hfr 3 yc).trans rfl) rfl (Lens.self _) zbm ((hfr 20 yc).trans rfl) (zr H)) ?_;refine XK.nil' ?_;refine CQ ?_;refine zC [some 1000001,some 1000001,some 1000001,some 1000001,some 1000001,some 1000001,some 1000001,some 1000001,some 1000001,some 1000001,some 1000001,some 1000001,some 1000001,some 1000001,some 1000001,some 1000001,some 1000001,some 1000001,some 1000001,some 1000001,some 1000001,some 1000001,some 1000001,some 1000001,some 1000001,some 1000001,some 1000001,some 1000001,some 1000001,some 1000001,some 1000001,none,none,some 1] mixed yc ?_;refine XK.ga (fun _=>g_mr (.inl rfl) rfl) rfl rfl rfl ?_;refine XK.ga (fun _=>zbX rfl rfl) rfl rfl rfl ?_;refine XK.ga (fun _=>zb4 rfl rfl zmB zgh) rfl rfl rfl ?_;refine XK.ga (fun _=>zb4 rfl rfl zjr zeo) rfl rfl rfl ?_;refine XK.ga (fun _=>ze rfl rfl zaA) rfl rfl rfl ?_;refine XK.ga (fun _=>g_mr (.inl rfl) rfl) rfl rfl rfl ?_;refine XK.ga (fun _=>zbX rfl rfl) rfl rfl rfl ?_;refine XK.ga (fun _=>zb4 rfl rfl zmB zgh) rfl rfl rfl ?_;refine XK.ga (fun _=>zb4 rfl rfl zih zdw) rfl rfl rfl ?_;refine XK.ga (fun _=>ze rfl rfl zap) rfl rfl rfl ?_;refine XK.ga (fun _=>g_mr (.inl rfl) rfl) rfl rfl rfl ?_;refine XK.ga (fun _=>zbX rfl rfl) rfl rfl rfl ?_;refine XK.ga (fun _=>zb4 rfl rfl zmB zgh) rfl rfl rfl ?_;refine XK.ga (fun _=>zb4 rfl rfl zcr zak) rfl rfl rfl ?_;refine XK.ga (fun _=>ze rfl rfl ty_3) rfl rfl rfl ?_;refine XK.ga (fun _=>zu rfl zoU zv0 (.cons zf9 zeL zaA rfl (.cons ziH zgV zap rfl (.cons zcc zby ty_3 rfl .nil))) rfl) rfl rfl rfl ?_;refine XK.ga (fun _=>g_mr (.inl rfl) rfl) rfl rfl rfl ?_;refine XK.ga (fun _=>zbX rfl rfl) rfl rfl rfl ?_;refine XK.ga (fun _=>zb4 rfl rfl zga zdK) rfl rfl rfl ?_;refine XK.ga (fun _=>zb4 rfl rfl zqS zlu) rfl rfl rfl ?_;refine XK.ga (fun _=>ze rfl rfl ty_3) rfl rfl rfl ?_;refine XK.gf (t:=3) rfl rfl (fun _ he=>zs rfl rfl he (Lens.self _) zbm) ⟨hpB rfl rfl,trivial⟩ rfl rfl rfl ?_;refine XK.ga (fun _=>g_mr (.inl rfl) rfl) rfl rfl rfl ?_;refine XK.ga (fun _=>zbX rfl rfl) rfl rfl rfl ?_;refine XK.ga (fun _=>zb4 rfl rfl zga zdK) rfl rfl rfl ?_;refine XK.ga (fun _=>zb4 rfl rfl zvP zkF) rfl rfl rfl ?_
 refine XK.ga (fun _=>ze rfl rfl zox) rfl rfl rfl ?_;refine XK.ga (fun _=>zec (hck) rfl fn_95 ⟨yl,yb,yl,yb,trivial⟩ rfl) rfl rfl rfl ?_;refine XK.ga yu rfl rfl rfl ?_;refine XK.ga yau rfl rfl rfl ?_;refine XK.ga yT rfl rfl rfl ?_;refine XK.e (fun fr' hfr kk H=>by exact zq zkL rfl rfl rfl rfl (zr H)) ?_;refine XK.e (x:=.idk) (fun fr' hfr kk H=>by exact zg rfl rfl rfl ((hfr 4 yc).trans rfl) rfl (Lens.self _) zap ((hfr 50 yc).trans rfl) (zr H)) ?_;refine X0 aV ?_;refine XK.nilp ⟨⟨hpB rfl rfl,hpB rfl rfl,trivial⟩,trivial⟩ ?_;refine CQR ?_;refine qaG ?_;refine qbw ?_;refine A0 (oCl (zjA c.1 (zbA x.s.h).w) rfl ztX yi) ?_;refine qaQ ?_;refine qaz ?_;refine qak ?_;refine qaA ?_;refine qbc ?_;refine G0 mV ?_;refine G0 oN ?_;refine G0 mV ?_;refine zaH (d:=61) (p:=c.2=false) rfl (by cases c.2<;>rfl) (fun g61=>?_) (fun g61=>?_)
 ·
  refine qab ?_;refine G2 ?_;refine qbk ?_;refine qab ?_;refine G2 ?_;refine qaM ?_;refine Ct ?_;refine qau ?_;exact zb rfl rfl (za rfl (by unfold zhV;rw[←hc,if_pos (.inl g61)]))
 refine qbQ ?_;refine G1 (oFr zqR zhw) ?_;refine G1 (ze rfl rfl zap) ?_;refine G1 (oLs rfl rfl rfl zap) ?_;refine G1 (oCl (zq0 _ _) rfl fn_89 ybB) ?_;refine G1 zbu ?_;refine qbk ?_;refine zaH (d:=70) (p:=cmpW x.pick c.1<0) rfl yv (fun g70=>?_) (fun g70=>?_)
 ·
  refine qab ?_;refine G2 ?_;refine qaM ?_;refine Ct ?_;refine qau ?_;exact zb rfl rfl (za rfl (by unfold zhV;rw[←hc,if_pos (.inr (.inl g70))]))
 refine qbQ ?_;refine G1 (oFr zqR zhw) ?_;refine G1 (ze rfl rfl zap) ?_;refine G1 (oLs rfl rfl rfl zap) ?_;refine G1 (oCl (zq0 _ _) rfl fn_89 ybB) ?_;refine G1 zfR ?_;refine qaM ?_;refine Cf (p:=0≤cmpW x.pick (addW c.1 (zbA x.s.h).w)) (fun ht78=>?_) (fun ht78=>?_)
 ·
  refine qau ?_;exact zb rfl rfl (za rfl (by unfold zhV;rw[←hc,if_pos (.inr (.inr ht78))]))
 refine CSQR ?_;refine qad ?_;exact zb rfl rfl (za rfl (by unfold zhV;rw[←hc,if_neg (fun h=>h.elim g61 (fun h=>h.elim g70 ht78))]))
theorem fact_id32 {x:Ab.Id} {ρ:Nat→Value} {B:Nat→Prop} {U N:Nat→Prop} {w:World} {v:Value} (hv:(AV.val idT x).rel ρ B U N w v):x.length=32:=by
  obtain⟨cs,h,_⟩:=hv;exact h.1
theorem zn_46:zax P 102 nilT ():=zfb zgZ yq
theorem ziB {seed:Ab.Id} {below:Wide} {n:Int} (h:¬(1≤n∧n≤20∧below≠zav)):zb8 seed below n=[]:=by unfold zb8;rw[if_neg h]
theorem picks_all {seed:Ab.Id} {below:Wide} {n:Int} {k:Nat} (h1:n≤20) (h2:below≠zav) (hk:(k:Int)+1=n):(List.range k).map (znn seed below)++[znn seed below k]=zb8 seed below n:=by
  unfold zb8;rw[if_pos ⟨by omega,h1,h2⟩,show n.toNat=k+1 by omega,List.range_succ,List.map_append];rfl
theorem zu4 (seed:Ab.Id) (below:Wide) (n:Int):Tells P 39 [.val idT seed,.val zan below,.val i64T n] (.fresh 29 zan (zb8 seed below n)):=by
 refine zc Tryz.func39 rfl rfl rfl (fun ext w hext=>?_);refine zf (d:=2) rfl zt (fun hin2=>?_);refine zf (d:=0) rfl fact_id32 (fun hseed=>?_);refine qax ?_;refine xc ?_;refine A0 aL ?_;refine CNQQR ?_;refine A0 (oLs rfl rfl rfl ty_3) ?_;refine A0 zbu ?_;refine qaw ?_;refine Sp (d:=11) (p:=n<1) (fun g11=>?_) (fun g11=>?_)
 ·
  refine A2 ?_;refine A2 ?_;refine qas ?_;refine Ct ?_;refine qap ?_;refine CN ?_;exact zb rfl rfl (by rw[ziB ya];exact zm rfl)
 refine A1 (oLs rfl rfl rfl ty_3) ?_;refine A1 zcq ?_;refine qas ?_;refine Cf (p:=20<n) (fun ht14=>?_) (fun ht14=>?_)
 ·
  refine qap ?_;refine CN ?_;exact zb rfl rfl (by rw[ziB ya];exact zm rfl)
 refine CSQR ?_;refine zq zn_46 rfl rfl rfl rfl ?_;refine CN ?_;refine zs7 3 29 zan rfl ?_;refine CQQR ?_;refine qb7 ?_;refine qaG ?_;refine zaa rfl rfl rfl rfl Tryz.func87 fn_87 rfl rfl (fun ia2 iok2=>?_);refine qax ?_;refine A0 aL ?_;refine CNQR ?_;refine xn ?_;refine A0 aC ?_;refine CN ?_;refine zet rfl ?_;refine CNB ?_;refine ziL rfl rfl rfl Tryz.func138 fn_138 rfl rfl yI (fun fid3 ca3 lN3 DN3 cok3 rc3 hrc3=>?_);refine CQR ?_;refine A0 aV ?_;refine CNB ?_;refine zci (d:=1) rfl rfl (Lens.self _) ?_;refine zci (d:=2) rfl rfl (Lens.self _) ?_;refine zaS 4 9 10 rfl rfl rfl rfl rfl rfl ?_;refine Lp (ι:=Nat) 10 (fun k=>(((Fr.none.set 0 (.lit (.func (.yield lN3) #[] #[]))).set 1 (.rptr idT seed)).set 2 (.rptr zan below)).set 4 (.val i64T (k:Int))) (fun k=>((((((Hp.none.set 0 (.box 26 idT seed)).set 1 (.box 29 zan below)).set 2 (.box 3 i64T n)).set 3 (.parts 102 [.own 9])).set 9 (.row 29 zan ((List.range k).map (znn seed below)))).set 7 (.objAt DN3 (.deferred (some [])))).set 8 (.objAt lN3 (rc3 .ready none))) (fun k=>(k:Int)<n∧(0<k→below≠zav)) (fun k=>n.toNat-k) (0) (⟨by omega,fun h=>absurd h yn⟩) ?_;intro k hinv;refine CQ ?_;refine CB ?_;refine CQR ?_;refine A0 (zkg (T:=sl u8T) (S:=bsl u8T) (zL (T:=u8T) (xs:=[_]) rfl zcP zcg yx rfl rfl)) ?_;refine A0 (zic rfl rfl zjz rfl rfl) ?_;refine qaw ?_;refine A0 (zhh rfl (ui_5) (us_3) rfl) ?_;refine A0 (zkg (T:=sl u8T) (S:=bsl u8T) (zL (T:=u8T) (xs:=[_]) rfl zcP zcg yx rfl rfl)) ?_;refine A0 (zL (T:=(bsl u8T)) (xs:=[_,_,_]) rfl zc8 zcz yaf rfl rfl) ?_;refine A0 (oCl (of_ok [[7],seed,[zbH (k:Int)]] (by simp[hseed])) rfl fn_49 yd) ?_;refine qaF ?_;refine qat ?_;refine CNQ ?_;refine zrc 9 (.box 29 zan zav) [some 1000001,some 1000001,some 1000001,some 1000001,some 1000001,some 1000001,some 1000001,some 1000001,none,some 1000002,none,none,some 1] mixed yc rfl ?_;refine XKF.gf (t:=5) rfl rfl rfl (fun _ he=>zs rfl rfl he (Lens.self _) zaA) rfl rfl ⟨rfl,trivial⟩ rfl rfl rfl ?_;refine XKF.ga rfl (fun _=>zec (zqu _) rfl fn_129 yd rfl) rfl rfl rfl rfl ?_;refine XKF.ga rfl (fun _=>ze rfl rfl zap) rfl rfl rfl rfl ?_;refine XKF.ga rfl (fun _=>zec (divW_ok _ _) rfl fn_139 yi rfl) rfl rfl rfl rfl ?_;refine XKF.ga rfl yu rfl rfl rfl rfl ?_;refine XKF.ga rfl yau rfl rfl rfl rfl ?_;refine XKF.ga rfl yT rfl rfl rfl rfl ?_;refine XKF.ga rfl (fun _=>g_x32 rfl rfl) rfl rfl rfl rfl ?_;refine XKF.e rfl (fun fr' hfr kk H=>by exact zq zkL rfl rfl rfl rfl (zr H)) (EffA.conv (fun fr' hfr kk H=>by exact zq zkL rfl rfl rfl rfl (zr H)) yaH) yaq yaq yaq (by (repeat refine zkC ?_ rfl);exact fun _ _=>rfl) ?_;refine XKF.f rfl zkL rfl rfl rfl rfl rfl rfl ?_;refine XKF.ew (x:=.idk) rfl yc (fun fr' hfr kk H=>by exact zg rfl rfl rfl ((hfr 6 yc).trans rfl) rfl (Lens.self _) zap ((hfr 23 yc).trans rfl) (zr H)) yaq (by (repeat refine zkC ?_ rfl);exact fun _ _=>rfl) ?_;refine XKF.ew (x:=.idk) rfl yc (fun fr' hfr kk H=>by exact zg rfl rfl rfl ((hfr 7 yc).trans rfl) rfl (Lens.self _) zap ((hfr 24 yc).trans rfl) (zr H)) yaq (by (repeat refine zkC ?_ rfl);exact fun _ _=>rfl) ?_
 refine XKF.gw rfl yc (g_mv (.inr rfl) rfl) rfl rfl rfl ?_;refine XKF.nilp ⟨⟨hpB rfl rfl,hpB rfl rfl,hpB rfl rfl,trivial⟩,trivial⟩ ?_;refine qa6 ?_;refine A0 oN ?_;refine qaw ?_;refine zbj (d:=28) (p:=below=zav) rfl (by unfold divOk;simp) (fun g28=>?_) (fun g28=>?_)
 ·
  refine qbA ?_;refine qas ?_;refine Ct ?_;refine zfJ (nL:=8) rfl hrc3 rfl yn ?_;refine CI ?_;refine CQR ?_;refine qbD ?_;refine qbm ?_;refine zaD (zb1 (nD:=7) rfl rfl rfl ?_);exact zul rfl rfl (zh rfl rfl (by obtain rfl:k=0:=Nat.eq_zero_of_not_pos fun h=>hinv.2 h g28;rw[ziB (fun h=>h.2.2 g28)];rfl))
 refine A1 mL ?_;refine A1 (oLs rfl rfl rfl zap) ?_;refine zpN rfl rfl rfl rfl rfl rfl ?_;refine ziJ (nL:=8) rfl rfl rfl rfl rfl hrc3 rfl rfl rfl (fun ya4 yok4=>?_);refine CR ?_;refine qaz ?_;refine qak ?_;refine CN ?_;refine ziN (nL:=8) hrc3 rfl ?_;refine CB ?_;refine CQR ?_;refine qbD ?_;refine qaG ?_;refine A0 (zL (T:=zan) (xs:=[_]) rfl sl_102 row_102 yx rfl rfl) ?_;refine zN rfl rfl rfl rfl rfl rfl rfl row_102 yam ?_;refine zaB rfl rfl rfl rfl rfl rfl rfl rfl rfl rfl ty_102 ?_;refine CNQR ?_;refine qbD ?_;refine A0 (zaV rfl rfl rfl ztS) ?_;refine A0 (oLs rfl rfl rfl ty_3) ?_;refine A0 zcw ?_;refine CN ?_;refine zo (p:=(k:Int)+1=n) rfl yO (fun ht26=>?_) (fun ht26=>?_)
 ·
  refine zkz (nL:=8) rfl hrc3 rfl ?_;refine A1 oN ?_;refine qas ?_;refine Ct ?_;refine zfJ (nL:=8) rfl hrc3 rfl yn ?_;refine CE ?_;refine CQR ?_;refine qbD ?_;refine qbm ?_;refine zaD (zb1 (nD:=7) rfl rfl rfl ?_);exact zul rfl rfl (zh rfl rfl (by rw[←picks_all ya g28 ht26];unfold znn;simp))
 refine CS ?_;refine CI ?_;refine zdG (nL:=8) hrc3 rfl ?_;refine A1 oN ?_;refine qas ?_;refine Cg ?_;refine CSIR ?_;refine qaW ?_;refine qad ?_;refine zaS 14 9 15 rfl rfl rfl rfl rfl rfl ?_;refine zz (n:=9) (y:=(List.range (k+1)).map (znn seed below)) rfl (by rw[List.range_succ,List.map_append];unfold znn;simp) ?_;exact Nx (k+1) (⟨by omega,fun _=>g28⟩) ya
def zeW (e:Nat×STrial):Int:=if e.1=43 then zji e.2 else if e.1=44 then zlw e.2 else zhV e.2
def zoR:List (Nat×STrial)→Int
  | []=>0
  | e::l=>if zeW e=0 then zoR l else zeW e
def sthree (z:STrial):List (Nat×STrial):=[(43,z),(44,z),(45,z)]
theorem ztd {L:List (Nat×STrial)} {j:Nat} {e:Nat×STrial} (h:L[j]?=some e):zoR (L.drop j)=if zeW e=0 then zoR (L.drop (j+1)) else zeW e:=by
  obtain⟨h1,rfl⟩:=ul.1 h;rw[List.drop_eq_getElem_cons h1,zoR]
theorem zdH {tip:Head} {pick:Wide} {x:Sample}:zoR (sthree ⟨tip,x,pick⟩)=zqd tip pick x:=by
  obtain⟨z,hz⟩:∃z:STrial,z=⟨tip,x,pick⟩:=⟨_,rfl⟩;have e:zoR (sthree z)=if zji z=0 then (if zlw z=0 then (if zhV z=0 then 0 else zhV z) else zlw z) else zji z:=rfl
  rw[←hz,e];have hp:zji z=if x.h.height≠x.i then 5 else 0:=by rw[hz];rfl
  have hw:zlw z=if zat x.h=false then 4 else 0:=by
    rw[hz];unfold zlw;cases zat x.h<;>simp
  have hr:(if zhV z=0 then 0 else zhV z)=zhV z:=by split<;>simp_all
  rw[hr];unfold zqd;by_cases c1:x.h.height≠x.i
  · rw[hp,if_pos c1,if_pos c1,if_neg yn]
  rw[hp,if_neg c1,if_neg c1,if_pos rfl];by_cases c2:zat x.h=false
  · rw[hw,if_pos c2,if_pos c2,if_neg yn]
  rw[hw,if_neg c2,if_neg c2,if_pos rfl,hz];rfl
theorem samps_step {tip:Head} {P:List Wide} {l:List Sample} {k:Nat} {x:Sample} (h:l[k]?=some x):zjR tip P (l.drop k) k=if zqd tip (P.getD k zav) x=0 then zjR tip P (l.drop (k+1)) (k+1) else zqd tip (P.getD k zav) x:=by
  obtain⟨h1,rfl⟩:=ul.1 h;rw[List.drop_eq_getElem_cons h1,zjR]
theorem zn_35:zax P 59 (za7 zbl nilT) (zhC,()):=zS (zF zdM zgZ) yq
theorem zq6 {l:List Block} {n e:Int} (h:zcG l n=e) (he:e≠0):zhG=zd1 l n:=by unfold zd1;rw[h,if_neg he]
theorem samp_at {l:List Block} {L:List Total} {z:Wide} {q:Nat} {b:Block} (h1:zoH L z=(q:Int)) (h2:l[q]?=some b) (h3:L.length≤64) (h4:q<L.length):zhT l L z=⟨(q:Int),b.h,ziY L (q:Int)⟩:=by
  unfold zhT ziY;rw[h1,Int.toNat_natCast,h2,if_pos ya9];rfl
theorem znc (s:Sampling) (n:Int):Tells P 14 [.val zcf s,.val i64T n] (.val i64T (zgc s n)):=by
 obtain⟨P1,hP1⟩:∃P1,P1=zb8 (zag s.tip) s.tip.work n:=⟨_,rfl⟩;have hpk:=zB (zu4 (zag s.tip) s.tip.work n);rw[←hP1] at hpk;refine zc Tryz.func14 rfl rfl rfl (fun ext w hext=>?_);refine zf (d:=1) rfl zt (fun hin1=>?_);refine qai ?_;refine qaA ?_;refine CB ?_;refine qb5 ?_;refine A0 zbu ?_;refine qad ?_;refine Cf (p:=n<1) (fun ht12=>?_) (fun ht12=>?_)
 ·
  refine CS ?_;refine ziq rfl (by simpa [IntL.toI] using ht12) ?_;refine qau ?_;exact zb rfl rfl (za rfl (by unfold zgc;rw[if_pos (.inl ht12)]))
 have hn1:=ht12;refine CR ?_;refine qaw ?_;refine A0 zcq ?_;refine qad ?_;refine Cf (p:=20<n) (fun ht12=>?_) (fun ht12=>?_)
 ·
  refine qau ?_;exact zb rfl rfl (za rfl (by unfold zgc;rw[if_pos (.inr ht12)]))
 have hn2:=ht12;refine CQQR ?_;refine A0 (oFp zjq) ?_;refine A0 (oLb zcm zaF) ?_;refine A0 (oCl (zgK s.tip) rfl fn_42 yd) ?_;refine A0 oN ?_;refine qad ?_;refine zo (p:=zat s.tip=false) rfl (by cases zat s.tip<;>rfl) (fun ht17=>?_) (fun ht17=>?_)
 ·
  refine CS ?_;refine ziq rfl (by rw[ht17];rfl) ?_;refine qau ?_;exact zb rfl rfl (za rfl (by unfold zgc;rw[if_neg ya,if_pos (.inl ht17)]))
 have hm1:=ht17;refine CR ?_;refine A0 (oFp zjq) ?_;refine A0 (oFp zcr) ?_;refine A0 (oLb (zcm.comp zak) ty_3) ?_;refine A0 zbu ?_;refine qad ?_;refine Cf (p:=s.tip.height<1) (fun ht17=>?_) (fun ht17=>?_)
 ·
  refine qau ?_;exact zb rfl rfl (za rfl (by unfold zgc;rw[if_neg ya,if_pos (.inr ht17)]))
 have hm2:=ht17;have h17:¬(zat s.tip=false∨s.tip.height<1):=fun h=>h.elim hm1 ht17
 refine CQQR ?_;refine A0 (oFp zqM) ?_;refine A0 (oLb zl1 ty_57) ?_;refine A0 (zO rfl rfl isl_57) ?_;refine qaw ?_;refine A0 ze1 ?_;refine qad ?_;refine zo (p:=¬(s.s.length:Int)=n) rfl yO (fun ht26=>?_) (fun ht26=>?_)
 ·
  refine CS ?_;refine ziq rfl (by simpa [IntL.toI] using ht26) ?_;refine qau ?_;exact zb rfl rfl (za rfl (by unfold zgc;rw[if_neg ya,if_neg h17,if_pos (.inl ht26)]))
 have hs1:=ht26;refine CR ?_;refine A0 (oFp zjq) ?_;refine A0 (oFp zcr) ?_;refine A0 (oLb (zcm.comp zak) ty_3) ?_;refine A0 zcq ?_;refine qad ?_;refine Cf (p:=64<s.tip.height) (fun ht26=>?_) (fun ht26=>?_)
 ·
  refine qau ?_;exact zb rfl rfl (za rfl (by unfold zgc;rw[if_neg ya,if_neg h17,if_pos (.inr ht26)]))
 have hs2:=ht26;have hck:zgc s n=zjR s.tip P1 s.s 0:=by unfold zgc;rw[if_neg ya,if_neg h17,if_neg (fun h=>h.elim hs1 ht26),hP1]
 refine CS ?_;refine CI ?_;refine qbc ?_;refine G0 (oFp zjq) ?_;refine G0 (oLb zcm zaF) ?_;refine G0 (oCl (zdb s.tip) rfl zoP yd) ?_;refine G0 (oFp zjq) ?_;refine G0 (oFp zih) ?_;refine G0 (oLb (zcm.comp zdw) zap) ?_;refine G0 mV ?_;refine G0 (oCl (hpk) rfl fn_39 yJ) ?_;refine qbB ?_;refine CQQR ?_;refine A0 (oFp zqM) ?_;refine A0 (oLb zl1 ty_57) ?_;refine A0 (zO rfl rfl isl_57) ?_;refine qa0 ?_;refine Lp (ι:=Nat) 1 (fun k=>(((((Fr.none.set 1 (.val i64T n)).set 2 (.ptr 0 0)).set 5 (.val (sl zan) P1)).set 45 (.val (sl zc3) s.s)).set 46 (.val i64T (s.s.length:Int))).set 47 (.val i64T (k:Int))) (fun k=>Hp.none.set 0 (.box 59 zcf s)) (fun k=>k≤s.s.length∧zgc s n=zjR s.tip P1 (s.s.drop k) k) (fun k=>s.s.length-k) (0) (⟨uf _,hck⟩) ?_;intro k hinv;refine qal ?_;refine Cf (p:=k<s.s.length) (fun ht48=>?_) (fun ht48=>?_)
 ·
  obtain⟨x,hx⟩:∃x,s.s[k]?=some x:=⟨_,ub ht48⟩;have hst:=samps_step (tip:=s.tip) (P:=P1) hx;refine qaL ?_;refine A0 (zR (i:=k) rfl rfl rfl ya sl_57 yj) ?_;refine A0 (ze rfl rfl zuF) ?_;refine zq ze_108 rfl rfl rfl rfl ?_;refine A0 aV ?_;refine zg rfl rfl rfl rfl rfl (Lens.self _) zuF rfl ?_;refine CNQR ?_;refine A0 (oFp zjq) ?_;refine A0 (oLb zcm zaF) ?_;refine A0 (oLs rfl rfl rfl zuF) ?_;refine A0 (zu rfl ze_112 bd_112 (.cons zmB zgh zaF rfl (.cons zga zdK zuF rfl .nil)) rfl) ?_;refine xc ?_;refine A0 aP ?_;refine qaN ?_;refine A0 (zO rfl rfl ztS) ?_;refine qcs ?_;refine Cf (p:=0<P1.length) (fun ht59=>?_) (fun ht59=>?_)
  ·
   have hpl:(P1.length:Int)=n:=by rw[hP1] at ht59 ⊢;refine zsd ⟨by omega,by omega,fun e=>?_⟩;rw[ziB (fun h=>h.2.2 e)] at ht59;exact absurd ht59 yn
   obtain⟨y,hy⟩:∃y,P1[k]?=some y:=yo;have hgd:P1.getD k zav=y:=by rw[uq,hy];rfl
   refine CR ?_;refine A0 mP ?_;refine qaq ?_;refine A0 (zR (i:=k) rfl rfl rfl ya sl_102 yj) ?_;refine A0 (ze rfl rfl zap) ?_;refine xb ?_;refine A0 (oFp zqR) ?_;refine zg rfl rfl rfl rfl rfl zhw zap rfl ?_;refine CNQ ?_;obtain⟨z,hz⟩:∃z:STrial,z=⟨s.tip,x,P1.getD k zav⟩:=⟨_,rfl⟩;refine z8 (n:=2) (y:=z) rfl (by rw[hz];first|(rw[hgd])|(rw[uq,List.getElem?_eq_none ya];rfl)) ?_;refine zci (d:=8) rfl rfl (Lens.self _) ?_;refine CR ?_;refine qcl ?_;refine A0 mR ?_;refine A0 (g_mkb rfl rfl) ?_;refine A0 (zL (T:=(bndT zeg)) (xs:=[_,_,_]) rfl zlE row_113 yaf rfl rfl) ?_;obtain⟨L,hL⟩:∃L,L=sthree z:=⟨_,rfl⟩;refine zj (d:=73) (y:=L) rfl hL.symm ?_;refine A0 (zO rfl rfl isl_113) ?_;refine qa0 ?_;refine Lp (ι:=Nat) 1 (fun j=>((((((((Fr.none.set 1 (.val i64T n)).set 2 (.ptr 0 0)).set 5 (.val (sl zan) P1)).set 45 (.val (sl zc3) s.s)).set 46 (.val i64T (s.s.length:Int))).set 47 (.val i64T (k:Int))).set 73 (.val (sl (bndT zeg)) L)).set 74 (.val i64T (L.length:Int))).set 75 (.val i64T (j:Int))) (fun j=>Hp.none.set 0 (.box 59 zcf s)) (fun j=>j≤L.length∧zoR L=zoR (L.drop j)) (fun j=>L.length-j) (0) (⟨uf _,rfl⟩) ?_;intro j hjn;refine qal ?_;refine Cf (p:=j<L.length) (fun ht76=>?_) (fun ht76=>?_)
   ·
    obtain⟨e,he⟩:∃e,L[j]?=some e:=⟨_,ub ht76⟩;have hask:e=(43,z)∨e=(44,z)∨e=(45,z):=ybX;have has:=ztd he;have hL3:L.length=3:=by rw[hL];rfl
    rcases hask with hk|hk|hk
    ·
     refine CSQBQR ?_;refine xJ ?_;refine A0 (ze rfl rfl ty_91) ?_;refine zj (d:=78) (y:=(43,z)) rfl hk ?_;refine qaR ?_;refine A0 mX ?_;refine A0 (zk9 (zrN z) rfl rfl fn_43 rfl) ?_;refine qaR ?_;refine qav ?_;refine zo (p:=¬zeW e=0) rfl yay (fun ht82=>?_) (fun ht82=>?_)
     ·
      refine qbb ?_;exact zb rfl rfl (za rfl yH)
     refine qaU ?_;exact Nx (j+1) (⟨by omega,by rw[hjn.2,has,if_pos (ua ht82)]⟩) ya
    ·
     refine CSQBQR ?_;refine xJ ?_;refine A0 (ze rfl rfl ty_91) ?_;refine zj (d:=78) (y:=(44,z)) rfl hk ?_;refine qaR ?_;refine A0 mX ?_;refine A0 (zk9 (zuG z) rfl rfl fn_44 rfl) ?_;refine qaR ?_;refine qav ?_;refine zo (p:=¬zeW e=0) rfl yay (fun ht82=>?_) (fun ht82=>?_)
     ·
      refine qbb ?_;exact zb rfl rfl (za rfl yH)
     refine qaU ?_;exact Nx (j+1) (⟨by omega,by rw[hjn.2,has,if_pos (ua ht82)]⟩) ya
    refine CSQBQR ?_;refine xJ ?_;refine A0 (ze rfl rfl ty_91) ?_;refine zj (d:=78) (y:=(45,z)) rfl hk ?_;refine qaR ?_;refine A0 mX ?_;refine A0 (zk9 (zuM z) rfl rfl fn_45 rfl) ?_;refine qaR ?_;refine qav ?_;refine zo (p:=¬zeW e=0) rfl yay (fun ht82=>?_) (fun ht82=>?_)
    ·
     refine qbb ?_;exact zb rfl rfl (za rfl yH)
    refine qaU ?_;exact Nx (j+1) (⟨by omega,by rw[hjn.2,has,if_pos (ua ht82)]⟩) ya
   refine CE ?_;refine CI ?_;refine CR ?_;refine qah ?_;exact Nx (k+1) (⟨by omega,by rw[hinv.2,hst,←zdH (tip:=s.tip),←hz,←hL,hjn.2,List.drop_of_length_le ya];rfl⟩) ya
  refine CS ?_;refine CQ ?_;obtain⟨z,hz⟩:∃z:STrial,z=⟨s.tip,x,P1.getD k zav⟩:=⟨_,rfl⟩;refine z8 (n:=2) (y:=z) rfl (by rw[hz];first|(rw[hgd])|(rw[uq,List.getElem?_eq_none ya];rfl)) ?_;refine zci (d:=8) rfl rfl (Lens.self _) ?_;refine CR ?_;refine qcl ?_;refine A0 mR ?_;refine A0 (g_mkb rfl rfl) ?_;refine A0 (zL (T:=(bndT zeg)) (xs:=[_,_,_]) rfl zlE row_113 yaf rfl rfl) ?_;obtain⟨L,hL⟩:∃L,L=sthree z:=⟨_,rfl⟩;refine zj (d:=73) (y:=L) rfl hL.symm ?_;refine A0 (zO rfl rfl isl_113) ?_;refine qa0 ?_;refine Lp (ι:=Nat) 1 (fun j=>((((((((Fr.none.set 1 (.val i64T n)).set 2 (.ptr 0 0)).set 5 (.val (sl zan) P1)).set 45 (.val (sl zc3) s.s)).set 46 (.val i64T (s.s.length:Int))).set 47 (.val i64T (k:Int))).set 73 (.val (sl (bndT zeg)) L)).set 74 (.val i64T (L.length:Int))).set 75 (.val i64T (j:Int))) (fun j=>Hp.none.set 0 (.box 59 zcf s)) (fun j=>j≤L.length∧zoR L=zoR (L.drop j)) (fun j=>L.length-j) (0) (⟨uf _,rfl⟩) ?_;intro j hjn;refine qal ?_;refine Cf (p:=j<L.length) (fun ht76=>?_) (fun ht76=>?_)
  ·
   obtain⟨e,he⟩:∃e,L[j]?=some e:=⟨_,ub ht76⟩;have hask:e=(43,z)∨e=(44,z)∨e=(45,z):=ybX;have has:=ztd he;have hL3:L.length=3:=by rw[hL];rfl
   rcases hask with hk|hk|hk
   ·
    refine CSQBQR ?_;refine xJ ?_;refine A0 (ze rfl rfl ty_91) ?_;refine zj (d:=78) (y:=(43,z)) rfl hk ?_;refine qaR ?_;refine A0 mX ?_;refine A0 (zk9 (zrN z) rfl rfl fn_43 rfl) ?_;refine qaR ?_;refine qav ?_;refine zo (p:=¬zeW e=0) rfl yay (fun ht82=>?_) (fun ht82=>?_)
    ·
     refine qbb ?_;exact zb rfl rfl (za rfl yH)
    refine qaU ?_;exact Nx (j+1) (⟨by omega,by rw[hjn.2,has,if_pos (ua ht82)]⟩) ya
   ·
    refine CSQBQR ?_;refine xJ ?_;refine A0 (ze rfl rfl ty_91) ?_;refine zj (d:=78) (y:=(44,z)) rfl hk ?_;refine qaR ?_;refine A0 mX ?_;refine A0 (zk9 (zuG z) rfl rfl fn_44 rfl) ?_;refine qaR ?_;refine qav ?_;refine zo (p:=¬zeW e=0) rfl yay (fun ht82=>?_) (fun ht82=>?_)
    ·
     refine qbb ?_;exact zb rfl rfl (za rfl yH)
    refine qaU ?_;exact Nx (j+1) (⟨by omega,by rw[hjn.2,has,if_pos (ua ht82)]⟩) ya
   refine CSQBQR ?_;refine xJ ?_;refine A0 (ze rfl rfl ty_91) ?_;refine zj (d:=78) (y:=(45,z)) rfl hk ?_;refine qaR ?_;refine A0 mX ?_;refine A0 (zk9 (zuM z) rfl rfl fn_45 rfl) ?_;refine qaR ?_;refine qav ?_;refine zo (p:=¬zeW e=0) rfl yay (fun ht82=>?_) (fun ht82=>?_)
   ·
    refine qbb ?_;exact zb rfl rfl (za rfl yH)
   refine qaU ?_;exact Nx (j+1) (⟨by omega,by rw[hjn.2,has,if_pos (ua ht82)]⟩) ya
  refine CE ?_;refine CI ?_;refine CR ?_;refine qah ?_;exact Nx (k+1) (⟨by omega,by rw[hinv.2,hst,←zdH (tip:=s.tip),←hz,←hL,hjn.2,List.drop_of_length_le ya];rfl⟩) ya
 refine CE ?_;refine qau ?_;exact zb rfl rfl (za rfl (by rw[hinv.2,List.drop_of_length_le ya];rfl))
theorem zll (l:List Block) (n:Int) (hl:zhR l):Tells P 13 [.val (bsl zH) l,.val i64T n] (.tup2 (.val zcf (zd1 l n)) (.val i64T (zcG l n))):=by
 have hll:=hl.1;refine zc Tryz.func13 rfl rfl rfl (fun ext w hext=>?_);refine zf (d:=0) rfl zl (fun hsl0=>?_);refine zf (d:=1) rfl zt (fun hin1=>?_);refine CQR ?_;refine zq zrq rfl rfl rfl rfl ?_;refine qag ?_;refine A0 (oCl (zkt l hl) rfl fn_6 yd) ?_;refine qa1 ?_;refine qam ?_;refine qbz ?_;refine zo (p:=¬(zM l).2=0) rfl yO (fun ht21=>?_) (fun ht21=>?_)
 ·
  refine CQR ?_;refine A0 (zu rfl zrq bd_59 .nil rfl) ?_;refine qaw ?_;refine qbi ?_;refine qad ?_;exact zp rfl rfl (zx rfl rfl zow (zq6 (e:=(zM l).2) (by unfold zcG;rw[if_pos ht21]) ht21)) (zad (za rfl (by unfold zcG;rw[if_pos ht21])))
 refine qb2 ?_;refine A0 zbu ?_;refine qaw ?_;refine Sp (d:=26) (p:=n<1) (fun g26=>?_) (fun g26=>?_)
 ·
  refine A2 ?_;refine A2 ?_;refine qaH ?_;refine qas ?_;refine Ct ?_;refine CQR ?_;refine A0 (zu rfl zrq bd_59 .nil rfl) ?_;refine qbi ?_;refine qad ?_;exact zp rfl rfl (zx rfl rfl zow (zq6 (e:=1) y9 yn)) (zad (za rfl y9))
 refine qbx ?_;refine qaj ?_;refine Sp (d:=30) (p:=20<n) (fun g30=>?_) (fun g30=>?_)
 ·
  refine qac ?_;refine qas ?_;refine Ct ?_;refine CQR ?_;refine A0 (zu rfl zrq bd_59 .nil rfl) ?_;refine qbi ?_;refine qad ?_;exact zp rfl rfl (zx rfl rfl zow (zq6 (e:=1) y9 yn)) (zad (za rfl y9))
 refine A1 mV ?_;refine A1 (zO rfl rfl zeB) ?_;refine A1 zbu ?_;refine qas ?_;refine Cf (p:=l.length<2) (fun ht34=>?_) (fun ht34=>?_)
 ·
  refine CQR ?_;refine A0 (zu rfl zrq bd_59 .nil rfl) ?_;refine qbi ?_;refine qad ?_;exact zp rfl rfl (zx rfl rfl zow (zq6 (e:=1) y9 yn)) (zad (za rfl y9))
 have hb:zcG l n=0:=by unfold zcG;rw[if_neg ht21,if_neg ya]
 obtain⟨t,m,h0,hc,hm,hn1,hn2,hbo,hpn⟩:=zrX hb;have h48:=(zch hc).2.2.1;obtain⟨L,hLd⟩:∃L,L=zQ (l.take (m+1)):=⟨_,rfl⟩;have hLl:L.length=m+1:=by rw[hLd];unfold zQ;rw[List.length_map,um];omega
 obtain⟨P1,hP1⟩:∃P1,P1=zb8 (zag t.b.h) t.b.h.work n:=⟨_,rfl⟩;have hpk:=zB (zu4 (zag t.b.h) t.b.h.work n);rw[←hP1] at hpk;have hlv:=zB (leaves_ok (l.take (m+1)) ybd);rw[←hLd] at hlv;rw[←hLd,←hP1] at hbo;have hPl:P1.length≤20:=by rw[hP1];exact picks_le
 refine CS ?_;refine CQ ?_;refine z8 (n:=1) (y:=t) rfl (by rw[h0]) ?_;refine CR ?_;refine A0 (oFp zc5) ?_;refine A0 (oFp zaU) ?_;refine A0 (oLb (zc6.comp zal) zaF) ?_;refine A0 (zu rfl zn_35 bd_59 (.cons zjq (Lens.fst _ _) zaF rfl .nil) rfl) ?_;refine zq zn_35 rfl rfl rfl rfl ?_;refine qbi ?_;refine CN ?_;refine aw_nilbox2 2 108 zc3 rfl rfl ?_;refine CQR ?_;refine qaq ?_;refine xB ?_;refine A0 zbh ?_;refine A0 (by first|exact zer rfl rfl rfl yah zfQ|exact zi1 rfl rfl rfl zfQ yh) ?_;refine zj (d:=44) (y:=l.take (m+1)) rfl (by congr 1;omega) ?_;refine A0 (oCl (hlv) rfl fn_38 yd) ?_;refine qaA ?_;refine qbc ?_;refine G0 (oFp zc5) ?_;refine G0 (oFp zaU) ?_;refine G0 (oLb (zc6.comp zal) zaF) ?_;refine G0 (oCl (zdb t.b.h) rfl zoP yd) ?_;refine G0 (oFp zc5) ?_;refine G0 (oFp zaU) ?_;refine G0 (oFp zih) ?_;refine G0 (oLb ((zc6.comp zal).comp zdw) zap) ?_;refine G0 mV ?_;refine G0 (oCl (hpk) rfl fn_39 yJ) ?_;refine G0 (zO rfl rfl ztS) ?_;refine G0 mV ?_;refine GK.nil ?_;refine CB ?_;refine Lp (ι:=Nat) 4 (fun k=>((((((Fr.none.set 0 (.val (bsl zH) l)).set 4 (.ptr 0 0)).set 8 (.ptr 2 0)).set 9 (.val (sl zah) L)).set 55 (.val (sl zan) P1)).set 56 (.val i64T (P1.length:Int))).set 57 (.val i64T (k:Int))) (fun k=>((Hp.none.set 0 (.box 59 zcf zhG)).set 2 (.parts 59 [.val zbl t.b.h,.own 3])).set 3 (.row 108 zc3 ((P1.take k).map (zhT l L)))) (fun k=>k≤P1.length) (fun k=>P1.length-k) (0) (uf _) ?_;intro k hinv;refine qal ?_;refine Cf (p:=k<P1.length) (fun ht58=>?_) (fun ht58=>?_)
 ·
  obtain⟨z,hz⟩:∃z,P1[k]?=some z:=⟨_,ub ht58⟩;obtain⟨q,b,q1,q2,q3,w4,q4,q5,q6,q7⟩:=pick_at (n:=n) (w:=z) hc hm (by rw[←hP1];exact ud hz);rw[←hLd] at q4;have hsa:=samp_at (l:=l) q4 q2 ya ya;refine CSQBQR ?_;refine A0 (zR (i:=k) rfl rfl rfl ya sl_102 yj) ?_;refine A0 (ze rfl rfl zap) ?_;refine qaz ?_;refine qak ?_;refine CNQR ?_;refine qaw ?_;refine qaG ?_;refine A0 (oCl (locate_ok L z) rfl fn_40 yi) ?_;refine zj (d:=63) (y:=(q:Int)) rfl q4 ?_;refine qag ?_;refine qaw ?_;refine A0 (oCl (zcO (path_ok L (q:Int))) rfl fn_41 yi) ?_;refine qaQ ?_;refine qbu ?_;refine zC [some 1,some 1,some 1,some 1,some 1,some 1,some 1,some 1,some 1,some 1,some 1,none,some 1,none] mixed yc ?_;refine X0 (oFp zqM) ?_;refine X0 (z6 rfl rfl rfl rfl rfl ty_57) ?_;refine qb9 ?_;refine X0 mV ?_;refine X0 (zR (i:=q) rfl rfl rfl ya zfQ yj) ?_;refine X0 (oFr zaU zal) ?_;refine X0 (ze rfl rfl zaF) ?_;refine X0 mV ?_;refine X0 (zu rfl ze_108 bd_108 (.cons zqS zlu ty_3 rfl (.cons zkm zgW zaF rfl (.cons zvP zkF zox rfl .nil))) rfl) ?_;refine X0 (zL (T:=zc3) (xs:=[_]) rfl sl_57 row_57 yx rfl rfl) ?_;refine XK.e (fun fr' hfr kk H=>by exact zN rfl rfl rfl rfl ((hfr 71 yc).trans rfl) rfl ((hfr 80 yc).trans rfl) row_57 yam (zr H)) ?_;refine X0 (oFp zqM) ?_;refine XK.e (x:=.idk) (fun fr' hfr kk H=>by exact zaB rfl rfl rfl ((hfr 82 yc).trans rfl) rfl rfl ((hfr 81 yc).trans rfl) rfl rfl rfl ty_57 (zr H)) ?_;refine qaI ?_;refine zaS 5 3 6 rfl rfl rfl rfl rfl rfl ?_;refine zz (n:=3) (y:=(P1.take (k+1)).map (zhT l L)) rfl (by rw[un,hz,List.map_append];simp[hsa]) ?_;exact Nx (k+1) ya ya
 refine CE ?_;refine CQ ?_;refine zz (n:=3) (y:=P1.map (zhT l L)) rfl yN ?_;refine aw_joinbox 2 3 (z:=(⟨t.b.h,P1.map (zhT l L)⟩:Sampling)) (R:=zcf) rfl rfl rfl (fun h1 h2=>⟨_,_,rfl,h1,h2⟩) ?_;refine CR ?_;refine A0 (oLs rfl rfl rfl zow) ?_;refine qbi ?_;refine qad ?_;exact zp rfl rfl (zx rfl rfl zow (hbo.symm)) (zad (za rfl (hb.symm)))
theorem awakeT_ok:Tells P 4 [] (.val zn true):=by
 refine zc Tryz.func4 rfl rfl rfl (fun ext w hext=>?_);have hx1:zgN.p[1]?=some (⟨zbv.h,[id0]⟩:Part):=rfl;have hw2:([zcZ,zbv]:List Block)[1]?=some zbv:=rfl;refine CQR ?_;refine qa4 ?_;refine A0 (oCl (two_ok) rfl fn_15 trivial) ?_;refine qag ?_;refine A0 (oCl (zpj [zcZ,zbv] 1 1 ztw) rfl fn_7 yJ) ?_;refine qbL ?_;refine zj (d:=12) (y:=zgN) rfl (easy_pr) ?_;refine A0 y5 ?_;refine zj (d:=13) (y:=(0:Int)) rfl (zvQ) ?_;refine qb8 ?_;refine qao ?_;refine qa4 ?_;refine A0 (oLs rfl rfl rfl zbw) ?_;refine A0 (oCl (ztH zgN) rfl fn_8 yd) ?_;refine qaQ ?_;refine zj (d:=18) (y:=true) rfl (zkp) ?_;refine A0 aV ?_;refine qag ?_;refine A0 (oCl (zqm (zgm zgN) (by rw[easy_plen];decide)) rfl fn_9 yd) ?_;refine qbL ?_;refine zj (d:=22) (y:=zgN) rfl ((znh zqU.1).trans zqU.2) ?_;refine A0 y5 ?_;refine zj (d:=23) (y:=true) rfl (zqU.1) ?_;refine qb8 ?_;refine qao ?_;refine qcj ?_;refine G0 mV ?_;refine G0 zcw ?_;refine G0 mV ?_;refine zoq (d:=26) rfl (rfl) ?_;refine G1 mV ?_;refine qbk ?_;refine zoq (d:=29) rfl (rfl) ?_;refine G1 mV ?_;refine qbk ?_;refine zoq (d:=32) rfl (rfl) ?_;refine G1 (oLs rfl rfl rfl zbw) ?_;refine G1 (oCl (zn8 zgN) rfl fn_11 yd) ?_;refine G1 zcw ?_;refine qbk ?_;refine zoq (d:=37) rfl (by rw[easy_check];rfl) ?_;refine G1 (oFp za4) ?_;refine G1 (oLb zaW zef) ?_;refine G1 (zO rfl rfl zdA) ?_;refine G1 zcw ?_;refine qbk ?_;refine zoq (d:=43) rfl (rfl) ?_;refine G1 mV ?_;refine G1 (zO rfl rfl zeB) ?_;refine G1 zcw ?_;refine qbk ?_;refine zoq (d:=48) rfl (rfl) ?_;refine G1 (oFp za4) ?_;refine G1 (oLb zaW zef) ?_;refine G1 (zR (i:=1) rfl rfl rfl ya zjN yj) ?_;refine G1 (oFr zc4 zcd) ?_;refine G1 (ze rfl rfl zaF) ?_;refine G1 mV ?_;refine G1 (zR (i:=1) rfl rfl rfl ya zfQ yj) ?_;refine G1 (oFr zaU zal) ?_;refine G1 (ze rfl rfl zaF) ?_;refine G1 (zlS rfl rfl rfl (zpz)) ?_;refine qbk ?_;refine zoq (d:=60) rfl yB ?_;refine G1 mV ?_;refine G1 (zR (i:=1) rfl rfl rfl ya zfQ yj) ?_;refine G1 (oFr zaU zal) ?_;refine G1 (ze rfl rfl zaF) ?_;refine G1 (oCl (zdb zbv.h) rfl zoP ybz) ?_;refine G1 (zhi rfl zjz ze_26 rfl) ?_;refine G1 (zhy rfl rfl rfl (zkn)) ?_;refine G0 oK ?_;refine qbB ?_;exact zb rfl rfl (za rfl (by rw[easy_nz];rfl))
theorem zoS (l:List Block) (m k q n:Int) (hl:zhR l):Tells P 3 [.val (sl zH) l,.val i64T m,.val i64T k,.val i64T q,.val i64T n] (.val zn true):=by
 have hll:=hl.1;refine zc Tryz.func3 rfl rfl rfl (fun ext w hext=>?_);refine zf (d:=0) rfl zl (fun hsl0=>?_);refine zf (d:=1) rfl zt (fun hin1=>?_);refine zf (d:=2) rfl zt (fun hin2=>?_);refine zf (d:=3) rfl zt (fun hin3=>?_);refine zf (d:=4) rfl zt (fun hin4=>?_);refine zf (d:=0) rfl fact_bw (fun hbw=>?_);refine CQR ?_;refine qa4 ?_;refine A0 (oCl (awakeT_ok) rfl fn_4 trivial) ?_;refine qag ?_;refine A0 (oCl (fewC_ok l) rfl fn_5 yd) ?_;refine qag ?_;refine A0 (oCl (zkt l hl) rfl fn_6 yd) ?_;refine qa1 ?_;refine qam ?_;refine A0 oN ?_;refine zed (d:=38) rfl (rfl) ?_;refine qaw ?_;refine A1 mV ?_;refine A1 oN ?_;refine zbj (d:=41) (p:=¬fewC l=true) rfl (by cases fewC l<;>rfl) (fun g41=>?_) (fun g41=>?_)
 ·
  refine qaj ?_;refine qa5 ?_;refine A2 ?_;refine qaj ?_;refine qa5 ?_;refine A2 ?_;refine qaj ?_;refine A2 ?_;refine qar ?_;refine qas ?_;refine Ct ?_;refine qcd ?_;exact zb rfl rfl (za rfl (rfl))
 refine qbP ?_;refine A1 ze1 ?_;refine zbj (d:=45) (p:=¬(zM l).2=0) rfl yO (fun g45=>?_) (fun g45=>?_)
 ·
  refine qaj ?_;refine qa5 ?_;refine A2 ?_;refine qaj ?_;refine qa5 ?_;refine qar ?_;refine qas ?_;refine Ct ?_;refine qcd ?_;exact zb rfl rfl (za rfl (rfl))
 refine qbP ?_;refine A1 zbu ?_;refine Sp (d:=49) (p:=m<1) (fun g49=>?_) (fun g49=>?_)
 ·
  refine qaj ?_;refine qa5 ?_;refine A2 ?_;refine qaj ?_;refine A2 ?_;refine qar ?_;refine qas ?_;refine Ct ?_;refine qcd ?_;exact zb rfl rfl (za rfl (rfl))
 refine qaj ?_;refine qbx ?_;refine Sp (d:=53) (p:=20<m) (fun g53=>?_) (fun g53=>?_)
 ·
  refine qaj ?_;refine qa5 ?_;refine qar ?_;refine qas ?_;refine Ct ?_;refine qcd ?_;exact zb rfl rfl (za rfl (rfl))
 refine qbP ?_;refine A1 zbu ?_;refine Sp (d:=57) (p:=k<1) (fun g57=>?_) (fun g57=>?_)
 ·
  refine qaj ?_;refine A2 ?_;refine qar ?_;refine qas ?_;refine Ct ?_;refine qcd ?_;exact zb rfl rfl (za rfl (rfl))
 refine qaj ?_;refine qbx ?_;refine Sp (d:=61) (p:=20<k) (fun g61=>?_) (fun g61=>?_)
 ·
  refine qaH ?_;refine A2 ?_;refine qas ?_;refine Ct ?_;refine qcd ?_;exact zb rfl rfl (za rfl (rfl))
 refine qbP ?_;refine A1 (zO rfl rfl zeB) ?_;refine A1 mV ?_;refine A1 zh2 ?_;refine qas ?_;refine Cf (p:=(l.length:Int)≤k) (fun ht68=>?_) (fun ht68=>?_)
 ·
  refine qcd ?_;exact zb rfl rfl (za rfl (rfl))
 have hfc:=fewC_len (ua g41);have hpe:prE l m k=0:=by unfold prE;rw[if_neg g45,if_neg ya]
 have hbp:=build_put hpe hfc hbw;have hpb:=zu2 hbp.2.1 hbp.1;have hbd:=pput_bd hbp.2.1;refine CSQR ?_;refine qaq ?_;refine qaw ?_;refine A0 (oCl (zpj l m k hl) rfl fn_7 yJ) ?_;refine qaQ ?_;refine qb8 ?_;refine qao ?_;refine qa4 ?_;refine A0 (oLs rfl rfl rfl zbw) ?_;refine A0 (oCl (ztH (prOf l m k)) rfl fn_8 yd) ?_;refine qaQ ?_;refine A0 aV ?_;refine qag ?_;refine A0 (oCl (zqm (zgm (prOf l m k)) ya) rfl fn_9 yd) ?_;refine qaQ ?_;refine qb8 ?_;refine qao ?_;refine qam ?_;refine A0 ze1 ?_;refine zed (d:=88) rfl (by rw[hpe];rfl) ?_;refine qaw ?_;refine A1 mV ?_;refine A1 oN ?_;refine zed (d:=91) rfl (by rw[hbp.1];rfl) ?_;refine qbP ?_;refine A1 oN ?_;refine zed (d:=95) rfl (by rw[hpb.1];rfl) ?_;refine qaj ?_;refine A1 (oLs rfl rfl rfl zbw) ?_;refine A1 (oLs rfl rfl rfl zbw) ?_;refine A1 (oCl (zuT (zoD (zgm (prOf l m k))) (prOf l m k)) rfl fn_10 yi) ?_;refine A1 oN ?_;refine zed (d:=101) rfl (by rw[hpb.2];simp) ?_;refine qaj ?_;refine A1 (oLs rfl rfl rfl zbw) ?_;refine A1 (oCl (zn8 (zoD (zgm (prOf l m k)))) rfl fn_11 yd) ?_;refine A1 ze1 ?_;refine zed (d:=106) rfl (by rw[hpb.2,zud hpe];rfl) ?_;refine qas ?_;refine Cg ?_;refine qb2 ?_;refine A0 zfR ?_;refine Sp (d:=109) (p:=0≤q) (fun g109=>?_) (fun g109=>?_)
 ·
  refine qaw ?_;refine A1 mV ?_;refine A1 mV ?_;refine A1 (zO rfl rfl zeB) ?_;refine A1 mV ?_;refine A1 zbh ?_;refine A1 zbu ?_;refine qas ?_;refine Cf (p:=q<(l.length:Int)-k) (fun ht117=>?_) (fun ht117=>?_)
  ·
   have hwe:wiE l m k q=0:=ybU;have hwp:=way_put hwe hfc hbw;have hwb:=zu2 hwp.2.1 hwp.1;have hwd:=pput_bd hwp.2.1;refine CQR ?_;refine qaq ?_;refine qaq ?_;refine A0 (oCl (prWith_ok l m k q hl) rfl fn_12 ybf) ?_;refine qaQ ?_;refine qb8 ?_;refine qao ?_;refine qa4 ?_;refine A0 (oLs rfl rfl rfl zbw) ?_;refine A0 (oCl (ztH (wiOf l m k q)) rfl fn_8 yd) ?_;refine qaQ ?_;refine A0 aV ?_;refine qag ?_;refine A0 (oCl (zqm (zgm (wiOf l m k q)) ya) rfl fn_9 yd) ?_;refine qaQ ?_;refine qb8 ?_;refine qao ?_;refine qag ?_;refine A0 ze1 ?_;refine zed (d:=137) rfl (by rw[hwe];rfl) ?_;refine qaw ?_;refine A1 mV ?_;refine A1 oN ?_;refine zed (d:=140) rfl (by rw[hwp.1];rfl) ?_;refine qbP ?_;refine A1 oN ?_;refine zed (d:=144) rfl (by rw[hwb.1];rfl) ?_;refine qaj ?_;refine A1 (oLs rfl rfl rfl zbw) ?_;refine A1 (oLs rfl rfl rfl zbw) ?_;refine A1 (oCl (zuT (zoD (zgm (wiOf l m k q))) (wiOf l m k q)) rfl fn_10 yi) ?_;refine A1 oN ?_;refine zed (d:=150) rfl (by rw[hwb.2];simp) ?_;refine qaj ?_;refine A1 (oLs rfl rfl rfl zbw) ?_;refine A1 (oCl (zn8 (zoD (zgm (wiOf l m k q)))) rfl fn_11 yd) ?_;refine A1 ze1 ?_;refine zed (d:=155) rfl (by rw[hwb.2,wi_holds hwe];rfl) ?_;refine qas ?_;refine Cg ?_;refine CSQR ?_;refine qaq ?_;refine A0 (oCl (zll l n hl) rfl fn_13 yi) ?_;refine qaQ ?_;refine zq zrq rfl rfl rfl rfl ?_;refine qbi ?_;refine qag ?_;refine A0 zbu ?_;refine Sp (d:=164) (p:=n<1) (fun g164=>?_) (fun g164=>?_)
   ·
    refine qaw ?_;refine A2 ?_;refine A2 ?_;refine qbH ?_;exact zb rfl rfl (za rfl (rfl))
   refine qaw ?_;refine qbx ?_;refine Sp (d:=167) (p:=20<n) (fun g167=>?_) (fun g167=>?_)
   ·
    refine qbH ?_;exact zb rfl rfl (za rfl (rfl))
   have hse:zcG l n=0:=ybY;have hsh:=(holds hse).1;refine qbP ?_;refine A1 zcw ?_;refine aw_ist (d:=171) rfl (by rw[hse];rfl) ?_;refine A1 mV ?_;refine A1 (oLs rfl rfl rfl zow) ?_;refine A1 mV ?_;refine A1 (oCl (znc (zd1 l n) n) rfl fn_14 yi) ?_;refine A1 zcw ?_;refine A1 oK ?_;refine qaD ?_;exact zb rfl rfl (za rfl (by rw[hsh];rfl))
  refine CSQR ?_;refine qaq ?_;refine A0 (oCl (zll l n hl) rfl fn_13 yi) ?_;refine qaQ ?_;refine zq zrq rfl rfl rfl rfl ?_;refine qbi ?_;refine qag ?_;refine A0 zbu ?_;refine Sp (d:=164) (p:=n<1) (fun g164=>?_) (fun g164=>?_)
  ·
   refine qaw ?_;refine A2 ?_;refine A2 ?_;refine qbH ?_;exact zb rfl rfl (za rfl (rfl))
  refine qaw ?_;refine qbx ?_;refine Sp (d:=167) (p:=20<n) (fun g167=>?_) (fun g167=>?_)
  ·
   refine qbH ?_;exact zb rfl rfl (za rfl (rfl))
  have hse:zcG l n=0:=ybY;have hsh:=(holds hse).1;refine qbP ?_;refine A1 zcw ?_;refine aw_ist (d:=171) rfl (by rw[hse];rfl) ?_;refine A1 mV ?_;refine A1 (oLs rfl rfl rfl zow) ?_;refine A1 mV ?_;refine A1 (oCl (znc (zd1 l n) n) rfl fn_14 yi) ?_;refine A1 zcw ?_;refine A1 oK ?_;refine qaD ?_;exact zb rfl rfl (za rfl (by rw[hsh];rfl))
 refine qaw ?_;refine qac ?_;refine qac ?_;refine qas ?_;refine Cg ?_;refine CSQR ?_;refine qaq ?_;refine A0 (oCl (zll l n hl) rfl fn_13 yi) ?_;refine qaQ ?_;refine zq zrq rfl rfl rfl rfl ?_;refine qbi ?_;refine qag ?_;refine A0 zbu ?_;refine Sp (d:=164) (p:=n<1) (fun g164=>?_) (fun g164=>?_)
 ·
  refine qaw ?_;refine A2 ?_;refine A2 ?_;refine qbH ?_;exact zb rfl rfl (za rfl (rfl))
 refine qaw ?_;refine qbx ?_;refine Sp (d:=167) (p:=20<n) (fun g167=>?_) (fun g167=>?_)
 ·
  refine qbH ?_;exact zb rfl rfl (za rfl (rfl))
 have hse:zcG l n=0:=ybY;have hsh:=(holds hse).1;refine qbP ?_;refine A1 zcw ?_;refine aw_ist (d:=171) rfl (by rw[hse];rfl) ?_;refine A1 mV ?_;refine A1 (oLs rfl rfl rfl zow) ?_;refine A1 mV ?_;refine A1 (oCl (znc (zd1 l n) n) rfl fn_14 yi) ?_;refine A1 zcw ?_;refine A1 oK ?_;refine qaD ?_;exact zb rfl rfl (za rfl (by rw[hsh];rfl))
end Go.Proofs.YticippfoekpkhaaGreat
