/- Parts of the proof: the layer that reads Go values as data, and what the functions of the program tell. -/
import Derived.Test.YtjjlfapfjjkomaaGreatK7
set_option linter.unusedVariables false
set_option linter.unusedSimpArgs false
set_option maxRecDepth 20000
namespace Go.Proofs.YtjjlfapfjjkomaaGreat
open Go.Ab Go.RowKit
theorem lastAt_is {v:Nat→Int} {n:Int} {a:Nat} (hn:0<n) (ha:a=0∨n≤v a):∀i,a<i→(∀c,a<c→c<i→v c<n)→lastAt v n i=a
  | 0,h,_=>by omega
  | i+1,h,hc=>by
    rw [lastAt]
    by_cases e:i=a
    · subst e
      by_cases z:i=0
      · subst z;rw [if_neg (by omega)];rfl
      · rw [if_pos ⟨by omega,by omega,hn⟩]
    · have h1:=hc i (by omega) (by omega)
      rw [if_neg (by omega)]
      exact lastAt_is hn ha i (by omega) (fun c h2 h3=>hc c h2 (by omega))
theorem level_is {l:List Block} {c:Nat}:levelAt l c=(levelsOf l).getD c 0:=by
  unfold levelAt levelsOf
  rw [List.getD_eq_getElem?_getD,List.getElem?_map]
def LeadsTo (v:List Int) (a b:Int):Prop:=∀c:Nat,a<c→(c:Int)<b→v.getD c 0<v.getD a.toNat 0
theorem block_leads {l:List Block} {t:Tip} (h:Chain l t) {a b:Nat} {x y:Block} (hab:a<b) (hx:l[a]?=some x) (hy:l[b]?=some y) (hl:LeadsTo (levelsOf l) a b):leadsB y.l y.h.prev (headId x.h)=true:=by
  obtain ⟨g,hg⟩:∃g,l[0]?=some g:=⟨_,List.getElem?_eq_getElem (by have:=(List.getElem?_eq_some_iff.1 hy).1;omega)⟩
  unfold leadsB
  by_cases e:a=b-1
  · subst e
    rw [(zdF h (by omega) hy hx hg).2.1];simp
  · rw [Bool.or_eq_true];right
    have hv:=(mayV_spec (chain_mayV h)).2.2.2
    have hbl:=(List.getElem?_eq_some_iff.1 hy).1
    have hlen:=zaM l
    have hlv:∀c,c<l.length→0≤(levelsOf l).getD c 0∧(levelsOf l).getD c 0≤31:=fun c hc=>by
      rw [List.getD_eq_getElem?_getD,List.getElem?_eq_getElem (by omega)]
      exact hv _ (List.getElem_mem (by omega))
    have h1:=hl (a+1) (by omega) (by omega)
    have h2:=(hlv (a+1) (by omega)).1
    have h3:=(hlv a (by omega)).2
    rw [show (a:Int).toNat=a from rfl] at h1
    obtain ⟨n,hn⟩:∃n:Nat,(levelsOf l).getD a 0=n:=⟨((levelsOf l).getD a 0).toNat,by omega⟩
    have hla:lastAt (levelAt l) n b=a:=lastAt_is (by omega) (.inr (by rw [level_is,hn];exact Int.le_refl _)) b hab (fun c hc hcb=>by
      rw [level_is]
      have:=hl c (by omega) (by omega)
      rw [show (a:Int).toNat=a from rfl,hn] at this
      exact this)
    obtain ⟨k0,k1⟩:=chain_linked h (by omega) hy
    obtain ⟨k2,k3⟩:=k1 n (by omega)
    have hid:idAt l a=headId x.h:=by unfold idAt;rw [hx];rfl
    by_cases c:n<y.l.length
    · have:=(k2 c).1
      rw [hla,hid] at this
      exact List.any_eq_true.2 ⟨_,List.mem_of_getElem? this,decide_eq_true rfl⟩
    · have:=k3 (by omega)
      rw [hla] at this
      subst this
      rw [hid] at k0
      exact List.any_eq_true.2 ⟨_,List.mem_of_getElem? k0,decide_eq_true rfl⟩
structure WayOk (l:List Block) (k:Int) (W:List Int):Prop where
  rise:W.Pairwise (· < ·)
  inn:∀x∈W,0≤x∧x<l.length
  zero:(0:Int)∈W
  last:∀x:Int,(l.length:Int)-k-1≤x→x<l.length→x∈W
  lead:∀a∈W,∀b∈W,a<b→(∀c∈W,¬(a<c∧c<b))→LeadsTo (levelsOf l) a b
section
variable {l:List Block} {m k:Int} {W:List Int}
theorem way_first (h:WayOk l k W):W[0]?=some 0:=by
  obtain ⟨j,hj⟩:=List.getElem?_of_mem h.zero
  by_cases e:j=0
  · subst e;exact hj
  · have hjl:=(List.getElem?_eq_some_iff.1 hj).1
    obtain ⟨x,hx⟩:∃x,W[0]?=some x:=⟨_,List.getElem?_eq_getElem (by omega)⟩
    have h1:=(zbg h.rise hx hj).2 (by omega)
    have h2:=(h.inn x (List.mem_of_getElem? hx)).1
    omega
theorem way_next (h:WayOk l k W) {i:Nat} {a b:Int} (ha:W[i]?=some a) (hb:W[i+1]?=some b):∀c∈W,¬(a<c∧c<b):=by
  rintro c hc ⟨h1,h2⟩
  obtain ⟨j,hj⟩:=List.getElem?_of_mem hc
  have g1:=(zbg h.rise ha hj).1 h1
  have g2:=(zbg h.rise hj hb).1 h2
  omega
theorem way_end (h:WayOk l k W) (hk:1≤k) (hkl:k<l.length) {i:Nat} {a b:Int} (ha:W[i]?=some a) (hb:W[i+1]?=some b) (hi:(W.length:Int)-k≤((i+1:Nat):Int)):b=a+1:=by
  have hbm:=h.inn b (List.mem_of_getElem? hb)
  have hbl:(l.length:Int)-k≤b:=Int.not_lt.1 fun c=>by
    have hd:(W.drop (i+1+1)).Pairwise (· < ·):=h.rise.sublist (List.drop_sublist _ _)
    have:=zaR hd (lastk_rising l k) (fun x hx=>by
      obtain ⟨j,hj,rfl⟩:=List.mem_map.1 hx
      rw [List.mem_range] at hj
      obtain ⟨s,hs⟩:=List.getElem?_of_mem (h.last ((l.length:Int)-k+j) (by omega) (by omega))
      have hlt:=(zbg h.rise hb hs).1 (by omega)
      refine List.mem_of_getElem? (i:=s-(i+1+1)) ?_
      rw [List.getElem?_drop,show i+1+1+(s-(i+1+1))=s by omega];exact hs)
    rw [List.length_map,List.length_range,List.length_drop] at this
    have hbl2:=(List.getElem?_eq_some_iff.1 hb).1
    omega
  have hm:=h.last (b-1) (by omega) (by omega)
  have h1:=(zbg h.rise ha hb).2 (by omega)
  have h2:=way_next h ha hb (b-1) hm
  omega
theorem way_holds (hb:BuildOk l m k) (h:WayOk l k W):checkP ⟨m,k,W.map (prPart l)⟩=0:=by
  have hc:=zd8 hb.c
  have h48:=(chain_tip hc).2.2.1
  have hk1:=hb.k1
  have hkl:=hb.kl
  have hlen:W.length≤l.length:=by
    have:=zaR (all_rising l.length) h.rise (fun x hx=>by
      have:=h.inn x hx
      exact List.mem_map.2 ⟨x.toNat,List.mem_range.2 (by omega),by omega⟩)
    simpa using this
  have hkw:k+1≤W.length:=by
    have hr:((List.range (k.toNat+1)).map fun j:Nat=>(l.length:Int)-k-1+(j:Int)).Pairwise (· < ·):=by
      rw [List.pairwise_map]
      exact (List.pairwise_lt_range ..).imp fun h=>by omega
    have:=zaR h.rise hr (fun x hx=>by
      obtain ⟨j,hj,rfl⟩:=List.mem_map.1 hx
      rw [List.mem_range] at hj
      exact h.last _ (by omega) (by omega))
    rw [List.length_map,List.length_range] at this
    omega
  have hpl:(W.map (prPart l)).length=W.length:=List.length_map ..
  have hat:∀i p,W[i]?=some p→∃b:Block,l[p.toNat]?=some b∧b.h.height=p∧yAt ⟨m,k,W.map (prPart l)⟩ i=⟨b.h,b.l⟩:=fun i p hp=>by
    have hm:=h.inn p (List.mem_of_getElem? hp)
    obtain ⟨b,hbk⟩:∃b,l[p.toNat]?=some b:=⟨_,List.getElem?_eq_getElem (by omega)⟩
    refine ⟨b,hbk,?_,?_⟩
    · have:=(zew hc hbk).1;omega
    · unfold yAt prPart
      simp only [List.getD_eq_getElem?_getD]
      rw [List.getElem?_map,hp]
      simp only [Option.map_some,Option.getD_some]
      rw [hbk];rfl
  obtain ⟨g,hg,hg0,hgy⟩:=hat 0 0 (way_first h)
  have hgl:l[0]?=some g:=hg
  rw [checkP_holds]
  refine ⟨hb.m1,hb.m2,hb.k1,hb.k2,by show k<((W.map (prPart l)).length:Int);rw [hpl];omega,by show (W.map (prPart l)).length≤100;rw [hpl];omega,?_,fun i h1 h2=>?_⟩
  · rw [hgy]
    obtain ⟨t',h1,_⟩:=chain_take hc (i:=1) (Nat.le_refl _) (by omega)
    have e:l.take 1=[g]:=by rw [show (1:Nat)=0+1 from rfl,List.take_add_one,hgl];rfl
    rw [e] at h1
    obtain ⟨h3,h4,_⟩:=chain_one h1
    have h5:g.h=firstH g.h.bits:=congrArg (·.h) h4
    have h6:g.l=[]:=congrArg (·.l) h4
    refine ⟨h3,by show g.l.length=0;rw [h6];rfl,?_⟩
    show g.h=(firstTip g.h.bits).b.h
    rw [zdj h3];exact h5
  · have h2:i<W.length:=by have h2:i<(W.map (prPart l)).length:=h2;rwa [hpl] at h2
    obtain ⟨b,hbi⟩:∃b,W[i]?=some b:=⟨_,List.getElem?_eq_getElem h2⟩
    obtain ⟨a,hai⟩:∃a,W[i-1]?=some a:=⟨_,List.getElem?_eq_getElem (by omega)⟩
    obtain ⟨y,hy1,hy2,hy3⟩:=hat i b hbi
    obtain ⟨x,hx1,hx2,hx3⟩:=hat (i-1) a hai
    have hab:=(zbg h.rise hai hbi).2 (by omega)
    have ham:=h.inn a (List.mem_of_getElem? hai)
    have hbm:=h.inn b (List.mem_of_getElem? hbi)
    have hbi':W[i-1+1]?=some b:=by rw [show i-1+1=i by omega];exact hbi
    obtain ⟨px,hpx⟩:∃px,l[b.toNat-1]?=some px:=⟨_,List.getElem?_eq_getElem (by omega)⟩
    obtain ⟨s1,s2,_,_,_,s6,s7,s8⟩:=zdF hc (by omega) hy1 hpx hgl
    have hbits:x.h.bits=g.h.bits:=by
      by_cases z:a.toNat=0
      · rw [z,hgl] at hx1;injection hx1 with hx1;rw [hx1]
      · obtain ⟨pz,hpz⟩:∃px,l[a.toNat-1]?=some px:=⟨_,List.getElem?_eq_getElem (by omega)⟩
        exact (zdF hc (by omega) hx1 hpz hgl).2.2.2.2.2.1
    have hlk:=chain_linked hc (by omega) hy1
    have hl0:idAt l 0=headId g.h:=by unfold idAt;rw [hgl];rfl
    have hll:=chain_lens hc hy1
    refine ⟨?_,?_,?_⟩
    · rw [hy3,hx3,prevF_zero]
      refine ⟨by show x.h.height<y.h.height;omega,by show y.h.bits=x.h.bits;rw [s6,hbits],fun hq=>?_⟩
      have hq:((W.map (prPart l)).length:Int)-k≤(i:Int):=hq
      rw [hpl] at hq
      have he:=way_end h hk1 hkl hai hbi' (by omega)
      refine ⟨?_,?_⟩
      · show y.h.height=IntKind.i64.wrap (x.h.height+1)
        rw [zae (by omega)];omega
      · show y.h.prev=headId x.h
        rw [s2]
        rw [show b.toNat-1=a.toNat by omega,hx1] at hpx
        injection hpx with hpx
        rw [hpx]
    · rw [hy3,hgy,hx3,linkF_zero]
      refine ⟨?_,hll,?_,?_,s7.symm⟩
      · have:=(List.getElem?_eq_some_iff.1 hlk.1).1
        show 1≤y.l.length
        omega
      · show y.l.getD 0 zId=headId g.h
        rw [List.getD_eq_getElem?_getD,hlk.1,hl0];rfl
      · have hld:=h.lead a (List.mem_of_getElem? hai) b (List.mem_of_getElem? hbi) hab (way_next h hai hbi')
        have ea:((a.toNat:Nat):Int)=a:=by omega
        have eb:((b.toNat:Nat):Int)=b:=by omega
        exact block_leads hc (by omega) hx1 hy1 (by rw [ea,eb];exact hld)
    · rw [hy3,workF_zero];exact s8
end
theorem climb_mem (v:List Int) (m k:Int):∀(i:Nat) (x:Int),x∈(climbS v m k i).2↔∃j,j<i∧x∈upOf v (climbS v m k j).1 ((v.length:Int)-k) (31-(j:Int))
  | 0,x=>⟨fun h=>(by cases h),fun h=>(by obtain ⟨j,h,_⟩:=h;omega)⟩
  | i+1,x=>by
    have e:(climbS v m k (i+1)).2=(upOf v (climbS v m k i).1 ((v.length:Int)-k) (31-(i:Int))).foldl setAdd (climbS v m k i).2:=rfl
    rw [e,zcC,climb_mem v m k i x]
    constructor
    · rintro (⟨j,h1,h2⟩|h)
      · exact ⟨j,by omega,h2⟩
      · exact ⟨i,by omega,h⟩
    · rintro ⟨j,h1,h2⟩
      by_cases c:j=i
      · subst c;exact .inr h2
      · exact .inl ⟨j,by omega,h2⟩
theorem climb_cut {v:List Int} {m k:Int} (hk:k<v.length) (hm:1≤m):∀i:Nat,(climbS v m k i).1≤(v.length:Int)-k-1
  | 0=>by show (0:Int)≤_;omega
  | i+1=>by
    obtain ⟨L,hL⟩:∃L,L=upOf v (climbS v m k i).1 ((v.length:Int)-k) (31-(i:Int)):=⟨_,rfl⟩
    by_cases c:m<L.length
    · obtain ⟨z,hz⟩:∃z,L[L.length-m.toNat]?=some z:=⟨_,List.getElem?_eq_getElem (by omega)⟩
      rw [←zbV hL hz c]
      have hzm:=List.mem_of_getElem? hz
      rw [hL] at hzm
      obtain ⟨j,rfl,_,h5,_⟩:=zdw.1 hzm
      omega
    · rw [←zbN hL c];exact climb_cut hk hm i
theorem prefix_iff {v:List Int} {m k:Int} (h:mayP v m k=true) {x:Int}:x∈(prefixOf v m k).1↔∃j,j<32∧x∈upOf v (climbS v m k j).1 ((v.length:Int)-k) (31-(j:Int)):=by
  unfold prefixOf
  rw [if_pos h]
  exact zfu.trans (climb_mem v m k 32 x)
theorem prefix_lead {v:List Int} {m k:Int} (h:mayP v m k=true) {a:Int} {c:Nat} (ha:a∈(prefixOf v m k).1) (hac:a<c) (hck:(c:Int)<(v.length:Int)-k) (hc:(c:Int)∉(prefixOf v m k).1):v.getD c 0<v.getD a.toNat 0:=by
  obtain ⟨j,h1,h2⟩:=(prefix_iff h).1 ha
  obtain ⟨a',rfl,h3,_,_,h4⟩:=zdw.1 h2
  have h5:v.getD c 0<31-(j:Int):=Int.not_le.1 fun g=>hc ((prefix_iff h).2 ⟨j,h1,zdw.2 ⟨c,rfl,by omega,hck,by have:=zci h;omega,g⟩⟩)
  rw [show ((a':Nat):Int).toNat=a' from rfl]
  omega
theorem prefix_end {v:List Int} {m k:Int} (h:mayP v m k=true) (hm:1≤m) (hk:1≤k) (hkl:k<v.length):(v.length:Int)-k-1∈(prefixOf v m k).1:=by
  have hl:=zci h
  have hc:=climb_cut (m:=m) hkl hm 31
  have hv:=(mayV_spec (zcV h).1).2.2.2
  obtain ⟨e,he⟩:∃e:Nat,(v.length:Int)-k-1=e:=⟨((v.length:Int)-k-1).toNat,by omega⟩
  refine (prefix_iff h).2 ⟨31,by decide,zdw.2 ⟨e,he,by omega,by omega,by omega,?_⟩⟩
  rw [List.getD_eq_getElem?_getD,List.getElem?_eq_getElem (by omega)]
  have:=(hv _ (List.getElem_mem (l:=v) (n:=e) (by omega))).1
  show (31:Int)-((31:Nat):Int)≤_
  simpa using this
section
variable {l:List Block} {m k q:Int}
theorem places_in (h:BuildOk l m k) {x:Int}:x∈placesOf l m k↔x∈(prefixOf (levelsOf l) m k).1∨(l.length:Int)-k≤x∧x<l.length:=by
  unfold placesOf
  rw [List.mem_append]
  refine or_congr Iff.rfl ⟨fun hx=>?_,fun hx=>?_⟩
  · obtain ⟨j,hj,rfl⟩:=List.mem_map.1 hx
    rw [List.mem_range] at hj
    have:=h.k1
    omega
  · exact List.mem_map.2 ⟨(x-((l.length:Int)-k)).toNat,List.mem_range.2 (by have:=h.k1;omega),by omega⟩
theorem places_way (h:BuildOk l m k):WayOk l k (placesOf l m k):=by
  have hm:=zff h
  have hlen:=zaM l
  have hk1:=h.k1
  have hkl:=h.kl
  refine ⟨zax h,fun x hx=>zbE ⟨h.k1,h.kl⟩ hx,List.mem_of_getElem? (places_first h),fun x h1 h2=>(places_in h).2 ?_,fun a ha b hb hab hn=>?_⟩
  · by_cases c:x=(l.length:Int)-k-1
    · left
      have:=prefix_end hm h.m1 h.k1 (by rw [hlen];exact h.kl)
      rw [hlen] at this
      rw [c];exact this
    · right;omega
  · intro c hac hcb
    have hcn:∀x,x∈placesOf l m k→x≠(c:Int):=fun x hx e=>hn x hx (by omega)
    have hbm:=zbE ⟨h.k1,h.kl⟩ hb
    by_cases hck:(c:Int)<(l.length:Int)-k
    · rcases (places_in h).1 ha with hp|hp
      · exact prefix_lead hm hp hac (by rw [hlen];exact hck) (fun g=>hcn c ((places_in h).2 (.inl g)) rfl)
      · omega
    · exact absurd rfl (hcn c ((places_in h).2 (.inr ⟨by omega,by omega⟩)))
end
theorem back_spec (v:List Int) (n:Int):∀j,(∀c,backN v n j<c→c≤j→0<n∧v.getD c 0<n)∧(backN v n j=0∨¬(0<n∧v.getD (backN v n j) 0<n))
  | 0=>⟨fun c h1 h2=>by have:backN v n 0=0:=rfl;omega,.inl rfl⟩
  | j+1=>by
    by_cases h:0<n∧v.getD (j+1) 0<n
    · have e:backN v n (j+1)=backN v n j:=by show (if _ then _ else _)=_;rw [if_pos h]
      obtain ⟨h1,h2⟩:=back_spec v n j
      rw [e]
      refine ⟨fun c g1 g2=>?_,h2⟩
      by_cases z:c=j+1
      · rw [z];exact h
      · exact h1 c g1 (by omega)
    · have e:backN v n (j+1)=j+1:=by show (if _ then _ else _)=_;rw [if_neg h]
      rw [e]
      exact ⟨fun c g1 g2=>by omega,.inr h⟩
theorem back_leads {v:List Int} {n:Int} (h0:v.getD 0 0=31) (hn:n≤31) (at_:Nat) (h1:1≤at_):LeadsTo v (backN v n (at_-1):Nat) (at_:Nat):=by
  intro c hc1 hc2
  obtain ⟨h2,h3⟩:=back_spec v n (at_-1)
  have hc:=h2 c (by omega) (by omega)
  rw [show ((backN v n (at_-1):Nat):Int).toNat=backN v n (at_-1) from rfl]
  rcases h3 with h3|h3
  · rw [h3,h0];omega
  · have:n≤v.getD (backN v n (at_-1)) 0:=Int.not_lt.1 fun g=>h3 ⟨hc.1,g⟩
    omega
def Steps (v:List Int):List Int→Prop
  | y::x::r=>x<y∧LeadsTo v x y∧Steps v (x::r)
  | _=>True
theorem walk_steps {v:List Int} (h0:v.getD 0 0=31) (low:Nat):∀s at_ n:Nat,at_+n≤s→n≤31→Steps v ((at_:Int)::walkW v low at_ n)
  | 0,at_,n,h,_=>by rw [zfp v (by omega)];exact trivial
  | s+1,at_,n,h,hn=>by
    by_cases c:low<at_
    · by_cases d:backN v n (at_-1)<low
      · cases n with
        | zero=>rw [walkW,dif_pos c,dif_pos d];exact trivial
        | succ n=>rw [walk_down c d];exact walk_steps h0 low s at_ n (by omega) (by omega)
      · rw [walk_step c d]
        have hb:=zfH v n (at_-1)
        exact ⟨by omega,back_leads h0 (by omega) at_ (by omega),walk_steps h0 low s (backN v n (at_-1)) n (by omega) hn⟩
    · rw [zfp v c];exact trivial
theorem walk_low (v:List Int) (low:Nat):∀s at_ n:Nat,at_+n≤s→low≤at_→(low:Int)∈(at_:Int)::walkW v low at_ n
  | 0,at_,n,h,hlo=>by rw [show at_=low by omega];exact List.mem_cons_self ..
  | s+1,at_,n,h,hlo=>by
    by_cases c:low<at_
    · by_cases d:backN v n (at_-1)<low
      · cases n with
        | zero=>rw [show ((0:Nat):Int)=0 from rfl,back_zero] at d;omega
        | succ n=>rw [walk_down c d];exact walk_low v low s at_ n (by omega) hlo
      · rw [walk_step c d]
        have hb:=zfH v n (at_-1)
        exact List.mem_cons_of_mem _ (walk_low v low s (backN v n (at_-1)) n (by omega) (by omega))
    · rw [show at_=low by omega];exact List.mem_cons_self ..
theorem steps_lt {v:List Int}:∀{D:List Int} {y:Int},Steps v (y::D)→∀x∈D,x<y
  | [],_,_,x,hx=>by cases hx
  | z::D,y,h,x,hx=>by
    rcases List.mem_cons.1 hx with e|hx
    · rw [e];exact h.1
    · have:=steps_lt h.2.2 x hx
      have:=h.1
      omega
theorem steps_lead {v:List Int}:∀{D:List Int},Steps v D→∀{a b:Int},a∈D→b∈D→a<b→(∀c∈D,¬(a<c∧c<b))→LeadsTo v a b
  | [],_,a,b,ha,_,_,_=>by cases ha
  | [y],_,a,b,ha,hb,hab,_=>by rw [List.mem_singleton] at ha hb;omega
  | y::x::r,h,a,b,ha,hb,hab,hn=>by
    have hlt:=steps_lt h
    have hlt2:=steps_lt h.2.2
    rcases List.mem_cons.1 hb with e|hb
    · subst e
      rcases List.mem_cons.1 ha with e|ha
      · omega
      · rcases List.mem_cons.1 ha with e|ha
        · rw [e];exact h.2.1
        · exact absurd ⟨hlt2 a ha,h.1⟩ (hn x (by simp))
    · rcases List.mem_cons.1 ha with e|ha
      · have:=hlt b hb;omega
      · exact steps_lead h.2.2 ha hb hab (fun c hc=>hn c (List.mem_cons_of_mem _ hc))
theorem follow_in {v:List Int} {high low x:Int} (h:followOk v high low=true):x∈followL v high low↔x∈high::walkW v low.toNat high.toNat 31:=by
  unfold followL
  rw [if_pos h,List.mem_reverse]
theorem follow_low {v:List Int} {high low:Int} (h:followOk v high low=true):low∈followL v high low:=by
  obtain ⟨_,_,_,h4,h5,h6⟩:=zcX h
  rw [follow_in h]
  have:=walk_low v low.toNat _ high.toNat 31 (Nat.le_refl _) (by omega)
  rwa [show ((low.toNat:Nat):Int)=low by omega,show ((high.toNat:Nat):Int)=high by omega] at this
theorem follow_lead {v:List Int} {high low a b:Int} (h:followOk v high low=true) (ha:a∈followL v high low) (hb:b∈followL v high low) (hab:a<b) (hn:∀c∈followL v high low,¬(a<c∧c<b)):LeadsTo v a b:=by
  obtain ⟨_,_,h3,h4,h5,h6⟩:=zcX h
  have h0:v.getD 0 0=31:=by rw [List.getD_eq_getElem?_getD,h3];rfl
  have hs:=walk_steps h0 low.toNat _ high.toNat 31 (Nat.le_refl _) (Nat.le_refl _)
  rw [show ((high.toNat:Nat):Int)=high by omega] at hs
  exact steps_lead hs ((follow_in h).1 ha) ((follow_in h).1 hb) hab (fun c hc=>hn c ((follow_in h).2 hc))
section
variable {l:List Block} {m k q:Int}
theorem with_way (h:BuildOk l m k) (h0:0≤q) (h1:q<(l.length:Int)-k):WayOk l k (zbO l m k q):=by
  have hp:=places_way h
  refine ⟨zfo h,fun x hx=>with_mem h h0 h1 hx,with_all hp.zero,fun x g1 g2=>with_all (hp.last x g1 g2),?_⟩
  by_cases c:isIn (placesOf l m k) q=true
  · have e:zbO l m k q=placesOf l m k:=by unfold zbO wayL;rw [if_pos c]
    rw [e];exact hp.lead
  · obtain ⟨x,y,hi,hx,hy,hx0,hxq,hqy,hyl⟩:=zei h h0 h1 c
    have hk:=h.k1
    have hlen:=zaM l
    have hmv:=chain_mayV (zd8 h.c)
    have f1:followOk (levelsOf l) y q=true:=by unfold followOk;rw [hmv,Bool.true_and];exact decide_eq_true (by rw [hlen];omega)
    have f2:followOk (levelsOf l) q x=true:=by unfold followOk;rw [hmv,Bool.true_and];exact decide_eq_true (by rw [hlen];omega)
    have hU:∀z,z∈zbO l m k q↔z∈placesOf l m k∨z∈followL (levelsOf l) y q∨z∈followL (levelsOf l) q x:=fun z=>by
      unfold zbO wayL
      rw [if_neg c,List.getD_eq_getElem?_getD,List.getD_eq_getElem?_getD,hx,hy]
      exact zej.trans (or_congr Iff.rfl zej)
    have hxP:=List.mem_of_getElem? hx
    have hyP:=List.mem_of_getElem? hy
    have hgap:=way_next hp hx (by rw [show placeIn (placesOf l m k) q-1+1=placeIn (placesOf l m k) q by omega];exact hy)
    have m1:∀z∈followL (levelsOf l) y q,q≤z∧z≤y:=fun z hz=>follow_mem hz
    have m2:∀z∈followL (levelsOf l) q x,x≤z∧z≤q:=fun z hz=>follow_mem hz
    have q1:=follow_low f1
    have q2:=follow_high f2
    have x2:=follow_low f2
    have y1:=follow_high f1
    intro a ha b hb hab hn
    have nx:=hn x ((hU x).2 (.inl hxP))
    have ny:=hn y ((hU y).2 (.inl hyP))
    have nq:=hn q ((hU q).2 (.inr (.inl q1)))
    by_cases c1:b≤x
    · have haP : a ∈ placesOf l m k := by
        rcases (hU a).1 ha with g|g|g
        · exact g
        · have:=m1 a g;omega
        · have:=m2 a g;omega
      have hbP:b∈placesOf l m k:=by
        rcases (hU b).1 hb with g|g|g
        · exact g
        · have:=m1 b g;omega
        · have:=m2 b g;rw [show b=x by omega];exact hxP
      exact hp.lead a haP b hbP hab (fun z hz=>hn z ((hU z).2 (.inl hz)))
    · by_cases c2:y≤a
      · have haP : a ∈ placesOf l m k := by
          rcases (hU a).1 ha with g|g|g
          · exact g
          · have:=m1 a g;rw [show a=y by omega];exact hyP
          · have:=m2 a g;omega
        have hbP:b∈placesOf l m k:=by
          rcases (hU b).1 hb with g|g|g
          · exact g
          · have:=m1 b g;omega
          · have:=m2 b g;omega
        exact hp.lead a haP b hbP hab (fun z hz=>hn z ((hU z).2 (.inl hz)))
      · by_cases c3:b≤q
        · have haF : a ∈ followL (levelsOf l) q x := by
            rcases (hU a).1 ha with g|g|g
            · have:=hgap a g
              rw [show a=x by omega];exact x2
            · have:=m1 a g;omega
            · exact g
          have hbF:b∈followL (levelsOf l) q x:=by
            rcases (hU b).1 hb with g|g|g
            · have:=hgap b g;omega
            · have:=m1 b g;rw [show b=q by omega];exact q2
            · exact g
          exact follow_lead f2 haF hbF hab (fun z hz=>hn z ((hU z).2 (.inr (.inr hz))))
        · have haF : a ∈ followL (levelsOf l) y q := by
            rcases (hU a).1 ha with g|g|g
            · have:=hgap a g;omega
            · exact g
            · have:=m2 a g;rw [show a=q by omega];exact q1
          have hbF:b∈followL (levelsOf l) y q:=by
            rcases (hU b).1 hb with g|g|g
            · have:=hgap b g
              rw [show b=y by omega];exact y1
            · exact g
            · have:=m2 b g;omega
          exact follow_lead f1 haF hbF hab (fun z hz=>hn z ((hU z).2 (.inr (.inl hz))))
theorem build_holds (h:prE l m k=0):checkP (prOf l m k)=0:=by
  rw [build_is h]
  exact way_holds (zbp h) (places_way (zbp h))
theorem wi_holds (h:wiE l m k q=0):checkP (wiOf l m k q)=0:=by
  obtain ⟨h1,h2,h3⟩:=wi_ok h
  rw [wi_is h]
  exact way_holds (zbp h1) (with_way (zbp h1) h2 h3)
end
set_option maxRecDepth 20000
theorem awake18_ok:Tells P 27 [] (.val boolT true):=by
 refine zc Tryz.func27 rfl rfl rfl (fun ext w hext=>?_)
 have hw0:(levelsP easyP)[0]?=some 31:=by show some (headLevel easyH)=_;rw [easy_level]
 have hw1:(idsP easyP)[1]?=some (headId easyB.h):=rfl
 have hw2:([easyB0,easyB]:List Block)[1]?=some easyB:=rfl
 refine CQR ?_;refine qat ?_;refine A0 (oCl (two_ok) rfl fn_29 trivial) ?_;refine qae ?_;refine A0 (oCl (zbU [easyB0,easyB] 1 1 small_easyC) rfl fn_14 ⟨(zd rfl),(zd rfl),(zd rfl),trivial⟩) ?_;refine A0 mX ?_;refine A0 (by first|exact zO rfl rfl|exact zM rfl rfl) ?_;refine zi (d:=10) (y:=easyP) rfl easy_pr ?_;refine A0 (by first|exact zR rfl rfl|exact zQ rfl rfl) ?_;refine zi (d:=11) (y:=(0:Int)) rfl easy_prE ?_;refine qaC ?_;refine qaj ?_;refine A0 zch ?_;refine qav ?_;refine zbR (d:=14) rfl (rfl) ?_;refine qar ?_;refine A1 zch ?_;refine qag ?_
 refine zbR (d:=20) rfl (rfl) ?_;refine A1 (oLs rfl rfl rfl zaE) ?_;refine A1 (oCl (checkP_ok easyP) rfl fn_28 ⟨(zd rfl),trivial⟩) ?_;refine A1 zch ?_;refine qag ?_;refine zbR (d:=25) rfl (by rw [easy_check];rfl) ?_;refine A1 (zD rfl zcR zdT .nil rfl) ?_;refine A1 (oCl (checkP_ok zProof) rfl fn_28 ⟨(zd rfl),trivial⟩) ?_;refine A1 zch ?_;refine qas ?_;refine zdo rfl (by rw [zero_check];rfl) ?_;refine CSQR ?_;refine A0 (oLs rfl rfl rfl zaE) ?_;refine A0 (oCl (zq (levelsP_ok easyP (by decide))) rfl fn_65 ⟨(zd rfl),trivial⟩) ?_;refine qaY ?_
 refine A0 (oCl (zq (ids_ok easyP (by decide))) rfl fn_66 ⟨(zd rfl),trivial⟩) ?_;refine qb6 ?_;refine G0 mV ?_;refine G0 (zK rfl rfl zb3) ?_;refine G0 zaW ?_;refine G0 mV ?_;refine GK_ist (d:=37) rfl (rfl) ?_;refine G1 mV ?_;refine G1 (zo (i:=0) rfl rfl rfl (by omega) zbt (by assumption)) ?_;refine G1 (zf rfl rfl ty_3) ?_;refine G1 zaW ?_;refine qaX ?_;refine GK_ist (d:=43) rfl (rfl) ?_;refine G1 mV ?_;refine G1 (zK rfl rfl zaS) ?_;refine G1 zaW ?_;refine qaX ?_;refine GK_ist (d:=48) rfl (rfl) ?_;refine G1 mV ?_
 refine G1 (zo (i:=1) rfl rfl rfl (by omega) zbW (by assumption)) ?_;refine G1 (zf rfl rfl zG) ?_;refine G1 mV ?_;refine G1 (zo (i:=1) rfl rfl rfl (by omega) zda (by assumption)) ?_;refine G1 (oFr zar zah) ?_;refine G1 (zf rfl rfl zal) ?_;refine G1 (oCl (zfb easyB.h) rfl fn_67 ⟨(by first|exact zy rfl|exact zW rfl|exact zF rfl rfl|exact zU rfl|exact zs rfl|exact zag rfl rfl|exact zV rfl),trivial⟩) ?_;refine G1 (g_eqlS rfl rfl rfl (eqt_46)) ?_;refine qaX ?_;refine GK_ist (d:=59) rfl (by simp) ?_;refine G1 mV ?_
 refine G1 (zo (i:=1) rfl rfl rfl (by omega) zbW (by assumption)) ?_;refine G1 (zf rfl rfl zG) ?_;refine G1 (zcj rfl zdb ze_46 rfl) ?_;refine G1 (zeL rfl rfl rfl (eqt_46)) ?_;refine G0 oK ?_;refine qbn ?_
 exact za rfl rfl (zb rfl (by rw [easy_nz];rfl))
set_option maxRecDepth 20000
theorem wi_pw {l:List Block} {m k q:Int} (hn:l.length≤50) (hbw:BW l):PW (wiOf l m k q):=by
  by_cases h:wiE l m k q=0
  · exact (way_put h hn hbw).2.1
  · rw [wi_no h]
    intro x hx
    cases hx
theorem CheckHolds_ok (l:List Block) (m k q:Int) (hl:smallC l):Tells P 10 [.val (sl blockT) l,.val i64T m,.val i64T k,.val i64T q] (.val boolT true):=by
 have hll:=hl.1
 refine zc Tryz.func10 rfl rfl rfl (fun ext w hext=>?_)
 refine ze (d:=0) rfl zl (fun hsl0=>?_)
 refine ze (d:=1) rfl zn (fun hin1=>?_)
 refine ze (d:=2) rfl zn (fun hin2=>?_)
 refine ze (d:=3) rfl zn (fun hin3=>?_)
 refine ze (d:=0) rfl fact_bw (fun hbw=>?_)
 refine CQR ?_;refine qat ?_;refine A0 (oCl (awake18_ok) rfl fn_27 trivial) ?_;refine qae ?_;refine A0 (oCl (fewC_ok l) rfl fn_12 ⟨(zd rfl),trivial⟩) ?_;refine qaj ?_;refine A0 oN ?_;refine zbR (d:=23) rfl (rfl) ?_;refine qbp ?_;refine A1 oN ?_;refine qas ?_;refine zp (p:=¬fewC l=true) rfl (by cases fewC l<;>rfl) (fun ht27=>?_) (fun ht27=>?_)
 ·
  refine qbj ?_
  exact za rfl rfl (zb rfl (rfl))
 ·
  have hfc:=fewC_len (Classical.not_not.1 ht27)
  have hwpw:=wi_pw (m:=m) (k:=k) (q:=q) hfc hbw
  have hpbd:=pput_bd hwpw
  refine qcd ?_;refine qav ?_;refine A0 (oCl (zbU l m k hl) rfl fn_14 ⟨(zd rfl),(zd rfl),(zd rfl),trivial⟩) ?_;refine A0 mX ?_;refine A0 (by first|exact zO rfl rfl|exact zM rfl rfl) ?_;refine A0 (by first|exact zR rfl rfl|exact zQ rfl rfl) ?_;refine qaC ?_;refine qae ?_;refine qal ?_;refine qav ?_;refine A0 (oCl (prWith_ok l m k q hl) rfl fn_16 ⟨(zd rfl),(zd rfl),(zd rfl),(zd rfl),trivial⟩) ?_;refine A0 mX ?_;refine A0 (by first|exact zO rfl rfl|exact zM rfl rfl) ?_;refine A0 (by first|exact zR rfl rfl|exact zQ rfl rfl) ?_;refine qaC ?_
  refine qaY ?_;refine A0 (oCl (zeT (wiOf l m k q)) rfl fn_18 ⟨(zd rfl),trivial⟩) ?_;refine A0 mX ?_;refine A0 (by first|exact zO rfl rfl|exact zM rfl rfl) ?_;refine A0 (by first|exact zR rfl rfl|exact zQ rfl rfl) ?_;refine qbz ?_;refine A0 (oCl (pread_ok (pputL (wiOf l m k q)) (by omega)) rfl fn_20 ⟨(zd rfl),trivial⟩) ?_;refine A0 mX ?_;refine A0 (by first|exact zO rfl rfl|exact zM rfl rfl) ?_;refine A0 (by first|exact zR rfl rfl|exact zQ rfl rfl) ?_;refine qaC ?_;refine qaj ?_;refine A0 zaW ?_
  refine zI (d:=55) (p:=prE l m k=0) rfl (by simp [IntL.toI]) (fun g55=>?_) (fun g55=>?_)
  ·
   refine qav ?_;refine qbm ?_;refine A1 zch ?_;refine zbR (d:=59) rfl (by rw [build_holds g55];rfl) ?_;refine qas ?_;refine Cg ?_;refine qb4 ?_;refine A0 zch ?_;refine zI (d:=62) (p:=¬wiE l m k q=0) rfl (by simp [IntL.toI]) (fun g62=>?_) (fun g62=>?_)
   ·
    refine qby ?_;refine A2 ?_;refine A3 ?_;refine qaE ?_;refine A3 ?_;refine qaE ?_;refine qaB ?_;refine A2 ?_;refine qa1 ?_
    exact za rfl rfl (zb rfl (rfl))
   ·
    refine qav ?_;refine qbm ?_;refine A1 zaW ?_;refine zay (d:=66) rfl (by rw [wi_holds (Classical.not_not.1 g62)];rfl) ?_;refine qaG ?_;refine zay (d:=68) rfl ((way_put (Classical.not_not.1 g62) hfc hbw).1) ?_;refine A1 oK ?_;refine qaG ?_;refine zay (d:=71) rfl ((zeF hwpw (way_put (Classical.not_not.1 g62) hfc hbw).1).1) ?_;refine A1 oK ?_;refine A1 mV ?_;refine qbm ?_;refine A1 zaW ?_;refine zay (d:=76) rfl (by rw [(zeF hwpw (way_put (Classical.not_not.1 g62) hfc hbw).1).2,wi_holds (Classical.not_not.1 g62)];rfl) ?_;refine A1 oK ?_;refine qa1 ?_
    exact za rfl rfl (zb rfl (rfl))
  ·
   refine qby ?_;refine qas ?_;refine Cg ?_;refine qb4 ?_;refine A0 zch ?_;refine zI (d:=62) (p:=¬wiE l m k q=0) rfl (by simp [IntL.toI]) (fun g62=>?_) (fun g62=>?_)
   ·
    refine qby ?_;refine A2 ?_;refine A3 ?_;refine qaE ?_;refine A3 ?_;refine qaE ?_;refine qaB ?_;refine A2 ?_;refine qa1 ?_
    exact za rfl rfl (zb rfl (rfl))
   ·
    refine qav ?_;refine qbm ?_;refine A1 zaW ?_;refine zay (d:=66) rfl (by rw [wi_holds (Classical.not_not.1 g62)];rfl) ?_;refine qaG ?_;refine zay (d:=68) rfl ((way_put (Classical.not_not.1 g62) hfc hbw).1) ?_;refine A1 oK ?_;refine qaG ?_;refine zay (d:=71) rfl ((zeF hwpw (way_put (Classical.not_not.1 g62) hfc hbw).1).1) ?_;refine A1 oK ?_;refine A1 mV ?_;refine qbm ?_;refine A1 zaW ?_;refine zay (d:=76) rfl (by rw [(zeF hwpw (way_put (Classical.not_not.1 g62) hfc hbw).1).2,wi_holds (Classical.not_not.1 g62)];rfl) ?_;refine A1 oK ?_;refine qa1 ?_
    exact za rfl rfl (zb rfl (rfl))
end Go.Proofs.YtjjlfapfjjkomaaGreat
