/- Parts of the proof: the layer that reads Go values as data, and what the functions of the program tell. -/
import Derived.WalkKit
import Derived.Deep.Draws
import Derived.RangeFuncOwn
import Derived.RangeFuncLeaves
import Derived.OrdersIn
import Derived.TacticsIn
import Derived.ScopeJumps
import Derived.Still
open List (all_eq_true append_assoc drop_eq_nil_iff length_cons length_drop length_nil mem_cons mem_range not_mem_nil)
open Nat (add_assoc add_comm add_mul le_of_not_lt le_succ lt_of_lt_of_le lt_of_not_le lt_trichotomy min_eq_left one_mul zero_add)
set_option linter.unusedVariables false
set_option linter.unusedSimpArgs false
namespace Go
theorem ua {p:Prop} (h:¬¬p):p:=Classical.not_not.1 h
theorem ub.{u} {α:Type u} {l:List α} {i:Nat} (h:i<l.length):l[i]?=some l[i]:=List.getElem?_eq_getElem h
theorem uc.{u} {α:Type u} {i:Nat} {l:List α} (h:l.length<=i):l.take i=l:=List.take_of_length_le h
theorem ud.{u} {α:Type u} {l:List α} {i:Nat} {a:α} (h:l[i]?=some a):a∈l:=List.mem_of_getElem? h
theorem ue.{u} {α:Type u} {as bs:List α}:(as++bs).length=as.length+bs.length:=List.length_append
theorem uf (n:Nat):0<=n:=Nat.zero_le n
theorem ug (n:Nat):n<=n:=Nat.le_refl n
theorem uh {p:Prop} [Decidable p] (h:¬p):decide p=false:=decide_eq_false h
theorem ui {p:Prop} [Decidable p] (h:p):decide p=true:=decide_eq_true h
theorem uj {p:Prop} [Decidable p]:(decide p=true)=p:=decide_eq_true_eq
theorem uk (a b:Bool):((a&&b)=true)=(a=true/\b=true):=Bool.and_eq_true a b
theorem ul.{u} {α:Type u} {i:Nat} {a:α} {l:List α}:l[i]?=some a↔∃h:i<l.length,l[i]=a:=List.getElem?_eq_some_iff
theorem um.{u} {α:Type u} {i:Nat} {l:List α}:(l.take i).length=min i l.length:=List.length_take
theorem un.{u} {α:Type u} {l:List α} {i:Nat}:l.take (i+1)=l.take i++l[i]?.toList:=List.take_add_one
theorem uo {p q:Prop} {_:Decidable p} {_:Decidable q}:decide p=decide q↔(p↔q):=decide_eq_decide
theorem uq.{u} {α:Type u} {l:List α} {i:Nat} {a:α}:l.getD i a=l[i]?.getD a:=List.getD_eq_getElem?_getD
theorem ur.{u} {c:Prop} {h:Decidable c} (n:¬c) {α:Sort u} {t e:α}:@ite α c h t e=e:=if_neg n
theorem ut.{u} {c:Prop} {h:Decidable c} (n:c) {α:Sort u} {t e:α}:@ite α c h t e=t:=if_pos n
structure HId (C:Prop):Prop where
  out:C
section
variable {A C p:Prop}
theorem ya (h:p:=by omega):p:=h
theorem yb (h:p:=by first|exact zI rfl|exact zS rfl|exact zL rfl rfl|exact zQ rfl|exact zH rfl|exact zae rfl rfl|exact zR rfl):p:=h
theorem yc (h:p:=by decide +kernel):p:=h
theorem yd (h:p:=by exact ⟨(zd rfl),trivial⟩):p:=h
theorem ye (h:p:=by exact ⟨(zd rfl),(zd rfl),trivial⟩):p:=h
theorem yf (h:p:=by first|exact (zc6 hx ht11 (by omega)).symm|exact (zb7 hx ht11 (zbu hy ht32 (by simp [ht45]))).symm|exact (zfQ ho (by omega)).symm|(unfold zaM;rw [hall,hodd];simp [g79,g84,g90,IntL.toI];try omega)|(unfold zaM;rw [hall,hodd];simp [g79,g84,IntL.toI];try omega)|(unfold zaM;rw [hall,hodd];simp [g79,IntL.toI];try omega)):p:=h
theorem yg (h:p:=by exact fun _=>by first|exact g_mv (.inl rfl) rfl|exact g_mp (.inl rfl) rfl|exact g_mo (.inl rfl) rfl|exact g_ml (.inl rfl) rfl|exact g_mc (.inl rfl) rfl|exact g_mr (.inl rfl) rfl|exact zmD (.inl rfl) rfl|exact zmC (.inl rfl) rfl|exact g_mw (.inl rfl) rfl|exact g_me (.inl rfl) rfl|exact g_ms (.inl rfl) rfl|exact zew (.inl rfl) rfl|exact zev (.inl rfl) rfl|exact g_mi (.inl rfl) rfl):p:=h
theorem yh (h:p:=by first|assumption|omega|(simp;omega)):p:=h
theorem yi (h:p:=by first|omega|rfl):p:=h
theorem yj (h:p:=by assumption):p:=h
theorem yk (h:p:=by exact zd rfl):p:=h
theorem yl (h:p:=by decide):p:=h
theorem ym (h:p:=by rw [ho];simp [Op.operands]):p:=h
theorem yn (h:p:=by intro n hn;simp only [List.mem_cons,List.not_mem_nil,or_false] at hn;rcases hn with rfl<;>exact ⟨_,_,_,_,rfl⟩):p:=h
theorem yo (h:p:=by first|exact zbV rfl|exact zbU rfl|exact zbh rfl|exact zbY rfl|exact zbW rfl|exact zbX rfl|exact zbT rfl rfl (by decide)):p:=h
theorem yp (h:p:=by first|decide|(simp [IntL.toI];done)|(simp [IntL.toI];omega)):p:=h
theorem yq (h:p:=by intro c hc;rw [ho] at hc;cases hc):p:=h
theorem yr (h:p:=by exact ⟨_,ub (by omega)⟩):p:=h
theorem yt (h:p:=by kernel_rfl):p:=h
theorem yu (h:p:=by first|rfl|(rw [uo];simp only [IntL.toI,id_eq];omega)|(simp [IntL.toI];done)|(simp [IntL.toI];omega)):p:=h
theorem yv (h:p:=by have hlt:x.toNat<18446744073709551616:=x.toNat_lt;(try simp only [zbr _ (show 32<=64 by decide),zbr _ (show 16<=64 by decide),zbr _ (show 8<=64 by decide)] at *);omega):p:=h
theorem yw (h:p:=by simp):p:=h
theorem yx (h:p:=by simp [IntL.toI]):p:=h
theorem yy (h:p:=by rw [ho];simp [Op.operands,Call.operands]):p:=h
theorem yz (h:p:=by first|exact zew (.inl rfl) rfl|exact zev (.inl rfl) rfl):p:=h
theorem yA (h:p:=by exact ⟨rfl,rfl,trivial⟩):p:=h
theorem yB (h:p:=by simp;omega):p:=h
theorem yC (h:p:=by intro n hn;cases hn):p:=h
theorem yD (h:p:=by first|exact zdB hinv hb hXl (by omega) hX (.inl g49)|exact zdB hinv hb hXl (by omega) hX (.inr ht54)|exact zi2 hinv hXl (by omega) hX g49 ht54):p:=h
theorem yE (h:p:=by first|exact zdf rfl|exact zic rfl rfl|exact zdH rfl|exact zd5 rfl rfl|exact zs rfl|exact zid rfl):p:=h
theorem yF (h:p:=by first|exact zeG rfl rfl (Lens.self _)|exact zdD rfl rfl):p:=h
theorem yG (h:p:=by first|exact hpB rfl rfl|exact hpP rfl rfl):p:=h
theorem yH (h:p:=by intro n hn;simp only [List.mem_cons,List.not_mem_nil,or_false] at hn;rcases hn with rfl<;>rfl):p:=h
theorem yI (h:p:=by have h:=hinv.2;rw [uc (by omega),uc (by omega)] at h;exact h):p:=h
theorem yJ (h:p:=by exact ⟨rfl,rfl,rfl,rfl,rfl,rfl,rfl,rfl,rfl,rfl,rfl,rfl,rfl,rfl,rfl,rfl,rfl,rfl,rfl,rfl,rfl,rfl,rfl,rfl,rfl,rfl,rfl,rfl,rfl,rfl,rfl,rfl,rfl,rfl,rfl,rfl,rfl,rfl,rfl,rfl,rfl,rfl,rfl,rfl,rfl,rfl,rfl,rfl,rfl,rfl,rfl,rfl,rfl,rfl,rfl,rfl,rfl,rfl,rfl,rfl,rfl,rfl,rfl,rfl,rfl,rfl,rfl,rfl,rfl,rfl,rfl,rfl,rfl,rfl,rfl,rfl,rfl,rfl,rfl,rfl,rfl,rfl,rfl,rfl,rfl,rfl,rfl,rfl,rfl,rfl,rfl,rfl,rfl,rfl,rfl,rfl,rfl,rfl,rfl,rfl,rfl,rfl,rfl,rfl,rfl,rfl,rfl,rfl,rfl,rfl,rfl,rfl,rfl,rfl,rfl,rfl,rfl,rfl,rfl,rfl,rfl,rfl,rfl,rfl,rfl,rfl,rfl,rfl,trivial⟩):p:=h
theorem yK (h:p:=by simpa using hlt):p:=h
theorem yL (h:p:=by exact ⟨(zd rfl),(zd rfl),(zd rfl),trivial⟩):p:=h
theorem yM (h:p:=by first|omega|(simp;omega)):p:=h
theorem yN (h:p:=by exact fun _=>by first|exact zkS rfl rfl|exact zkR rfl rfl):p:=h
theorem yO (h:p:=by rw [uc (by omega)]):p:=h
theorem yP (h:p:=by exact fun _=>by first|exact zgC rfl rfl rfl (z8 (by first|omega|(simp;omega)))|exact zgC rfl rfl rfl rfl):p:=h
theorem yQ (h:p:=by show _<18446744073709551616;omega):p:=h
theorem yR (h:p:=by rw [hS]):p:=h
theorem yS (h:p:=by first|exact ⟨by omega,hinv.2.1,by rw [hinv.2.2,g55,zif g57]⟩|exact ⟨by omega,zhk hinv.2.1,hinv.2.2.trans (zjH (fun h=>by first|exact g57 h.1|exact g55 h.2) hx (ua ht66))⟩):p:=h
theorem yT (h:p:=by unfold tgtW;rw [ur (by unfold zaV;rw [uj];omega)]):p:=h
theorem yU (h:p:=by show _=_;unfold ren;simp):p:=h
theorem yV (h:p:=by constructor<;>omega):p:=h
theorem yW (h:p:=by first|exact ⟨by omega,by omega,by unfold zlF;rw [List.length_set];exact hinv.2.2.1,by rw [<-hinv.2.2.2,zrB ht22];unfold zjY;rw [show ((n.toNat:Nat):Int)=n by omega,ut ht33]⟩|exact ⟨by omega,by omega,hinv.2.2.1,by rw [<-hinv.2.2.2,zrB ht22];unfold zjY;rw [show ((n.toNat:Nat):Int)=n by omega,ur ht33]⟩):p:=h
theorem yX (h:p:=by exact zbI rfl):p:=h
theorem yY (h:p:=by unfold prOf;rw [ur (by unfold prE;rw [ur (by omega),ut (by omega)];decide)]):p:=h
theorem yZ (h:p:=by rw [zcg (by omega)]):p:=h
theorem y4 (h:p:=by exact fun _=>by first|exact zof rfl rfl|exact zmB rfl rfl):p:=h
theorem y5 (h:p:=by intro n hn;simp only [List.mem_cons,List.not_mem_nil,or_false] at hn;rcases hn with rfl|rfl<;>rfl):p:=h
theorem y6 (h:p:=by have:=List.drop_eq_nil_iff.1 h.2;have:=hinv.p2;omega):p:=h
theorem y7 (h:p:=by (try simp only [ue,List.length_cons,List.length_nil,List.length_replicate,um,zF]);omega):p:=h
theorem y8 (h:p:=by unfold cmpU;first|rw [ur (by assumption),ur (by assumption)]|rw [ur (by assumption),ut (by assumption)]|rw [ut (by assumption)]):p:=h
theorem y9 (h:p:=by unfold zjy;first|rw [ur (by assumption),ur (by assumption)]|rw [ur (by assumption),ut (by assumption)]|rw [ut (by assumption)]):p:=h
theorem yaa (h:p:=by unfold zdL;rw [uh (by omega)];rfl):p:=h
theorem yab (h:p:=by simp [hf1,hf2,hf3,hf4,hbl,hn1,hn2,hn3]):p:=h
theorem yac (h:p:=by exact ⟨rfl,rfl,rfl,rfl,rfl⟩):p:=h
theorem yad (h:p:=by simp only [D1,D2,D3,D4,D5,D6,D7]):p:=h
theorem yae (h:p:=by first|exact zaC rfl rfl zdc|exact zbS rfl rfl rfl zdc|exact zeb rfl rfl zdc):p:=h
theorem yaf (h:p:=by unfold zaV;rw [uj];omega):p:=h
theorem yag (h:p:=by simp [IntL.toI];omega):p:=h
theorem yah (h:p:=by exact ⟨rfl,rfl,rfl,rfl,rfl,rfl,rfl,rfl,rfl,rfl,rfl,rfl,rfl,rfl,rfl,rfl,trivial⟩):p:=h
theorem yai (h:p:=by unfold zaV;symm;apply uh;omega):p:=h
theorem yaj (h:p:=by rw [uo];exact ⟨fun h=>by cases a;cases b;simp_all,fun h=>by rw [h]⟩):p:=h
theorem yak (h:p:=by unfold zac;rw [ut (by omega)]):p:=h
theorem yal (h:p:=by unfold prE;rw [ur (by omega),ut (by omega)];decide):p:=h
theorem yam (h:p:=by rw [zlD (zeL (by unfold zgg;omega))];exact zdH rfl):p:=h
theorem yan (h:p:=by intro x hx;simp only [List.mem_cons,List.not_mem_nil,or_false] at hx;rcases hx with rfl|rfl<;>trivial):p:=h
theorem yao (h:p:=by exact ⟨rfl,rfl,rfl,rfl,trivial⟩):p:=h
theorem yap (h:p:=by rw [hinv.2.2.1,(zaR hf ht18).1,he];rfl):p:=h
theorem yaq (h:p:=by rw [e1];simp [zaH,e]):p:=h
theorem yar (h:p:=by show l.length-(k+1)<l.length-k;omega):p:=h
theorem yas (h:p:=by symm;first|(apply ui;omega)|(apply uh;omega)):p:=h
theorem yat (h:p:=by unfold prE;rw [ur (by omega),ut (by omega)]):p:=h
theorem yau (h:p:=by rw [hinv.2.2,zes ht86 (by rw [hj.2,zex he ht102];exact ht102),hj.2,zex he ht102,hk];rfl):p:=h
theorem yav (h:p:=by simp only [ue,List.length_cons,List.length_nil,zF];omega):p:=h
theorem yaw (h:p:=by rw [zap (by omega),ur (by decide),ur (by decide),ut (ua ht10)];unfold zcH;rw [ur ht20,ur (fun h=>h.elim (by assumption) (by assumption)),ur ht43,ut ht49,ut (ua ht61)]):p:=h
theorem yax (h:p:=by rw [uo];simp only [IntL.toI,id_eq];omega):p:=h
theorem yay (h:p:=by rw [zap (by omega),ur (by decide),ur (by decide),ut (ua ht10)];unfold zcH;rw [ur ht20,ur (fun h=>h.elim (by assumption) (by assumption)),ur ht43,ut ht49,ur ht61]):p:=h
theorem yaz (h:p:=by simp only [zaD]):p:=h
theorem yaA (h:p:=by rw [zap (by omega),ur (by decide),ur (by decide),ut (ua ht10)];unfold zcH;rw [ur ht20,ur (fun h=>h.elim (by assumption) (by assumption)),ur ht43,ur ht49]):p:=h
theorem yaB (h:p:=by unfold zgg;omega):p:=h
theorem yaC (h:p:=by first|exact zaC rfl rfl zdn|exact zbS rfl rfl rfl zdn|exact zeb rfl rfl zdn):p:=h
theorem yaD (h:p:=by simpa using hl):p:=h
theorem yaE (h:p:=by first|exact z8 (by omega)|rfl):p:=h
theorem yaF (h:p:=by rw [zap (by omega),ur (by decide),ur (by decide),ut (ua ht10)];unfold zcH;rw [ur ht20,ur (fun h=>h.elim (by assumption) (by assumption)),ut ht43]):p:=h
theorem yaG (h:p:=by show 256-(k+1)<256-k;omega):p:=h
theorem yaH (h:p:=by rw [ho];simp [Op.operands];exact ⟨_,hp'⟩):p:=h
theorem yaI (h:p:=by first|exact ⟨by omega,by omega,hinv.2.2.trans (zs3 ht17 hx ht31)⟩|exact ⟨by omega,by omega,hinv.2.2.trans (zs4 ht17 hx ht31)⟩):p:=h
theorem yaJ (h:p:=by first|exact ⟨by omega,by omega,hinv.2.2.trans (znB ht11 ht21)⟩|exact ⟨by omega,by omega,hinv.2.2.trans (zlv ht11 (ua ht21))⟩):p:=h
theorem yaK (h:p:=by unfold zac;rw [ur (by omega),ut (by omega)]):p:=h
theorem yaL (h:p:=by rw [he];rfl):p:=h
theorem yaM (h:p:=by first|rfl|(simp;done)):p:=h
theorem yaN (h:p:=by exact ⟨_,ub ht9⟩):p:=h
theorem yaO (h:p:=by rw [hd];exact H):p:=h
theorem yaP (h:p:=by first|rfl|omega):p:=h
theorem yaQ (h:p:=by first|exact zof rfl rfl|exact zmB rfl rfl):p:=h
theorem yaR (h:p:=by first|exact ⟨by omega,fun _=>ua ht17,fun h=>by omega⟩|exact ⟨by omega,fun _=>hinv.2.1 (by omega),fun _=>ua ht17⟩):p:=h
theorem yaS (h:p:=by first|exact ⟨by omega,fun _=>ua ht15,fun h=>by omega⟩|exact ⟨by omega,fun _=>hinv.2.1 (by omega),fun _=>ua ht15⟩):p:=h
theorem yaT (h:p:=by simp [ht45]):p:=h
theorem yaU (h:p:=by have h1:=zgO (n:=halfN n) (i:=i);have h2:=zgO (n:=n-halfN n) (i:=i-halfN n);simp only [zk9,List.length_singleton];omega):p:=h
theorem yaV (h:p:=by first|exact zhr rfl rfl rfl (by first|rfl|omega) zfu|exact zoi rfl rfl rfl zfu (by first|assumption|omega|(simp;omega))):p:=h
theorem yaW (h:p:=by first|exact zhr rfl rfl rfl (by first|rfl|omega) zce|exact zoi rfl rfl rfl zce (by first|assumption|omega|(simp;omega))):p:=h
theorem yaX (h:p:=by first|exact zhr rfl rfl rfl (by first|rfl|omega) zb0|exact zoi rfl rfl rfl zb0 (by first|assumption|omega|(simp;omega))):p:=h
theorem yaY (h:p:=by rw [h]):p:=h
theorem yaZ (h:p:=by intro n hn;simp only [List.mem_cons,List.not_mem_nil,or_false] at hn;rcases hn with rfl|rfl<;>exact ⟨_,_,_,_,rfl⟩):p:=h
theorem ya0 (h:p:=by simp [IntL.toI,UInt64.lt_iff_toNat_lt]):p:=h
theorem ya1 (h:p:=by rw [zaQ hn0 (zaP hinv (.inr (by omega))),ur (fun h=>ht42 (by have:=List.drop_eq_nil_iff.1 h.2;have:=hinv.p2;omega))]):p:=h
theorem ya2 (h:p:=by simp [zh1,he,IntL.toI]):p:=h
theorem ya5 (h:p:=by rw [zap (by omega),ur (by decide),ur (by decide),ut (ua ht10)];unfold zcH;rw [ur ht20,ut (.inr (by assumption))]):p:=h
theorem ya6 (h:p:=by rw [zaQ hn0 (zaP hinv (.inr ht21)),ur (fun h=>ht39 (by have:=List.drop_eq_nil_iff.1 h.2;have:=hinv.p2;omega))]):p:=h
theorem ya7 (h:p:=by first|exact zoG hc g48 hb (by simpa using g59) (by omega)|(obtain rfl:k=0:=(by omega);exact zmg hc (by omega))):p:=h
theorem ya8 (h:p:=by rw [zaQ hn0 (zaP hinv (.inl g15)),ur (fun h=>ht39 (by have:=List.drop_eq_nil_iff.1 h.2;have:=hinv.p2;omega))]):p:=h
theorem ya9 (h:p:=by rw [zaQ hn0 (zaP hinv (.inr (by omega))),ut ⟨by omega,List.drop_eq_nil_iff.2 (by have:=ua ht42;omega)⟩]):p:=h
theorem yba (h:p:=by rw [ho];simp only [Op.operands,Call.operands];exact Array.mem_append.2 (.inr (Array.mem_toList_iff.1 hy))):p:=h
theorem ybb (h:p:=by simp only [List.length_cons];omega):p:=h
theorem ybc (h:p:=by first|decide|omega|(show (0:Int)<=((_:Nat):Int)-1;omega)|(simp [IntL.toI];done)|(simp [IntL.toI];omega)):p:=h
theorem ybd (h:p:=by rw [zfm,ur ht6,dif_pos (by omega)];cases l with|nil=>simp at ht6|cons a m=>simp at hx ⊢;exact hx.symm):p:=h
theorem ybe (h:p:=by rw [zap (by omega),ur (by decide),ur (by decide),ut (ua ht10)];unfold zcH;rw [ur ht20,ut (.inl ht23)]):p:=h
theorem ybf (h:p:=by rw [zaQ hn0 (zaP hinv (.inr ht21)),ut (⟨ua g33,List.drop_eq_nil_iff.2 (by have:=ua ht39;omega)⟩)]):p:=h
theorem ybg (h:p:=by rw [hinv.2,show k=0 by omega];rfl):p:=h
theorem ybh (h:p:=by rw [zaQ hn0 (zaP hinv (.inl g15)),ut (⟨ua g33,List.drop_eq_nil_iff.2 (by have:=ua ht39;omega)⟩)]):p:=h
theorem ybi (h:p:=by simp only [IntL.toI,id_eq];omega):p:=h
theorem ybj (h:p:=by rw [zap (by omega),ur ht36];by_cases k1:kd=1;rw [ut k1];unfold zhU;rw [ur ht56];rw [ur k1,ur ht56]):p:=h
theorem ybk (h:p:=by rw [hs'];exact Nat.two_pow_pos _):p:=h
theorem ybl (h:p:=by intro x hx;simp only [List.mem_cons,List.not_mem_nil,or_false] at hx;rcases hx with rfl<;>trivial):p:=h
theorem ybm (h:p:=by unfold newOk;rw [uh (by omega)]):p:=h
theorem ybn (h:p:=by show _<hi-lo;simp only [];omega):p:=h
theorem ybo (h:p:=by rw [un,hx,List.map_append];simp):p:=h
theorem ybp (h:p:=by unfold zbD;rw [ur (fun h=>g15 h.1),ur (fun h=>h.elim g15 ht26),ur (by rw [zf3 ht35];decide)]):p:=h
theorem ybq (h:p:=by unfold newR;rw [ur (by omega)]):p:=h
theorem ybr (h:p:=by rw [un,hx,List.map_append];rfl):p:=h
theorem ybs (h:p:=by simpa using hi):p:=h
theorem ybt (h:p:=by simp [hy]):p:=h
theorem ybu (h:p:=by rw [(zme hcn).1];exact zs rfl):p:=h
theorem ybv (h:p:=by exact ⟨_,ub ht11⟩):p:=h
theorem ybw (h:p:=by rw [zap (by omega),ur (by decide),ur (by decide),ut (ua ht10)];unfold zcH;rw [ut ht20]):p:=h
theorem ybx (h:p:=by show _<256;omega):p:=h
theorem yby (h:p:=by rw [List.length_drop];omega):p:=h
theorem ybz (h:p:=by first|exact zkS rfl rfl|exact zkR rfl rfl):p:=h
theorem ybA (h:p:=by have:=s.hun n;rw [hn] at this;exact this):p:=h
theorem ybB (h:p:=by have hE:hOk h=false:=uh (by omega);unfold zad;rw [hE,ur (by decide)];exact zs rfl):p:=h
theorem ybC (h:p:=by unfold zcH;rw [ur ht17,ur (fun h=>h.elim g24 ht30),ur ht35,ut ht39,ut (ua ht48)]):p:=h
theorem ybD (h:p:=by simp only [zaD];rfl):p:=h
theorem ybE (h:p:=by first|exact ⟨by omega,by omega,by rw [hinv.2.2,hgo,List.append_assoc];rfl⟩):p:=h
theorem ybF (h:p:=by first|(rw [zpV ht0,uo];simp only [IntL.toI,id_eq];omega)|exact (zjQ g38).symm):p:=h
theorem ybG (h:p:=by rw [show zmJ x=[] by unfold zmJ zcn;rw [ur (by rw [uj];omega)]];exact zs rfl):p:=h
theorem ybH (h:p:=by rw [show zad h=[] by unfold zad hOk;rw [ur (by rw [uj];omega)]];exact zs rfl):p:=h
theorem ybI (h:p:=by rw [e]):p:=h
theorem ybJ (h:p:=by unfold zcH;rw [ur ht17,ur (fun h=>h.elim g24 ht30),ur ht35,ut ht39,ur ht48]):p:=h
theorem ybK (h:p:=by show _<l.length-k;simp only [];omega):p:=h
theorem ybL (h:p:=by unfold zbD;rw [ur (fun h=>g16 h.1),ur (fun h=>h.elim g16 ht22),ut ht38]):p:=h
theorem ybM (h:p:=by unfold zbD;rw [ur (fun h=>g16 h.1),ur (fun h=>h.elim g16 ht22),ur ht38]):p:=h
theorem ybN (h:p:=by unfold zbD;rw [ur (fun h=>g15 h.1),ur (fun h=>h.elim g15 ht26),ut ht38]):p:=h
theorem ybO (h:p:=by rw [zpv];unfold zfj zqJ;rw [hpl,Nat.mul_div_cancel_left m (by decide)]):p:=h
theorem ybP (h:p:=by simpa using c):p:=h
theorem ybQ (h:p:=by simp only):p:=h
theorem ybR (h:p:=by rw [um];omega):p:=h
theorem ybS (h:p:=by rw [hj.2,zex he ht102];exact ht102):p:=h
theorem ybT (h:p:=by rw [(ziz hce).1,List.drop_take];congr 1<;>first|omega|(congr 1;omega)):p:=h
theorem ybU (h:p:=by exact rfl):p:=h
theorem ybV (h:p:=by rw [uc (by omega)];rfl):p:=h
theorem ybW (h:p:=by first|omega|assumption):p:=h
theorem ybX (h:p:=by cases zaV h.bits<;>rfl):p:=h
theorem ybY (h:p:=by unfold zcH;rw [ur ht17,ur (fun h=>h.elim g24 ht30),ur ht35,ur ht39]):p:=h
theorem ybZ (h:p:=by rw [zaQ hn0 (zaP hinv (.inl ht33)),ur (fun h=>by have:=h.1;omega)]):p:=h
theorem yb0 (h:p:=by (try simp only [ue,List.length_cons,List.length_nil,um,zb4]);omega):p:=h
theorem yb1 (h:p:=by exact ⟨yb,trivial⟩):p:=h
theorem yb2 (h:p:=by exact ⟨yX,trivial⟩):p:=h
theorem yb3 (h:p:=by exact ⟨yb,yk,trivial⟩):p:=h
theorem yb4 (h:p:=by exact ⟨yF,trivial⟩):p:=h
theorem yb5 (h:p:=by exact ⟨yo,yo,trivial⟩):p:=h
theorem yb6 (h:p:=by exact ⟨yG,yG,trivial⟩):p:=h
theorem yb7 (h:p:=by cases v<;>simp_all [Value.cells,Value.oneCell']):p:=h
theorem yb8 (h:p:=by rw [e1] at e3;injection e3 with e3;injection e3 with e3;injection e3):p:=h
theorem yb9 (h:p:=by intro e;rw [e] at hb;cases hb):p:=h
theorem yca (h:p:=by apply Array.ext';simp):p:=h
theorem ycb (h:p:=by rw [ho] at hc;cases hc):p:=h
theorem ycc (h:p:=by simpa using hn):p:=h
theorem ycd (h:p:=by funext j;exact propext ⟨fun h=>by omega,fun h=>by omega⟩):p:=h
theorem yce (h:p:=by rw [hinf] at hm;injection hm):p:=h
theorem ycf (h:p:=by rw [hn];trivial):p:=h
theorem ycg (h:p:=by rw [hn];exact hl):p:=h
theorem ych (h:p:=by simp [IntKind.wrap,IntKind.signed,IntKind.bits]):p:=h
theorem yci (h:p:=by intro e;rw [e] at h2;cases h2):p:=h
theorem ycj (h:p:=by rw [hn1] at hm1;exact Option.some.inj hm1):p:=h
theorem yck (h:p:=by simp only [flatV,List.flatMap_append,List.flatMap_cons,ue,Array.length_toList]):p:=h
theorem ycl (h:p:=by simp only [flatV,List.flatMap_append,List.flatMap_cons]):p:=h
theorem ycm (h:p:=by unfold zab;rw [ur (Classical.not_not.2 hmp),ur (show ¬4<l.length by omega)];rw [hinv.2.2,znH (fun h=>by first|exact g57 h.1|exact g55 h.2) hx ht66]):p:=h
theorem ycn (h:p:=by unfold zab;rw [ur (Classical.not_not.2 hmp),ur (show ¬4<l.length by omega)];rw [hrun];simp only [ur ht78]):p:=h
theorem yco (h:p:=by have:(zd0 bits 24).toNat<4294967296:=(zd0 bits 24).toNat_lt;show ((zd0 bits 24).toNat:Int)<4294967296;omega):p:=h
theorem ycp (h:p:=by rw [hM,um,List.length_drop];omega):p:=h
theorem ycq (h:p:=by unfold cutE;rw [hg,Bool.true_and,decide_eq_false_iff_not];omega):p:=h
theorem ycr (h:p:=by rcases (show k=0\/k=1 by omega) with rfl|rfl;exact .inl ⟨rfl,(Option.some.inj he).symm⟩;exact .inr ⟨rfl,(Option.some.inj he).symm⟩):p:=h
theorem xa (h:C) (t:HId C->A:=by intro hQ9;refine J.fin hds.2 _ _ _ (s.defers.trans hds.1) (results_tmp hfn _ _ _) s.below ?_;exact hQ9.1):A:=t ⟨h⟩
theorem xb (h:C) (t:HId C->A:=by intro hQ9;refine A0 (zcm rfl rfl rfl yp rfl) ?_;exact hQ9.1):A:=t ⟨h⟩
theorem xc (h:C) (t:HId C->A:=by intro hQ9;refine zA [some 1,some 1,some 1,some 1,some 1,some 1,none,some 1] mixed yc ?_;exact hQ9.1):A:=t ⟨h⟩
theorem xd (h:C) (t:HId C->A:=by intro hQ9;refine zA [some 1,some 1,some 1,some 1,some 1,some 1,some 1,some 1,some 1,none] mixed yc ?_;exact hQ9.1):A:=t ⟨h⟩
theorem xe (h:C) (t:HId C->A:=by intro hQ9;refine zf7 (As:=[_]) (Cs:=[_]) (zfK p _ hp) rfl rfl zos yd yn yb2 zaE zaE rfl rfl rfl ?_;exact hQ9.1):A:=t ⟨h⟩
theorem xf (h:C) (t:HId C->A:=by intro hQ9;refine ze3 (As:=[_]) (Cs:=[_]) (ze4 p _ hp) rfl rfl zmb yd yn yb2 zaE rfl rfl rfl ?_;exact hQ9.1):A:=t ⟨h⟩
theorem xg (h:C) (t:HId C->A:=by intro hQ9;refine ze3 (As:=[_]) (Cs:=[_]) (ze4 p _ hp) rfl rfl zmb yb1 yn yb2 zaE rfl rfl rfl ?_;exact hQ9.1):A:=t ⟨h⟩
theorem xh (h:C) (t:HId C->A:=by intro hQ9;refine X0 (zy (i:=k) rfl rfl rfl yi zbm ya) ?_;exact hQ9.1):A:=t ⟨h⟩
theorem xi (h:C) (t:HId C->A:=by intro hQ9;refine X0 (zr rfl rfl rfl (Lens.elem (i:=k) ya u64T) za2) ?_;exact hQ9.1):A:=t ⟨h⟩
theorem xj (h:C) (t:HId C->A:=by intro hQ9;refine XK.ga yN rfl rfl rfl ?_;exact hQ9.1):A:=t ⟨h⟩
theorem xk (h:C) (t:HId C->A:=by intro hQ9;refine A0 (zy (i:=k-1) rfl rfl rfl yi zbm ya) ?_;exact hQ9.1):A:=t ⟨h⟩
theorem xm (h:C) (t:HId C->A:=by intro hQ9;refine A0 (zr rfl rfl rfl (Lens.elem (i:=k-1) ya u64T) za2) ?_;exact hQ9.1):A:=t ⟨h⟩
theorem xo (h:C) (t:HId C->A:=by intro hQ9;refine XK.ga yg rfl rfl rfl ?_;exact hQ9.1):A:=t ⟨h⟩
theorem xp (h:C) (t:HId C->A:=by intro hQ9;refine zA [some 1000001,some 1000001,some 1000001,some 1000001,some 1000001,some 1000001,none,none,some 1] mixed yc ?_;exact hQ9.1):A:=t ⟨h⟩
theorem xq (h:C) (t:HId C->A:=by intro hQ9;refine zA [some 1,some 1,some 1,some 1,some 1,some 1,some 1,some 1,none,some 1] mixed yc ?_;exact hQ9.1):A:=t ⟨h⟩
theorem xr (h:C) (t:HId C->A:=by intro hQ9;refine A0 (zJ rfl znk zrH .nil rfl) ?_;exact hQ9.1):A:=t ⟨h⟩
theorem xt (h:C) (t:HId C->A:=by intro hQ9;refine G0 (zr rfl rfl rfl (Lens.elem (i:=k-1) ya u64T) za2) ?_;exact hQ9.1):A:=t ⟨h⟩
theorem xu (h:C) (t:HId C->A:=by intro hQ9;refine A0 (zy (i:=k) rfl rfl rfl yi zbm ya) ?_;exact hQ9.1):A:=t ⟨h⟩
theorem xv (h:C) (t:HId C->A:=by intro hQ9;refine zg rfl rfl rfl rfl rfl (Lens.elem (i:=k) ya u64T) za2 rfl ?_;exact hQ9.1):A:=t ⟨h⟩
theorem xw (h:C) (t:HId C->A:=by intro hQ9;refine XK.nilp ⟨⟨hpB rfl rfl,hpB rfl rfl,trivial⟩,trivial⟩ ?_;exact hQ9.1):A:=t ⟨h⟩
theorem xx (h:C) (t:HId C->A:=by intro hQ9;refine zp rfl rfl rfl rfl rfl rfl rfl zat yab ?_;exact hQ9.1):A:=t ⟨h⟩
theorem xy (h:C) (t:HId C->A:=by intro hQ9;refine zt (n:=0) (y:=askX f x) rfl yaL ?_;exact hQ9.1):A:=t ⟨h⟩
theorem xz (h:C) (t:HId C->A:=by intro hQ9;refine A0 (zx (i:=i) rfl rfl rfl ya zdG yj) ?_;exact hQ9.1):A:=t ⟨h⟩
theorem xA (h:C) (t:HId C->A:=by intro hQ9;refine A0 (zJ rfl zhh zha .nil rfl) ?_;exact hQ9.1):A:=t ⟨h⟩
theorem xB (h:C) (t:HId C->A:=by intro hQ9;refine A0 (zx (i:=i) rfl rfl rfl ya zcu yj) ?_;exact hQ9.1):A:=t ⟨h⟩
theorem xC (h:C) (t:HId C->A:=by intro hQ9;refine A0 (g_s2a (T:=u8T) (n:=32) 5 yl rfl rfl yt yB) ?_;exact hQ9.1):A:=t ⟨h⟩
theorem xD (h:C) (t:HId C->A:=by intro hQ9;refine A0 (zJ rfl znj zpk .nil rfl) ?_;exact hQ9.1):A:=t ⟨h⟩
theorem xE (h:C) (t:HId C->A:=by intro hQ9;refine A0 (oLb (zby.comp zaB) zcy) ?_;exact hQ9.1):A:=t ⟨h⟩
theorem xF (h:C) (t:HId C->A:=by intro hQ9;refine A0 (oCl (zcM c hc) rfl zjS yd) ?_;exact hQ9.1):A:=t ⟨h⟩
theorem xG (h:C) (t:HId C->A:=by intro hQ9;refine G0 (oCl (zjZ c.opn who) rfl fn_197 ⟨(zL rfl rfl),yk,trivial⟩) ?_;exact hQ9.1):A:=t ⟨h⟩
theorem xH (h:C) (t:HId C->A:=by intro hQ9;refine zeC 8 6 (pre:=[.val i64T c.m,.val i64T c.k]) rfl rfl rfl ?_;exact hQ9.1):A:=t ⟨h⟩
end
end Go
namespace Go.Ab
theorem znm {p:Program} {w:World} {at_:Addr} {u:TypeId} {k:Addr} {v:Value} {b:Bool} {r:World×List Addr} (h:w.viewStore p at_ u k v b = .ok r):r.1.drawn=w.drawn:=by
  unfold World.viewStore at h;simp only[bind,Except.bind,pure,Except.pure,throw,throwThe,MonadExceptOf.throw] at h
  repeat' split at h
  all_goals first
    | (cases h;rfl)
    | (cases h;done)
    | skip
theorem zoU {α:Type}:∀(s:Ask α) (w:World),w.drawn<=(w.ask s).2.drawn
  | .done a,w=>ug _
  | .ask what range k,w=>by
    unfold World.ask;dsimp only
    split
    . exact zoU _ _
    exact Nat.le_trans (le_succ _) (zoU _ { w with drawn:=w.drawn+1 })
theorem sys_drawn (w:World) (c:Sys):w.drawn<=(w.sys c).2.drawn:=by
  have:=zoU (Kernel.perform c w.os) w
  unfold World.sys
  split
  . exact ug _
  rename_i r os w' _ h;rw[h] at this;exact this
theorem store_tail {α:Type} {P:Program} {k:Sem α} {w w':World} {v:α} {a:Addr} {m:Bool} {y:Value} (ih:∀w1,k.run P w1 = .ok v w'->w1.drawn<=w'.drawn)
    (h : (match w.cell? a with
        | some _ => if w.frozen? a then Result.halt (.unsupported (.unsafePointer "a write to bytes that a string shares")) w else k.run P (w.setCell a y)
        | none=>match w.farStore P a y m with
          | .ok (w,_)=>k.run P w
          | .error h=>.halt h w) = .ok v w'):w.drawn<=w'.drawn:=by
  split at h
  . split at h
    . cases h
    exact ih (w.setCell a y) h
  split at h
  . rename_i w1 l hf
    have h1:=ih _ h;have h2:w1.drawn=w.drawn:=by
      unfold World.farStore at hf
      split at hf
      . split at hf
        . rename_i r hr
          have:=znm hr
          cases hf;exact this
        cases hf
      cases hf
    omega
  cases h
theorem znF {α:Type} {P:Program} (s:Sem α):∀{w w':World} {v:α},s.run P w = .ok v w'->w.drawn<=w'.drawn:=by
  induction s with
  | pure a=>intro w w' v h;unfold Sem.run at h;cases h;exact ug _
  | load m a k ih =>
    intro w w' v h;unfold Sem.run at h
    split at h
    . exact ih _ h
    split at h
    . exact ih _ h
    cases h
  | store m a x k ih =>
    intro w w' v h;cases x with
    | agg cs=>simp only[Sem.run] at h;cases h
    | tuple cs=>simp only[Sem.run] at h;cases h
    | _=>exact store_tail (fun _=>ih) h
  | new o k ih=>intro w w' v h;unfold Sem.run at h;exact ih _ (w:={ w with heap:=w.heap.push o }) h
  | shape r k ih=>intro w w' v h;unfold Sem.run at h;exact ih _ h
  | freeze a n k ih =>
    intro w w' v h;unfold Sem.run at h
    have:=ih h
    unfold World.freeze at this
    split at this<;>exact this
  | frozen a k ih=>intro w w' v h;unfold Sem.run at h;exact ih _ h
  | getObj r k ih =>
    intro w w' v h;unfold Sem.run at h
    split at h
    . cases h
    . exact ih _ h
    cases h
  | setObj r o k ih =>
    intro w w' v h;unfold Sem.run at h
    split at h
    . cases h
    . exact ih (w:={ w with heap:=w.heap.setIfInBounds r o }) h
    cases h
  | choose q k ih =>
    intro w w' v h;unfold Sem.run at h
    split at h
    . exact ih _ h
    exact Nat.le_trans (le_succ _) (ih _ (w:={ w with drawn:=w.drawn+1 }) h)
  | sys c k ih=>intro w w' v h;unfold Sem.run at h;exact Nat.le_trans (sys_drawn w c) (ih _ h)
  | program k ih=>intro w w' v h;unfold Sem.run at h;exact ih _ h
  | mark m k ih=>intro w w' v h;unfold Sem.run at h;exact ih h
  | halt x=>intro w w' v h;unfold Sem.run at h;cases h
end Go.Ab
namespace Go.Ab
open Go.RowKit
structure Below (B:Nat) (w w':World):Prop extends Go.RowKit.Below B w w' where
  drawn:w.drawn<=w'.drawn
theorem Below.refl (B:Nat) (w:World):Below B w w:=⟨Go.RowKit.Below.refl B w,ug _⟩
theorem Below.alloc {B:Nat} {a w:World} (h:Below B a w) (hB:B<=w.heap.size) (o:Obj):Below B a (w.alloc o):=⟨h.toBelow.alloc hB o,h.drawn⟩
theorem Below.trans {B:Nat} {a b c:World} (h:Below B a b) (k:Below B b c):Below B a c:=⟨h.toBelow.trans k.toBelow,Nat.le_trans h.drawn k.drawn⟩
theorem Below.mono {B B':Nat} {w w':World} (h:Below B w w') (hB:B'<=B):Below B' w w':=⟨h.toBelow.mono hB,h.drawn⟩
structure Keeps (U N:Nat->Prop) (w:World) (U' N':Nat->Prop) (w':World):Prop where
  sub:∀b,N b->U b
  size:w.heap.size<=w'.heap.size
  blk:∀b,b<w.heap.size->¬N b->w'.heap[b]?=w.heap[b]?
  up:∀b,b<w.heap.size->U' b->U b
  nn:∀b,b<w.heap.size->N' b->N b
theorem Keeps.refl {U N:Nat->Prop} {w:World} (h:∀b,N b->U b):Keeps U N w U N w :=
  ⟨h,ug _,fun _ _ _=>rfl,fun _ _ h=>h,fun _ _ h=>h⟩
structure GoT (α:Type) where
  size:Nat
  agg:Bool
  rel:(Nat->Prop)->(Nat->Prop)->World->α->List Value->Prop
  pos:0<size
  sc:agg=false->size=1
  len:∀{U N w x cs},rel U N w x cs->cs.length=size
  one:∀{U N w x cs},rel U N w x cs->∀v∈cs,v.oneCell'=true
  mono:∀{U N U' N':Nat->Prop} {w w':World} {x cs},Keeps U N w U' N' w'->rel U N w x cs->rel U' N' w' x cs
class Strict {α:Type} (T:GoT α):Prop where
  out:∀{U N N' w x cs},T.rel U N w x cs->T.rel U N' w x cs
def GoT.val {α:Type} (T:GoT α) (U N:Nat->Prop) (w:World) (x:α) (v:Value):Prop :=
  ∃cs,T.rel U N w x cs/\((T.agg=true/\v = .agg cs.toArray)\/(T.agg=false/\cs=[v]))
def GoT.at_ {α:Type} (T:GoT α) (U N:Nat->Prop) (w:World) (a:Addr) (x:α):Prop :=
  ∃cs,T.rel U N w x cs/\∀j v,cs[j]?=some v->w.cell? (a.add j)=some v
section
variable {α Z γ:Type}
theorem zbM (a:Addr) (n:Nat):(a.add n).block=a.block:=by unfold Addr.add;split<;>rfl
theorem zbO (a:Addr) (i j:Nat):(a.add i).add j=a.add (i+j):=by
  unfold Addr.add;by_cases hi:i=0<;>by_cases hj:j=0<;>simp[hi,hj,add_assoc]
theorem add_zero (a:Addr):a.add 0=a:=rfl
theorem zuS {w:World} {a:Addr} {v:Value} (h:w.cell? a=some v):a.block<w.heap.size:=block_lt_of_cell h
theorem GoT.val_cells {T:GoT α} {U N w x v} (h:T.val U N w x v):T.rel U N w x v.cells.toList:=by
  obtain⟨cs,hr,h|h⟩:=h
  . rw[h.2];simpa [Value.cells] using hr
  have hv:=T.one hr v (by rw[h.2];simp)
  have:v.cells = #[v]:=yb7
  rw[this];rw[h.2] at hr;exact hr
theorem GoT.val_mono {T:GoT α} {U N U' N':Nat->Prop} {w w':World} {x v} (k:Keeps U N w U' N' w') (h:T.val U N w x v):T.val U' N' w' x v :=
  let ⟨cs,hr,h⟩:=h;⟨cs,T.mono k hr,h⟩
theorem GoT.at_mono {T:GoT α} {U N U' N':Nat->Prop} {w w':World} {a x} (k:Keeps U N w U' N' w') (ha:¬N a.block) (h:T.at_ U N w a x):T.at_ U' N' w' a x:=by
  obtain⟨cs,hr,h⟩:=h;refine⟨cs,T.mono k hr,fun j v hj=>?_⟩
  have:=h j v hj
  rw[World.cell?_of_block (w:=w)]
  . exact this
  rw[zbM];exact k.blk _ (by have:=zuS this;rwa [zbM] at this) ha
theorem GoT.val_strict {T:GoT α} [Strict T] {U N N' w x v} (h:T.val U N w x v):T.val U N' w x v :=
  let ⟨cs,hr,h⟩:=h;⟨cs,Strict.out hr,h⟩
def scT (f:α->Value) (ok:α->Prop) (h1:∀x,(f x).oneCell'=true):GoT α where
  size:=1
  agg:=false
  rel _ _ _ x cs:=cs=[f x]/\ok x
  pos:=yl
  sc _:=rfl
  len h:=by rw[h.1];rfl
  one h v hv:=by obtain⟨rfl,_⟩:=h;simp at hv;rw[hv];exact h1 _
  mono _ h:=h
theorem zfF (f:α->Value) (ok:α->Prop) (h1:∀x,(f x).oneCell'=true):Strict (scT f ok h1):=⟨fun h=>h⟩
def IntKind.InR (k:IntKind) (n:Int):Prop:=k.min<=n/\n<=k.max
def intT (k:IntKind):GoT Int:=scT (fun n=>.int k n) (fun n=>IntKind.InR k n) (fun _=>rfl)
def zo:GoT Bool:=scT (fun b=>.bool b) (fun _=>True) (fun _=>rfl)
def u8T:GoT UInt8:=scT (fun n=>.int .u8 n.toNat) (fun _=>True) (fun _=>rfl)
def u32T:GoT UInt32:=scT (fun n=>.int .u32 n.toNat) (fun _=>True) (fun _=>rfl)
def u64T:GoT UInt64:=scT (fun n=>.int .u64 n.toNat) (fun _=>True) (fun _=>rfl)
instance (k:IntKind):Strict (intT k):=zfF _ _ _
instance:Strict zo:=zfF _ _ _
instance:Strict u8T:=zfF _ _ _
instance:Strict u32T:=zfF _ _ _
instance:Strict u64T:=zfF _ _ _
abbrev i64T:GoT Int:=intT .i64
def zbF (A:GoT α) (B:GoT Z):GoT (α×Z) where
  size:=A.size+B.size
  agg:=true
  rel U N w x cs:=∃c1 c2,cs=c1++c2/\A.rel U N w x.1 c1/\B.rel U N w x.2 c2
  pos:=by have:=A.pos;omega
  sc h:=by cases h
  len h:=by obtain⟨c1,c2,rfl,h1,h2⟩:=h;rw[ue,A.len h1,B.len h2]
  one h v hv:=by
    obtain⟨c1,c2,rfl,h1,h2⟩:=h;rcases List.mem_append.1 hv with hv|hv
    . exact A.one h1 v hv
    exact B.one h2 v hv
  mono k h:=by obtain⟨c1,c2,e,h1,h2⟩:=h;exact⟨c1,c2,e,A.mono k h1,B.mono k h2⟩
instance (A:GoT α) (B:GoT Z) [Strict A] [Strict B]:Strict (zbF A B) :=
  ⟨fun h=>by obtain⟨c1,c2,e,h1,h2⟩:=h;exact⟨c1,c2,e,Strict.out h1,Strict.out h2⟩⟩
def viaT (A:GoT α) (g:Z->α):GoT Z where
  size:=A.size
  agg:=true
  rel U N w x cs:=A.rel U N w (g x) cs
  pos:=A.pos
  sc h:=by cases h
  len h:=A.len h
  one h:=A.one h
  mono k h:=A.mono k h
instance (A:GoT α) (g:Z->α) [Strict A]:Strict (viaT A g):=⟨fun h=>Strict.out (T:=A) h⟩
structure Lens (T:GoT α) (off:Nat) (S:GoT Z) (get:α->Z) (set:α->Z->α):Prop where
  fit:off+S.size<=T.size
  get_:∀{U N w x cs},T.rel U N w x cs->S.rel U N w (get x) ((cs.drop off).take S.size)
  set_:∀{U N w x cs y ds},T.rel U N w x cs->S.rel U N w y ds->T.rel U N w (set x y) (cs.take off++ds++cs.drop (off+S.size))
theorem Lens.self (T:GoT α):Lens T 0 T (fun x=>x) (fun _ y=>y) where
  fit:=ya
  get_ h:=by simpa [<-T.len h] using h
  set_ h k:=by simpa [<-T.len h] using k
theorem Lens.fst (A:GoT α) (B:GoT Z):Lens (zbF A B) 0 A (fun x=>x.1) (fun x y=>(y,x.2)) where
  fit:=by simp[zbF]
  get_ h:=by obtain⟨c1,c2,rfl,h1,h2⟩:=h;simpa [<-A.len h1] using h1
  set_ h k:=by
    obtain⟨c1,c2,rfl,h1,h2⟩:=h;exact⟨_,c2,by simp[<-A.len h1],k,h2⟩
theorem Lens.snd (A:GoT α) (B:GoT Z):Lens (zbF A B) A.size B (fun x=>x.2) (fun x y=>(x.1,y)) where
  fit:=by simp[zbF]
  get_ h:=by obtain⟨c1,c2,rfl,h1,h2⟩:=h;simpa [<-A.len h1,<-B.len h2] using h2
  set_ h k:=by
    obtain⟨c1,c2,rfl,h1,h2⟩:=h;refine⟨c1,_,?_,h1,k⟩;simp[<-A.len h1,<-B.len h2]
theorem Lens.via {A:GoT α} {o:Nat} {S:GoT γ} {get:α->γ} {set:α->γ->α} (L:Lens A o S get set) (g:Z->α) (f:α->Z) (hgf:∀x,g (f x)=x) :
    Lens (viaT A g) o S (fun x=>get (g x)) (fun x y=>f (set (g x) y)) where
  fit:=L.fit
  get_ h:=L.get_ h
  set_ h k:=by show A.rel _ _ _ _ _;rw[hgf];exact L.set_ h k
theorem Lens.comp {T:GoT α} {S:GoT Z} {R:GoT γ} {o1 o2:Nat} {get1:α->Z} {set1:α->Z->α} {get2:Z->γ} {set2:Z->γ->Z} (L:Lens T o1 S get1 set1) (M:Lens S o2 R get2 set2) :
    Lens T (o1+o2) R (fun x=>get2 (get1 x)) (fun x y=>set1 x (set2 (get1 x) y)) where
  fit:=by have:=L.fit;have:=M.fit;omega
  get_ h:=by
    have h1:=M.get_ (L.get_ h);have hf:=M.fit;rw[List.drop_take,List.take_take,List.drop_drop,min_eq_left ya] at h1;exact h1
  set_ {U N w x cs y ds} h k:=by
    have h1:=M.set_ (L.get_ h) k;have h2:=L.set_ h h1;have hl:=T.len h;have hd:=R.len k;have f1:=L.fit;have f2:=M.fit;have e:cs.take o1++(((cs.drop o1).take S.size).take o2++ds++((cs.drop o1).take S.size).drop (o2+R.size))++cs.drop (o1+S.size)=cs.take (o1+o2)++ds++cs.drop (o1+o2+R.size):=by
      apply List.ext_getElem?;intro i;simp only[List.getElem?_append,List.getElem?_take,List.getElem?_drop,ue,um,length_drop,hl,hd];rw[min_eq_left (by omega:o1<=T.size),min_eq_left (by omega:S.size<=T.size-o1),min_eq_left (by omega:o2<=S.size),min_eq_left (by omega:o1+o2<=T.size)];by_cases c1:i<o1
      . rw[ut ya,ut ya,ut ya,ut ya,ut ya,ut ya]
      by_cases c2:i<o1+o2
      . rw[ut ya,ur ya,ut ya,ut ya,ut ya,ut ya,ut ya,ut ya,ut ya]
        congr 1;omega
      by_cases c3:i<o1+o2+R.size
      . rw[ut ya,ur ya,ut ya,ur ya,ut ya,ur ya]
        congr 1;omega
      by_cases c4:i<o1+S.size
      . rw[ut ya,ur ya,ur ya,ut ya,ur ya]
        congr 1;omega
      rw[ur ya,ur ya];congr 1;omega
    rw[e] at h2;exact h2
theorem Lens.cast {T:GoT α} {S:GoT Z} {o o':Nat} {get get':α->Z} {set set':α->Z->α} (L:Lens T o S get set) (ho:o=o') (hg:∀x,get x=get' x) (hs:∀x y,set x y=set' x y):Lens T o' S get' set':=by
  obtain rfl:get=get':=funext hg;obtain rfl:set=set':=funext fun x=>funext fun y=>hs x y
  exact ho▸L
def zai (T:GoT α) (U N:Nat->Prop) (w:World):List α->List Value->Prop
  | [],cs=>cs=[]
  | x::l,cs=>∃c1 c2,cs=c1++c2/\T.rel U N w x c1/\zai T U N w l c2
theorem zai.len {T:GoT α} {U N w}:∀{l:List α} {cs},zai T U N w l cs->cs.length=l.length*T.size
  | [],cs,h=>by simp[show cs=[] from h]
  | x::l,cs,h=>by
    obtain⟨c1,c2,rfl,h1,h2⟩:=h;rw[ue,T.len h1,h2.len,length_cons,add_mul];omega
theorem zai.one {T:GoT α} {U N w}:∀{l:List α} {cs},zai T U N w l cs->∀v∈cs,v.oneCell'=true
  | [],cs,h,v,hv=>by rw[show cs=[] from h] at hv;simp at hv
  | x::l,cs,h,v,hv=>by
    obtain⟨c1,c2,rfl,h1,h2⟩:=h;rcases List.mem_append.1 hv with hv|hv
    . exact T.one h1 v hv
    exact h2.one v hv
theorem zai.mono {T:GoT α} {U N U' N':Nat->Prop} {w w':World} (k:Keeps U N w U' N' w'):∀{l:List α} {cs},zai T U N w l cs->zai T U' N' w' l cs
  | [],_,h=>h
  | _::_,_,⟨c1,c2,e,h1,h2⟩=>⟨c1,c2,e,T.mono k h1,h2.mono k⟩
theorem zai.strict {T:GoT α} [Strict T] {U N N' w}:∀{l:List α} {cs},zai T U N w l cs->zai T U N' w l cs
  | [],_,h=>h
  | _::_,_,⟨c1,c2,e,h1,h2⟩=>⟨c1,c2,e,Strict.out h1,h2.strict⟩
theorem zai.append {T:GoT α} {U N w}:∀{l m:List α} {cs ds},zai T U N w l cs->zai T U N w m ds->zai T U N w (l++m) (cs++ds)
  | [],m,cs,ds,h,k=>by rw[show cs=[] from h];exact k
  | x::l,m,cs,ds,⟨c1,c2,e,h1,h2⟩,k=>⟨c1,c2++ds,by rw[e,append_assoc],h1,h2.append k⟩
theorem zai.get {T:GoT α} {U N w}:∀{l:List α} {cs} {i:Nat} (_:zai T U N w l cs) {x:α},l[i]?=some x->T.rel U N w x ((cs.drop (i*T.size)).take T.size)
  | [],_,_,_,_,hi=>by simp at hi
  | y::l,cs,0,h,x,hi=>by
    obtain⟨c1,c2,rfl,h1,h2⟩:=h;simp at hi;subst hi;simpa [<-T.len h1] using h1
  | y::l,cs,i+1,h,x,hi=>by
    obtain⟨c1,c2,rfl,h1,h2⟩:=h
    have:=h2.get (i:=i) ybs
    have e:(c1++c2).drop ((i+1)*T.size)=c2.drop (i*T.size):=by
      rw[add_mul,one_mul,add_comm,<-T.len h1,<-List.drop_drop];simp
    rw[e];exact this
theorem zai.set {T:GoT α} {U N w}:∀{l:List α} {cs} {i:Nat} (_:zai T U N w l cs) {y:α} {ds},i<l.length->T.rel U N w y ds->
    zai T U N w (l.set i y) (cs.take (i*T.size)++ds++cs.drop ((i+1)*T.size))
  | [],_,_,_,_,_,hi,_=>by simp at hi
  | x::l,cs,0,h,y,ds,_,k=>by
    obtain⟨c1,c2,rfl,h1,h2⟩:=h;refine⟨ds,c2,?_,k,h2⟩;simp[<-T.len h1]
  | x::l,cs,i+1,h,y,ds,hi,k=>by
    obtain⟨c1,c2,rfl,h1,h2⟩:=h
    have:=h2.set (i:=i) ybs k
    refine⟨c1,_,?_,h1,this⟩;have e1:(c1++c2).take ((i+1)*T.size)=c1++c2.take (i*T.size):=by
      rw[add_mul,one_mul,add_comm,<-T.len h1,List.take_length_add_append]
    have e2:(c1++c2).drop ((i+1+1)*T.size)=c2.drop ((i+1)*T.size):=by
      rw[add_mul (i+1),one_mul,add_comm ((i+1)*T.size),<-T.len h1,List.drop_length_add_append]
    rw[e1,e2,append_assoc,append_assoc,append_assoc]
theorem zai.take {T:GoT α} {U N w}:∀{l:List α} {cs} (i:Nat),zai T U N w l cs->zai T U N w (l.take i) (cs.take (i*T.size))
  | [],cs,i,h=>by rw[show cs=[] from h];simp[zai]
  | x::l,cs,0,_=>by simp[zai]
  | x::l,cs,i+1,h=>by
    obtain⟨c1,c2,rfl,h1,h2⟩:=h;refine⟨c1,c2.take (i*T.size),?_,h1,h2.take i⟩;rw[add_mul,one_mul,add_comm,<-T.len h1,List.take_length_add_append]
theorem zai.drop {T:GoT α} {U N w}:∀{l:List α} {cs} (i:Nat),zai T U N w l cs->zai T U N w (l.drop i) (cs.drop (i*T.size))
  | [],cs,i,h=>by rw[show cs=[] from h];simp[zai]
  | x::l,cs,0,h=>by simpa using h
  | x::l,cs,i+1,h=>by
    obtain⟨c1,c2,rfl,h1,h2⟩:=h;have e:(c1++c2).drop ((i+1)*T.size)=c2.drop (i*T.size):=by
      rw[add_mul,one_mul,add_comm,<-T.len h1,List.drop_length_add_append]
    rw[e,List.drop_succ_cons];exact h2.drop i
def arrT (n:Nat) (hn:0<n) (T:GoT α):GoT (List α) where
  size:=n*T.size
  agg:=true
  rel U N w l cs:=l.length=n/\zai T U N w l cs
  pos:=Nat.mul_pos hn T.pos
  sc h:=by cases h
  len h:=by rw[h.2.len,h.1]
  one h:=h.2.one
  mono k h:=⟨h.1,h.2.mono k⟩
instance (n:Nat) (hn:0<n) (T:GoT α) [Strict T]:Strict (arrT n hn T):=⟨fun h=>⟨h.1,h.2.strict⟩⟩
abbrev Id:=List UInt8
def idT:GoT Id:=arrT 32 yl u8T
instance:Strict idT:=inferInstanceAs (Strict (arrT ..))
def slT (b:Bool) (T:GoT α):GoT (List α) where
  size:=1
  agg:=false
  rel U N w l cs:=∃a cap,cs=[.slice a l.length cap]/\l.length<=cap/\cap<=maxLen/\
    (l≠[]->∃ad ds,a=some ad/\¬(if b then N else U) ad.block/\zai T U N w l ds/\∀j v,ds[j]?=some v->w.cell? (ad.add j)=some v)
  pos:=yl
  sc _:=rfl
  len h:=by obtain⟨_,_,rfl,_⟩:=h;rfl
  one h v hv:=by obtain⟨_,_,rfl,_⟩:=h;simp at hv;rw[hv];rfl
  mono {U N U' N' w w' x cs} k h:=by
    obtain⟨a,cap,e,h1,h2,h3⟩:=h;refine⟨a,cap,e,h1,h2,fun hl=>?_⟩;obtain⟨ad,ds,rfl,hu,hr,hc⟩:=h3 hl;have hN:¬N ad.block:=by
      cases b
      . exact fun hn=>hu (k.sub _ hn)
      exact hu
    have hlt:ad.block<w.heap.size:=by
      have hpos:0<ds.length:=by
        rw[hr.len];exact Nat.mul_pos (List.length_pos_iff.2 hl) T.pos
      have:=zuS (hc 0 _ (ub hpos))
      rwa [zbM] at this
    refine⟨ad,ds,rfl,?_,hr.mono k,fun j v hj=>?_⟩
    . cases b
      . exact fun hn=>hu (k.up _ hlt hn)
      exact fun hn=>hu (k.nn _ hlt hn)
    have:=hc j v hj
    rw[World.cell?_of_block (w:=w)]
    . exact this
    rw[zbM];exact k.blk _ hlt hN
abbrev sl (T:GoT α):GoT (List α):=slT false T
abbrev bsl (T:GoT α):GoT (List α):=slT true T
instance (T:GoT α) [Strict T]:Strict (slT false T):=⟨fun h=>by
  obtain⟨a,cap,e,h1,h2,h3⟩:=h;refine⟨a,cap,e,h1,h2,fun hl=>?_⟩;obtain⟨ad,ds,rfl,hu,hr,hc⟩:=h3 hl;exact⟨ad,ds,rfl,hu,hr.strict,hc⟩⟩
def Sub (T S:GoT α):Prop:=∀{U N w x v},(∀b,N b->U b)->T.val U N w x v->S.val U N w x v
theorem Sub.refl (T:GoT α):Sub T T:=fun _ h=>h
theorem zt4 (T:GoT α):Sub (sl T) (bsl T):=fun hN h=>by
  obtain⟨cs,⟨a,cap,e,h1,h2,h3⟩,h⟩:=h;refine⟨cs,⟨a,cap,e,h1,h2,fun hl=>?_⟩,h⟩;obtain⟨ad,ds,rfl,hu,hr⟩:=h3 hl;exact⟨ad,ds,rfl,fun hn=>hu (hN _ hn),hr⟩
end
end Go.Ab
namespace Go.Ab
open Go.RowKit
def zaH:Value->Option Nat
  | .pointer (some a)=>some a.block
  | .slice (some a) _ _=>some a.block
  | _=>none
inductive AV:Type 1
  | idk
  | lit (v:Value)
  | val {α:Type} (T:GoT α) (x:α)
  | ptr (n off:Nat)
  | eptr (n i sz off:Nat)
  | rptr {α:Type} (T:GoT α) (x:α)
  | own (n:Nat)
  | fresh (e:TypeId) {α:Type} (T:GoT α) (l:List α)
  | clo (f:FuncId) (caps:List Nat)
  | bnd (f:FuncId) (n:Nat)
  | vw (n off len:Nat)
  | osub (n sz lo len:Nat)
  | fn1 (P:Program) {α Z:Type} (A:GoT α) (B:GoT Z) (f:α->Z)
  | fn2 (P:Program) {α Z γ:Type} (A:GoT α) (A':GoT Z) (B:GoT γ) (f:α->Z->γ)
  | tup2 (a b:AV)
  | tup3 (a b c:AV)
  | cat (a b:AV)
  | ifc (t:TypeId) (a:AV)
def AV.cells:AV->Nat
  | .val T _=>T.size
  | .cat a b=>a.cells+b.cells
  | _=>1
@[irreducible] def fnB (P : Program) (f : FuncId) : Bool := match P.funcs[f]? with | some fn => fn.body.isSome && !(fn.name == "runtime.NumGoroutine") | none => false
theorem zbG {P : Program} {f : FuncId} (h : fnB P f = true) : ∃ fn, P.funcs[f]? = some fn ∧ fn.body.isSome = true ∧ (fn.name == "runtime.NumGoroutine") = false := by
  unfold fnB at h;cases hf:P.funcs[f]? with
  | none=>simp[hf] at h
  | some fn=>simp[hf] at h;exact⟨fn,rfl,h.1,by simpa using h.2⟩
def zo1 (U N:Nat->Prop) (w:World) (v:Value) (C:World->(Nat->Prop)->FuncId->Array Value->Prop):Prop :=
  ∃(w1:World) (U1:Nat->Prop) (g:FuncId) (caps:Array Value),v = .func (.func g) #[] caps/\w1.heap.size<=w.heap.size/\(∀b,b<w1.heap.size->¬N b/\w.heap[b]?=w1.heap[b]?/\(U b->U1 b))/\
    ∀w' ext,w1.heap.size<=w'.heap.size->(∀b,b<w1.heap.size->w'.heap[b]?=w1.heap[b]?/\(ext b->U1 b))->(∀b,ext b->b<w'.heap.size)->C w' ext g caps
def zu7 {Z:Type} (ext:Nat->Prop) (w0:World) (B:GoT Z) (y:Z):Ending->World->Prop
  | .returned v,w=>Below w0.heap.size w0 w/\B.val ext ext w y v
  | .outgrown,_=>False
  | _,_=>False
def AV.rel (ρ:Nat->Value) (B:Nat->Prop) (U N:Nat->Prop) (w:World):AV->Value->Prop
  | .idk,_=>True
  | .lit x,v=>v=x
  | .val T x,v=>T.val U N w x v
  | .ptr n off,v=>∃g,ρ n = .pointer (some ⟨g,0,none⟩)/\v = .pointer (some ((⟨g,0,none⟩:Addr).add off))
  | .eptr n i sz off,v=>∃g len cap,ρ n = .slice (some ⟨g,0,none⟩) len cap/\v = .pointer (some ((⟨g,0,none⟩:Addr).add (i*sz+off)))
  | .rptr T x,v=>∃ad,v = .pointer (some ad)/\¬N ad.block/\T.at_ U N w ad x
  | .own n,v=>v=ρ n
  | .fresh e T l,v=>∃xs,w.ownsRow 0 e T.size v l.length xs/\(∀b,zaH v=some b->B b/\b<w.heap.size)/\zai T (fun b=>U b\/zaH v=some b) (fun b=>U b\/zaH v=some b) w l xs
  | .clo f caps,v=>v = .func (.func f) #[] (caps.map ρ).toArray
  | .bnd f n,v=>∃g,ρ n = .pointer (some ⟨g,0,none⟩)/\v = .func (.func f) #[.pointer (some ⟨g,0,none⟩)] #[]
  | .vw n off len,v=>∃g cap,ρ n = .pointer (some ⟨g,0,none⟩)/\v = .slice (some ((⟨g,0,none⟩:Addr).add off)) len cap/\len<=cap/\cap<=maxLen
  | .osub n sz lo len,v=>∃g L cap,ρ n = .slice (some ⟨g,0,none⟩) L cap/\lo+len<=cap/\v = .slice (some (if cap=lo then ⟨g,0,none⟩ else (⟨g,0,none⟩:Addr).add (lo*sz))) len (cap-lo)
  | .fn1 P A B f,v=>zo1 U N w v fun w' ext g caps=>fnB P g=true/\∀x vx,A.val ext (fun _=>False) w' x vx->Calls P g (#[vx]++caps) w' (zu7 ext w' B (f x))
  | .fn2 P A A' B f,v=>zo1 U N w v fun w' ext g caps=>fnB P g=true/\∀x vx y vy,A.val ext (fun _=>False) w' x vx->A'.val ext (fun _=>False) w' y vy->Calls P g (#[vx,vy]++caps) w' (zu7 ext w' B (f x y))
  | .tup2 a b,v=>∃x y,v = .tuple #[x,y]/\a.rel ρ B U N w x/\b.rel ρ B U N w y
  | .tup3 a b c,v=>∃x y z,v = .tuple #[x,y,z]/\a.rel ρ B U N w x/\b.rel ρ B U N w y/\c.rel ρ B U N w z
  | .cat a b,v=>∃x y,v = .agg (x.cells++y.cells)/\a.rel ρ B U N w x/\b.rel ρ B U N w y/\(x.cells.size=a.cells/\y.cells.size=b.cells)/\(∀u∈x.cells.toList,u.oneCell'=true)/\∀u∈y.cells.toList,u.oneCell'=true
  | .ifc t a,v=>∃x,v = .iface t x/\a.rel ρ B U N w x
def AV.under (nx:Nat):AV->Prop
  | .ptr n _ | .eptr n _ _ _ | .own n | .vw n _ _ | .osub n _ _ _ | .bnd _ n=>n<nx
  | .clo _ caps=>∀c∈caps,c<nx
  | .fresh ..=>False
  | .tup2 a b=>a.under nx/\b.under nx
  | .cat a b=>a.under nx/\b.under nx
  | .ifc _ a=>a.under nx
  | .tup3 a b c=>a.under nx/\b.under nx/\c.under nx
  | _=>True
def AV.under0:AV->Bool
  | .idk | .lit _ | .val .. | .rptr .. | .fn1 .. | .fn2 ..=>true
  | .clo _ caps=>caps.isEmpty
  | .tup2 a b=>a.under0&&b.under0
  | .cat a b=>a.under0&&b.under0
  | .ifc _ a=>a.under0
  | .tup3 a b c=>a.under0&&(b.under0&&c.under0)
  | _=>false
theorem AV.under0_spec:∀{x:AV},x.under0=true->x.under 0
  | .idk,_=>trivial
  | .lit _,_=>trivial
  | .val ..,_=>trivial
  | .rptr ..,_=>trivial
  | .fn1 ..,_=>trivial
  | .fn2 ..,_=>trivial
  | .clo _ caps,h=>fun c hc=>by
    have:caps=[]:=by simpa [AV.under0] using h
    rw[this] at hc;cases hc
  | .tup2 a b,h=>by
    simp only[AV.under0,uk] at h;exact⟨AV.under0_spec h.1,AV.under0_spec h.2⟩
  | .tup3 a b c,h=>by
    simp only[AV.under0,uk] at h;exact⟨AV.under0_spec h.1,AV.under0_spec h.2.1,AV.under0_spec h.2.2⟩
  | .cat a b,h=>by
    simp only[AV.under0,uk] at h;exact⟨AV.under0_spec h.1,AV.under0_spec h.2⟩
  | .ifc _ a,h=>AV.under0_spec (x:=a) h
inductive HE:Type 1
  | none_
  | box (ty:TypeId) {α:Type} (T:GoT α) (x:α)
  | row (e:TypeId) {α:Type} (T:GoT α) (l:List α)
  | parts (ty:TypeId) (xs:List AV)
  | objAt (b:Nat) (o:Obj)
def AV.relL (ρ:Nat->Value) (B U N:Nat->Prop) (w:World):List AV->List Value->Prop
  | [],vs=>vs=[]
  | x::xs,vs=>∃v us,vs=v::us/\x.rel ρ B U N w v/\v.cells.size=x.cells/\(∀u∈v.cells.toList,u.oneCell'=true)/\AV.relL ρ B U N w xs us
def HE.live:HE->Prop
  | .none_=>False
  | _=>True
def HE.rel (ρ:Nat->Value) (B U N:Nat->Prop) (w:World):HE->Value->Prop
  | .none_,_=>True
  | .box ty T x,p=>∃g cs,p = .pointer (some ⟨g,0,none⟩)/\w.heap[g]?=some (.cells cs.toArray ty (0,0))/\T.rel U N w x cs
  | .row e T l,p=>∃xs,w.ownsRow 0 e T.size p l.length xs/\zai T U N w l xs
  | .parts ty xs,p=>∃g vs,p = .pointer (some ⟨g,0,none⟩)/\w.heap[g]?=some (.cells (vs.flatMap (fun v=>v.cells.toList)).toArray ty (0,0))/\AV.relL ρ B U N w xs vs
  | .objAt b o,p=>p = .pointer (some ⟨b,0,none⟩)/\w.heap[b]?=some o
def HE.under (nx:Nat):HE->Prop
  | .parts _ xs=>∀x∈xs,x.under nx
  | _=>True
abbrev Fr:=Nat->AV
abbrev Hp:=Nat->HE
def Fr.set (f:Fr) (d:Nat) (v:AV):Fr:=fun t=>bif Nat.beq t d then v else f t
def Hp.set (f:Hp) (d:Nat) (v:HE):Hp:=fun t=>bif Nat.beq t d then v else f t
def Fr.none:Fr:=fun _=>.idk
def Hp.none:Hp:=fun _=>.none_
theorem zej {γ:Type 1} (t d:Nat) (x y:γ):(bif Nat.beq t d then x else y)=if t=d then x else y:=by
  by_cases h:t=d
  . simp[h]
  have : Nat.beq t d = false := by
    cases e:Nat.beq t d
    . rfl
    exact absurd (Nat.eq_of_beq_eq_true e) h
  simp[this,h]
structure BelowX (gr:Nat->Prop) (w w':World):Prop where
  os:w'.os=w.os
  tape:w'.tape=w.tape
  output:w'.output=w.output
  size:w.heap.size<=w'.heap.size
  block:∀b,b<w.heap.size->¬gr b->w'.heap[b]?=w.heap[b]?
  drawn:w.drawn<=w'.drawn
theorem BelowX.refl (gr:Nat->Prop) (w:World):BelowX gr w w:=⟨rfl,rfl,rfl,ug _,fun _ _ _=>rfl,ug _⟩
theorem BelowX.later {gr:Nat->Prop} {a b c:World} (h:BelowX gr a b) (k:Below b.heap.size b c):BelowX gr a c :=
  ⟨k.os.trans h.os,k.tape.trans h.tape,k.output.trans h.output,Nat.le_trans h.size k.size,fun i hi hg=>(k.block i (lt_of_lt_of_le hi h.size)).trans (h.block i hi hg),Nat.le_trans h.drawn k.drawn⟩
theorem BelowX.none {w w':World} (h:BelowX (fun _=>False) w w'):Below w.heap.size w w':=⟨⟨h.os,h.tape,h.output,h.size,fun b hb=>h.block b hb (fun h=>h)⟩,h.drawn⟩
structure Job where
  P:Program
  fn:Func
  w0:World
  ext:Nat->Prop
  gr:Nat->Prop
  kg:Nat
  ρg:Nat->Value
  nt:Nat
  R:Ending->World->Prop
  rd:Option Nat
  ds:List Deferred
  bg:List (Fr×Act)
  bn:Nat
  bgb:∀p∈bg,∀t,(p.1 t).under bn
  post:Exit->Act->World->Prop
  nrm:rd=none->∀a w,post .ret a w->post .normal a w
  fin:rd=none->∀a w v,a.defers=[]->(results fn a.tmps).run P w = .ok v w->BelowX gr w0 w->R (.returned v) w->post .ret a w
  mark:rd=none->∀a w w' D,a.defers=[{ target:=.collected D,args:=#[] }]->(Instr.takeDeferred D).run P w = .ok [] w'->post .ret { a with defers:=[] } w'->post .ret a w
  lt:∀b,ext b->b<w0.heap.size
  dj:∀b,ext b->gr b->False
def Job.F (J:Job):Fence:={ Fence.wide with round:=J.rd }
def Job.B (J:Job) (b:Nat):Prop:=J.w0.heap.size<=b\/J.gr b
def Nn (ρ:Nat->Value) (hp:Hp) (b:Nat):Prop:=∃n,(hp n).live/\zaH (ρ n)=some b
def Uu (J:Job) (ρ:Nat->Value) (hp:Hp) (b:Nat):Prop:=J.ext b\/Nn ρ hp b
structure SimH (J:Job) (nx:Nat) (ρ:Nat->Value) (hp:Hp) (w:World):Prop where
  kle:J.kg<=nx
  ble:J.bn<=nx
  named:∀n,n<J.kg->ρ n=J.ρg n
  below:BelowX J.gr J.w0 w
  hrel:∀n,(hp n).rel ρ J.B (Uu J ρ hp) (Nn ρ hp) w (ρ n)
  hun:∀n,(hp n).under nx
  hnx:∀n,nx<=n->hp n = .none_
  new:∀n b,(hp n).live->zaH (ρ n)=some b->(J.w0.heap.size<=b\/J.gr b)/\b<w.heap.size
  inj:∀n m b,(hp n).live->(hp m).live->zaH (ρ n)=some b->zaH (ρ m)=some b->n=m
structure SimR (J:Job) (nx:Nat) (ρ:Nat->Value) (fr:Fr) (hp:Hp) (a:Act) (w:World):Prop extends SimH J nx ρ hp w where
  size:a.tmps.size=J.nt
  defers:a.defers=J.ds
  frel:∀t,(fr t).rel ρ J.B (Uu J ρ hp) (Nn ρ hp) w (a.tmps.getD t undef)
  fnx:∀t,(fr t).under nx
  brel:∀p∈J.bg,∀t,(p.1 t).rel ρ J.B (Uu J ρ hp) (Nn ρ hp) w (p.2.tmps.getD t undef)
def Sim (J:Job) (nx:Nat) (fr:Fr) (hp:Hp) (a:Act) (w:World):Prop:=∃ρ,SimR J nx ρ fr hp a w
section
variable {J:Job} {nx:Nat} {ρ:Nat->Value} {fr:Fr} {hp:Hp} {a:Act} {w w':World}
theorem at_lt {α:Type} {T:GoT α} {U N ad x} (h:T.at_ U N w ad x):ad.block<w.heap.size:=by
  obtain⟨cs,hr,hc⟩:=h;have hp:0<cs.length:=by rw[T.len hr];exact T.pos
  have:=zuS (hc 0 _ (ub hp))
  rwa [zbM] at this
theorem zo1.mono {U N U' N':Nat->Prop} {v:Value} {C:World->(Nat->Prop)->FuncId->Array Value->Prop} (k:Keeps U N w U' N' w') (h:zo1 U N w v C):zo1 U' N' w' v C:=by
  obtain⟨w1,U1,g,caps,e,hs,hb,hc⟩:=h
  exact⟨w1,U1,g,caps,e,Nat.le_trans hs k.size,fun b hlt=>⟨fun hn=>(hb b hlt).1 (k.nn b (lt_of_lt_of_le hlt hs) hn),(k.blk b (lt_of_lt_of_le hlt hs) (hb b hlt).1).trans (hb b hlt).2.1,
    fun hu=>(hb b hlt).2.2 (k.up b (lt_of_lt_of_le hlt hs) hu)⟩,hc⟩
theorem AV.rel_mono {B:Nat->Prop} {U N U' N':Nat->Prop} (k:Keeps U N w U' N' w') :
    ∀{x:AV} {v:Value},x.under nx->x.rel ρ B U N w v->x.rel ρ B U' N' w' v
  | .idk,_,_,h=>trivial
  | .lit _,_,_,h=>h
  | .val T x,_,_,h=>T.val_mono k h
  | .ptr ..,_,_,h=>h
  | .eptr ..,_,_,h=>h
  | .rptr T x,_,_,⟨ad,e,hn,h⟩=>⟨ad,e,fun h'=>hn (k.nn _ (at_lt h) h'),T.at_mono k hn h⟩
  | .own _,_,_,h=>h
  | .fresh ..,_,hu,_=>hu.elim
  | .clo ..,_,_,h=>h
  | .bnd ..,_,_,h=>h
  | .vw ..,_,_,h=>h
  | .osub ..,_,_,h=>h
  | .fn1 ..,_,_,h=>zo1.mono k h
  | .fn2 ..,_,_,h=>zo1.mono k h
  | .tup2 a b,_,hu,⟨x,y,e,h1,h2⟩=>⟨x,y,e,AV.rel_mono k hu.1 h1,AV.rel_mono k hu.2 h2⟩
  | .cat a b,_,hu,⟨x,y,e,h1,h2,h3⟩=>⟨x,y,e,AV.rel_mono k hu.1 h1,AV.rel_mono k hu.2 h2,h3⟩
  | .ifc _ a,_,hu,⟨x,e,h1⟩=>⟨x,e,AV.rel_mono k (x:=a) hu h1⟩
  | .tup3 a b c,_,hu,⟨x,y,z,e,h1,h2,h3⟩=>⟨x,y,z,e,AV.rel_mono k hu.1 h1,AV.rel_mono k hu.2.1 h2,AV.rel_mono k hu.2.2 h3⟩
theorem AV.under_mono {n m:Nat} (h:n<=m):∀{x:AV},x.under n->x.under m
  | .idk,_=>trivial
  | .lit _,_=>trivial
  | .val ..,_=>trivial
  | .ptr ..,h'=>lt_of_lt_of_le h' h
  | .eptr ..,h'=>lt_of_lt_of_le h' h
  | .rptr ..,_=>trivial
  | .own _,h'=>lt_of_lt_of_le h' h
  | .bnd ..,h'=>lt_of_lt_of_le h' h
  | .fresh ..,h'=>h'.elim
  | .vw ..,h'=>lt_of_lt_of_le h' h
  | .osub ..,h'=>lt_of_lt_of_le h' h
  | .fn1 ..,_=>trivial
  | .fn2 ..,_=>trivial
  | .clo ..,h'=>fun c hc=>lt_of_lt_of_le (h' c hc) h
  | .tup2 ..,h'=>⟨AV.under_mono h h'.1,AV.under_mono h h'.2⟩
  | .cat ..,h'=>⟨AV.under_mono h h'.1,AV.under_mono h h'.2⟩
  | .ifc _ a,h'=>AV.under_mono h (x:=a) h'
  | .tup3 ..,h'=>⟨AV.under_mono h h'.1,AV.under_mono h h'.2.1,AV.under_mono h h'.2.2⟩
theorem AV.rel_ren {B:Nat->Prop} {U N:Nat->Prop} {ρ':Nat->Value} (hρ:∀n,n<nx->ρ' n=ρ n) :
    ∀{x:AV} {v:Value},x.under nx->x.rel ρ B U N w v->x.rel ρ' B U N w v
  | .idk,_,_,h=>trivial
  | .lit _,_,_,h=>h
  | .val ..,_,_,h=>h
  | .ptr ..,_,hu,⟨g,e1,e2⟩=>⟨g,(hρ _ hu).trans e1,e2⟩
  | .bnd ..,_,hu,⟨g,e1,e2⟩=>⟨g,(hρ _ hu).trans e1,e2⟩
  | .eptr ..,_,hu,⟨g,l,c,e1,e2⟩=>⟨g,l,c,(hρ _ hu).trans e1,e2⟩
  | .rptr ..,_,_,h=>h
  | .own n,v,hu,h=>Eq.trans (b:=ρ n) h (hρ _ hu).symm
  | .fresh ..,_,hu,_=>hu.elim
  | .clo f caps,v,hu,h=>by
    have e:caps.map ρ'=caps.map ρ:=List.map_congr_left fun c hc=>hρ c (hu c hc)
    show v = .func (.func f) #[] (caps.map ρ').toArray;rw[e];exact h
  | .vw ..,_,hu,⟨g,c,e1,e2⟩=>⟨g,c,(hρ _ hu).trans e1,e2⟩
  | .osub ..,_,hu,⟨g,l,c,e1,e2⟩=>⟨g,l,c,(hρ _ hu).trans e1,e2⟩
  | .fn1 ..,_,_,h=>h
  | .fn2 ..,_,_,h=>h
  | .tup2 a b,_,hu,⟨x,y,e,h1,h2⟩=>⟨x,y,e,AV.rel_ren hρ hu.1 h1,AV.rel_ren hρ hu.2 h2⟩
  | .cat a b,_,hu,⟨x,y,e,h1,h2,h3⟩=>⟨x,y,e,AV.rel_ren hρ hu.1 h1,AV.rel_ren hρ hu.2 h2,h3⟩
  | .ifc _ a,_,hu,⟨x,e,h1⟩=>⟨x,e,AV.rel_ren hρ (x:=a) hu h1⟩
  | .tup3 a b c,_,hu,⟨x,y,z,e,h1,h2,h3⟩=>⟨x,y,z,e,AV.rel_ren hρ hu.1 h1,AV.rel_ren hρ hu.2.1 h2,AV.rel_ren hρ hu.2.2 h3⟩
theorem AV.rel_B {B B':Nat->Prop} {U N:Nat->Prop}:∀{x:AV} {v:Value},x.under nx->x.rel ρ B U N w v->x.rel ρ B' U N w v
  | .idk,_,_,h=>trivial
  | .lit _,_,_,h=>h
  | .val ..,_,_,h=>h
  | .ptr ..,_,_,h=>h
  | .eptr ..,_,_,h=>h
  | .rptr ..,_,_,h=>h
  | .own _,_,_,h=>h
  | .fresh ..,_,hu,_=>hu.elim
  | .clo ..,_,_,h=>h
  | .bnd ..,_,_,h=>h
  | .vw ..,_,_,h=>h
  | .osub ..,_,_,h=>h
  | .fn1 ..,_,_,h=>h
  | .fn2 ..,_,_,h=>h
  | .tup2 a b,_,hu,⟨x,y,e,h1,h2⟩=>⟨x,y,e,AV.rel_B hu.1 h1,AV.rel_B hu.2 h2⟩
  | .cat a b,_,hu,⟨x,y,e,h1,h2,h3⟩=>⟨x,y,e,AV.rel_B hu.1 h1,AV.rel_B hu.2 h2,h3⟩
  | .ifc _ a,_,hu,⟨x,e,h1⟩=>⟨x,e,AV.rel_B (x:=a) hu h1⟩
  | .tup3 a b c,_,hu,⟨x,y,z,e,h1,h2,h3⟩=>⟨x,y,z,e,AV.rel_B hu.1 h1,AV.rel_B hu.2.1 h2,AV.rel_B hu.2.2 h3⟩
theorem zmy {B e size n:Nat} {v:Value} {xs:List Value} (h:w.ownsRow B e size v n xs) (hb:∀g,zaH v=some g->w'.heap[g]?=w.heap[g]?):w'.ownsRow B e size v n xs:=by
  obtain⟨h1,h2⟩:=h;refine⟨h1,?_⟩;rcases h2 with h2|⟨g,cap,cur,hv,hg,hh,r⟩
  . exact .inl h2
  exact .inr ⟨g,cap,cur,hv,hg,by rw[hb g (by rw[hv];rfl)];exact hh,r⟩
theorem AV.relL_mono {B U N U' N':Nat->Prop} (k:Keeps U N w U' N' w'):∀{xs:List AV} {vs:List Value},(∀x∈xs,x.under nx)->AV.relL ρ B U N w xs vs->AV.relL ρ B U' N' w' xs vs
  | [],_,_,h=>h
  | x::xs,_,hu,⟨v,us,e,h1,h2,h3,h4⟩=>⟨v,us,e,AV.rel_mono k (hu x yw) h1,h2,h3,AV.relL_mono k (fun y hy=>hu y ybt) h4⟩
theorem AV.relL_ren {B U N:Nat->Prop} {ρ':Nat->Value} (hρ:∀n,n<nx->ρ' n=ρ n):∀{xs:List AV} {vs:List Value},(∀x∈xs,x.under nx)->AV.relL ρ B U N w xs vs->AV.relL ρ' B U N w xs vs
  | [],_,_,h=>h
  | x::xs,_,hu,⟨v,us,e,h1,h2,h3,h4⟩=>⟨v,us,e,AV.rel_ren hρ (hu x yw) h1,h2,h3,AV.relL_ren hρ (fun y hy=>hu y ybt) h4⟩
theorem AV.relL_B {B B' U N:Nat->Prop}:∀{xs:List AV} {vs:List Value},(∀x∈xs,x.under nx)->AV.relL ρ B U N w xs vs->AV.relL ρ B' U N w xs vs
  | [],_,_,h=>h
  | x::xs,_,hu,⟨v,us,e,h1,h2,h3,h4⟩=>⟨v,us,e,AV.rel_B (hu x yw) h1,h2,h3,AV.relL_B (fun y hy=>hu y ybt) h4⟩
theorem HE.under_mono {n m:Nat} (h:n<=m):∀{x:HE},x.under n->x.under m
  | .none_,_=>trivial
  | .box ..,_=>trivial
  | .row ..,_=>trivial
  | .objAt ..,_=>trivial
  | .parts ..,h'=>fun x hx=>AV.under_mono h (h' x hx)
theorem HE.rel_ren {B U N:Nat->Prop} {ρ':Nat->Value} {p:Value} (hρ:∀n,n<nx->ρ' n=ρ n):∀{x:HE},x.under nx->x.rel ρ B U N w p->x.rel ρ' B U N w p
  | .none_,_,h=>h
  | .box ..,_,h=>h
  | .row ..,_,h=>h
  | .objAt ..,_,h=>h
  | .parts ..,hu,⟨g,vs,e,hg,hr⟩=>⟨g,vs,e,hg,AV.relL_ren hρ hu hr⟩
theorem HE.rel_B {B B' U N:Nat->Prop} {p:Value}:∀{x:HE},x.under nx->x.rel ρ B U N w p->x.rel ρ B' U N w p
  | .none_,_,h=>h
  | .box ..,_,h=>h
  | .row ..,_,h=>h
  | .objAt ..,_,h=>h
  | .parts ..,hu,⟨g,vs,e,hg,hr⟩=>⟨g,vs,e,hg,AV.relL_B hu hr⟩
theorem HE.rel_mono {B U N U' N':Nat->Prop} (k:Keeps U N w U' N' w') {p:Value} :
    ∀{x:HE},x.under nx->(x.live->∀g,zaH p=some g->w'.heap[g]?=w.heap[g]?)->x.rel ρ B U N w p->x.rel ρ B U' N' w' p
  | .none_,_,_,_=>trivial
  | .objAt b o,_,hb,⟨e,hg⟩=>⟨e,by rw[hb trivial b (by rw[e];rfl)];exact hg⟩
  | .parts ty xs,hu,hb,⟨g,vs,e,hg,hr⟩=>⟨g,vs,e,by rw[hb trivial g (by rw[e];rfl)];exact hg,AV.relL_mono k hu hr⟩
  | .box ty T x,_,hb,⟨g,cs,e,hg,hr⟩=>⟨g,cs,e,by rw[hb trivial g (by rw[e];rfl)];exact hg,T.mono k hr⟩
  | .row e T l,_,hb,⟨xs,ho,hr⟩=>⟨xs,zmy ho (hb trivial),hr.mono k⟩
theorem SimH.sub (h:SimH J nx ρ hp w):∀b,Nn ρ hp b->Uu J ρ hp b:=fun _ hb=>.inr hb
theorem SimH.ext_lt (h:SimH J nx ρ hp w) {b:Nat} (hb:J.ext b):b<w.heap.size:=lt_of_lt_of_le (J.lt b hb) h.below.size
theorem SimH.uu_lt (h:SimH J nx ρ hp w) {b:Nat} (hb:Uu J ρ hp b):b<w.heap.size:=by
  rcases hb with hb|⟨n,hl,e⟩
  . exact h.ext_lt hb
  exact(h.new n b hl e).2
theorem SimH.later (h:SimH J nx ρ hp w) (hb:Below w.heap.size w w'):SimH J nx ρ hp w' where
  kle:=h.kle
  ble:=h.ble
  named:=h.named
  below:=h.below.later hb
  hun:=h.hun
  hrel n:=HE.rel_mono ⟨h.sub,hb.size,fun b hlt _=>hb.block b hlt,fun _ _ x=>x,fun _ _ x=>x⟩ (h.hun n) (fun hl g hg=>hb.block g (h.new n g hl hg).2) (h.hrel n)
  hnx:=h.hnx
  new n b hl e:=⟨(h.new n b hl e).1,lt_of_lt_of_le (h.new n b hl e).2 hb.size⟩
  inj:=h.inj
theorem SimH.keeps (h:SimH J nx ρ hp w) (hb:Below w.heap.size w w'):Keeps (Uu J ρ hp) (Nn ρ hp) w (Uu J ρ hp) (Nn ρ hp) w' :=
  ⟨h.sub,hb.size,fun b hlt _=>hb.block b hlt,fun _ _ x=>x,fun _ _ x=>x⟩
theorem SimR.later (h:SimR J nx ρ fr hp a w) (hb:Below w.heap.size w w'):SimR J nx ρ fr hp a w' :=
  { h.toSimH.later hb with
    size:=h.size
    defers:=h.defers
    frel:=fun t=>AV.rel_mono (h.keeps hb) (h.fnx t) (h.frel t)
    fnx:=h.fnx
    brel:=fun p hp t=>AV.rel_mono (h.keeps hb) (J.bgb p hp t) (h.brel p hp t) }
theorem getD_put (a:Act) (d t:Nat) (v:Value) (hd:d<a.tmps.size):(a.put (some d) v).tmps.getD t undef=if t=d then v else a.tmps.getD t undef:=by
  show(a.tmps.setIfInBounds d v).getD t undef=_;by_cases h:t=d
  . subst h;simp[Array.getD,hd]
  rw[ur h]
  have:d≠t:=fun e=>h e.symm
  simp[Array.getD_eq_getD_getElem?,Array.getElem?_setIfInBounds,this]
theorem SimR.put (h:SimR J nx ρ fr hp a w) {d:Nat} {v:Value} {x:AV} (hd:d<J.nt) (hx:x.rel ρ J.B (Uu J ρ hp) (Nn ρ hp) w v) (hu:x.under nx) :
    SimR J nx ρ (fr.set d x) hp (a.put (some d) v) w :=
  { h.toSimH with
    size:=by show(a.tmps.setIfInBounds d v).size=_;simpa using h.size
    defers:=h.defers
    frel:=fun t=>by
      rw[getD_put a d t v (by rw[h.size];exact hd)];simp only[Fr.set,zej];by_cases e:t=d
      . rw[ut e,ut e];exact hx
      rw[ur e,ur e];exact h.frel t
    fnx:=fun t=>by
      simp only[Fr.set,zej];by_cases e:t=d
      . rw[ut e];exact hu
      rw[ur e];exact h.fnx t
    brel:=h.brel }
def Fr.le (f g:Fr):Prop:=∀t,f t = .idk\/f t=g t
def Hp.le (f g:Hp):Prop:=∀n,f n = .none_\/f n=g n
theorem Fr.le_none (g:Fr):Fr.le Fr.none g:=fun _=>.inl rfl
theorem Fr.le_refl (g:Fr):Fr.le g g:=fun _=>.inr rfl
theorem Fr.le_set {f g:Fr} {d:Nat} {v:AV} (h:Fr.le f g) (hv:g d=v):Fr.le (f.set d v) g:=fun t=>by
  simp only[Fr.set,zej];by_cases e:t=d
  . rw[ut e,e];exact .inr hv.symm
  rw[ur e];exact h t
theorem Hp.le_none (g:Hp):Hp.le Hp.none g:=fun _=>.inl rfl
theorem Hp.le_refl (g:Hp):Hp.le g g:=fun _=>.inr rfl
theorem Hp.le_set {f g:Hp} {d:Nat} {v:HE} (h:Hp.le f g) (hv:g d=v):Hp.le (f.set d v) g:=fun t=>by
  simp only[Hp.set,zej];by_cases e:t=d
  . rw[ut e,e];exact .inr hv.symm
  rw[ur e];exact h t
def AV.underB (nx:Nat):AV->Bool
  | .ptr n _ | .eptr n _ _ _ | .own n | .vw n _ _ | .osub n _ _ _ | .bnd _ n=>Nat.blt n nx
  | .clo _ caps=>caps.all fun c=>Nat.blt c nx
  | .fresh ..=>false
  | .tup2 a b=>a.underB nx&&b.underB nx
  | .cat a b=>a.underB nx&&b.underB nx
  | .ifc _ a=>a.underB nx
  | .tup3 a b c=>a.underB nx&&(b.underB nx&&c.underB nx)
  | _=>true
theorem AV.underB_spec {nx:Nat}:∀{x:AV},x.underB nx=true->x.under nx
  | .idk,_=>trivial
  | .lit _,_=>trivial
  | .val ..,_=>trivial
  | .rptr ..,_=>trivial
  | .fn1 ..,_=>trivial
  | .fn2 ..,_=>trivial
  | .ptr n _,h=>show n<nx by simpa [AV.underB] using h
  | .eptr n _ _ _,h=>show n<nx by simpa [AV.underB] using h
  | .own n,h=>show n<nx by simpa [AV.underB] using h
  | .bnd _ n,h=>show n<nx by simpa [AV.underB] using h
  | .vw n _ _,h=>show n<nx by simpa [AV.underB] using h
  | .osub n _ _ _,h=>show n<nx by simpa [AV.underB] using h
  | .clo _ caps,h=>fun c hc=>by
    have:=all_eq_true.1 h c hc
    simpa using this
  | .fresh ..,h=>by cases h
  | .tup2 a b,h=>by
    simp only[AV.underB,uk] at h;exact⟨AV.underB_spec h.1,AV.underB_spec h.2⟩
  | .cat a b,h=>by
    simp only[AV.underB,uk] at h;exact⟨AV.underB_spec h.1,AV.underB_spec h.2⟩
  | .ifc _ a,h=>AV.underB_spec (x:=a) h
  | .tup3 a b c,h=>by
    simp only[AV.underB,uk] at h;exact⟨AV.underB_spec h.1,AV.underB_spec h.2.1,AV.underB_spec h.2.2⟩
def HE.underB (nx:Nat):HE->Bool
  | .parts _ xs=>xs.all (AV.underB nx)
  | _=>true
theorem HE.underB_spec {nx:Nat}:∀{x:HE},x.underB nx=true->x.under nx
  | .none_,_=>trivial
  | .box ..,_=>trivial
  | .row ..,_=>trivial
  | .objAt ..,_=>trivial
  | .parts _ xs,h=>fun x hx=>AV.underB_spec (all_eq_true.1 h x hx)
def Fr.below_ (nx:Nat) (f:Fr):Prop:=∀t,(f t).under nx
theorem Fr.below_none (nx:Nat):Fr.below_ nx Fr.none:=fun _=>trivial
theorem Fr.below_set {nx:Nat} {f:Fr} {d:Nat} {v:AV} (h:Fr.below_ nx f) (hv:v.under nx):Fr.below_ nx (f.set d v):=fun t=>by
  simp only[Fr.set,zej];by_cases e:t=d
  . rw[ut e];exact hv
  rw[ur e];exact h t
def Hp.below_ (nx:Nat) (f:Hp):Prop:=∀n,(nx<=n->f n = .none_)/\(f n).under nx
theorem Hp.below_none (nx:Nat):Hp.below_ nx Hp.none:=fun _=>⟨fun _=>rfl,trivial⟩
theorem Fr.below_setB {nx:Nat} {f:Fr} {d:Nat} {v:AV} (h:Fr.below_ nx f) (hv:v.underB nx=true):Fr.below_ nx (f.set d v):=Fr.below_set h (AV.underB_spec hv)
theorem Hp.below_set {nx:Nat} {f:Hp} {d:Nat} {v:HE} (h:Hp.below_ nx f) (hv:d<nx) (hu:v.underB nx=true:=by rfl):Hp.below_ nx (f.set d v):=fun t=>by
  simp only[Hp.set,zej];by_cases e:t=d
  . rw[ut e];exact⟨fun ht=>absurd ht ya,HE.underB_spec hu⟩
  rw[ur e];exact h t
theorem SimR.weaken {fr':Fr} {hp':Hp} {nx':Nat} (h:SimR J nx ρ fr hp a w) (hk:Nat.ble (max J.kg J.bn) nx'=true) (hf:Fr.le fr' fr) (hh:Hp.le hp' hp) (bf:Fr.below_ nx' fr') (bh:Hp.below_ nx' hp'):SimR J nx' ρ fr' hp' a w:=by
  have hl:∀n,(hp' n).live->hp' n=hp n:=fun n hl=>by
    rcases hh n with e|e
    . rw[e] at hl;exact hl.elim
    exact e
  have hN:∀b,Nn ρ hp' b->Nn ρ hp b:=fun b ⟨n,h1,h2⟩=>⟨n,by rw[<-hl n h1];exact h1,h2⟩
  have hkb:max J.kg J.bn<=nx':=Nat.le_of_ble_eq_true hk;have hkg:J.kg<=nx':=ya;have hk:Keeps (Uu J ρ hp) (Nn ρ hp) w (Uu J ρ hp') (Nn ρ hp') w:=⟨h.sub,ug _,fun _ _ _=>rfl,fun b _ hb=>hb.imp id (hN b),fun b _ hb=>hN b hb⟩;exact
  { kle:=hkg
    ble:=ya
    named:=h.named
    below:=h.below
    hrel:=fun n=>by
      rcases hh n with e|e
      . rw[e];trivial
      rw[e];exact HE.rel_mono hk (h.hun n) (fun _ _ _=>rfl) (h.hrel n)
    hun:=fun n=>(bh n).2
    hnx:=fun n=>(bh n).1
    new:=fun n b h1 h2=>h.new n b (by rw[<-hl n h1];exact h1) h2
    inj:=fun n m b h1 h2=>h.inj n m b (by rw[<-hl n h1];exact h1) (by rw[<-hl m h2];exact h2)
    size:=h.size
    defers:=h.defers
    frel:=fun t=>by
      rcases hf t with e|e
      . rw[e];trivial
      rw[e];exact AV.rel_mono hk (h.fnx t) (h.frel t)
    fnx:=bf
    brel:=fun p hp t=>AV.rel_mono hk (J.bgb p hp t) (h.brel p hp t) }
end
theorem SimH.hbelow {J:Job} {nx:Nat} {ρ:Nat->Value} {hp:Hp} {w:World} (s:SimH J nx ρ hp w):Hp.below_ nx hp:=fun n=>⟨s.hnx n,s.hun n⟩
inductive It
  | code (c:Code)
  | ops (ops:Array Oper) (l:List Oper)
  | inBlock (id:Nat)
  | again (T:Act->World->Prop)
  | inScope (l:Nat) (T:Act->World->Prop)
def Kont (J:Job):List It->Exit->Act->World->Prop
  | []=>J.post
  | .code c::k=>Exit.then (fun a w=>c.wpIn J.F 0 J.P (Kont J k) a w) (Kont J k)
  | .ops ops l::k=>Exit.then (fun a w=>wpListIn J.F 0 J.P ops (Kont J k) l a w) (Kont J k)
  | .inBlock id::k=>Exit.inBlock id (Kont J k)
  | .again T::k=>Exit.then T (Kont J k)
  | .inScope l T::k=>Exit.jump l T (Kont J k)
theorem callsIn_J {J:Job} {n:Nat} {P:Program} {f:FuncId} {args:Array Value} {w:World} {R:Ending->World->Prop} (h:Calls P f args w R):CallsIn J.F n P f args w R:=callsIn_wide (n:=n).2 h
theorem opIn {J:Job} {o:Oper} {a:Act} {w:World} {K:Act->World->Prop} {Q:Exit->Act->World->Prop} (nd:∀c,o.op≠.defer c) (h:o.wp J.P a w K Q):o.wpIn J.F 0 J.P a w K Q:=by
  refine⟨fun _ _=>trivial,?_⟩;have e:Oper.semAt J.F.round a.eval o=execOp a.eval o:=by
    cases hr:J.F.round with
    | none=>rfl
    | some l=>exact Oper.semAt_some l a.eval o nd
  rw[e];unfold Oper.wp at h;generalize (execOp a.eval o).run J.P w=r at h ⊢;cases r with
  | ok n w' =>
    cases n with
    | enter f args=>exact⟨fun h=>(by cases h),callsIn_J h⟩
    | round l f tmps as b=>exact h.elim
    | row r args=>exact⟨fun h=>(by cases h),fun c cs _=>let ⟨v,w',x,y⟩:=h c cs;⟨v,w',x,stepsIn_wide.2 y⟩⟩
    | _=>exact h
  | halt x w'=>cases x<;>exact h
theorem zU {J:Job} {ops:Array Oper} {Q:Exit->Act->World->Prop} {rest:List Oper} {o:Oper} {a:Act} {w:World} (hg:o.guard=none) (nd:∀c,o.op≠.defer c)
    (h:∀K:Act->World->Prop,(∀a w,wpListIn J.F 0 J.P ops Q rest a w->K a w)->o.wp J.P a w K Q):wpListIn J.F 0 J.P ops Q (o::rest) a w :=
  wpListIn_plain hg fun K hK=>opIn nd (h K hK)
def AW (J:Job) (nx:Nat) (fr:Fr) (hp:Hp) (k:List It):Prop:=∀a w,Sim J nx fr hp a w->Kont J k .normal a w
def AR (J:Job) (nx:Nat) (fr:Fr) (hp:Hp):Prop:=∀a w,Sim J nx fr hp a w->J.post .ret a w
section
variable {J:Job} {nx:Nat} {fr:Fr} {hp:Hp} {k:List It}
theorem Kont.ret (J:Job):∀(k:List It) {a:Act} {w:World},J.post .ret a w->Kont J k .ret a w
  | [],_,_,h=>h
  | .code _::k,_,_,h=>Kont.ret J k h
  | .ops ..::k,_,_,h=>Kont.ret J k h
  | .inBlock _::k,_,_,h=>Kont.ret J k h
  | .again _::k,_,_,h=>Kont.ret J k h
  | .inScope ..::k,_,_,h=>Kont.ret J k h
def zo9 (id:Nat):List It->Option (List It)
  | []=>none
  | .inBlock i::k=>bif Nat.beq i id then some k else zo9 id k
  | _::k=>zo9 id k
theorem Kont.exit (J:Job) {id:Nat}:∀{k k':List It} {a:Act} {w:World},zo9 id k=some k'->Kont J k' .normal a w->Kont J k (.exit id) a w
  | [],_,_,_,h,_=>by simp[zo9] at h
  | .code _::k,_,_,_,h,h'=>Kont.exit J (k:=k) h h'
  | .ops ..::k,_,_,_,h,h'=>Kont.exit J (k:=k) h h'
  | .again _::k,_,_,_,h,h'=>Kont.exit J (k:=k) h h'
  | .inScope ..::k,_,_,_,h,h'=>Kont.exit J (k:=k) h h'
  | .inBlock i::k,k',a,w,h,h'=>by
    simp only[zo9] at h;show(if id=i then Kont J k .normal a w else Kont J k (.exit id) a w);by_cases e:id=i
    . rw[ut e]
      have:Nat.beq i id=true:=by rw[e];simp
      rw[this] at h;simp at h;rw[h];exact h'
    rw[ur e]
    have:Nat.beq i id=false:=by
      cases e':Nat.beq i id
      . rfl
      exact absurd (Nat.eq_of_beq_eq_true e').symm e
    rw[this] at h;exact Kont.exit J (k:=k) h h'
theorem zgr {x y:Code} (h:AW J nx fr hp (.code x :: .code y::k)):AW J nx fr hp (.code (x.seq y)::k):=fun a w s=>wpIn_seq (h a w s)
theorem zaA (h:AR J nx fr hp):AW J nx fr hp (.code .ret::k):=fun a w s=>wpIn_ret (Kont.ret J k (h a w s))
theorem zlT (h:AW J nx fr hp k):AW J nx fr hp (.code .skip::k):=fun a w s=>wpIn_skip (h a w s)
theorem zrN {id:Nat} {c:Code} (h:AW J nx fr hp (.code c :: .inBlock id::k)):AW J nx fr hp (.code (.block id c)::k):=fun a w s=>wpIn_block (h a w s)
theorem aw_label {l:Nat} (h:AW J nx fr hp k):AW J nx fr hp (.code (.label l)::k):=fun a w s=>wpIn_label (h a w s)
theorem zlU {id:Nat} (h:AW J nx fr hp k):AW J nx fr hp (.inBlock id::k):=fun a w s=>h a w s
theorem aw_exit {id:Nat} {k':List It} (e:zo9 id k=some k') (h:AW J nx fr hp k'):AW J nx fr hp (.code (.exit id)::k):=fun a w s=>wpIn_exit (Kont.exit J e (h a w s))
theorem zcW {id:Nat} {l:List Oper} (h:AW J nx fr hp (.ops l.toArray l::k)):AW J nx fr hp (.code (.region id l.toArray false)::k):=fun a w s=>wpIn_region_lit (h a w s)
theorem zD {ops:Array Oper} (h:AW J nx fr hp k):AW J nx fr hp (.ops ops []::k):=fun a w s=>h a w s
theorem zoQ {nx':Nat} {fr':Fr} {hp':Hp} (h:AW J nx' fr' hp' k) (hk:Nat.ble (max J.kg J.bn) nx'=true) (hf:Fr.le fr' fr) (hh:Hp.le hp' hp) (bf:Fr.below_ nx' fr') (bh:Hp.below_ nx' hp'):AW J nx fr hp k :=
  fun a w ⟨ρ,s⟩=>h a w ⟨ρ,s.weaken hk hf hh bf bh⟩
theorem least {p:Nat->Prop} (h:∃n,p n):∃n,p n/\∀m,p m->n<=m:=by
  obtain⟨n,hn⟩:=h
  induction n using Nat.strongRecOn with
  | _ n ih =>
    by_cases c:∃m,m<n/\p m
    . obtain⟨m,hm,hp⟩:=c;exact ih m hm hp
    exact⟨n,hn,fun m hm=>le_of_not_lt fun hlt=>c ⟨m,hlt,hm⟩⟩
theorem aw_loop {c:Code} (I:Nat->Act->World->Prop) {n0:Nat} (h0:∀a w,Sim J nx fr hp a w->I n0 a w)
    (round:∀n a w,I n a w->Kont J (.code c :: .again (fun a w=>∃m,m<n/\I m a w)::k) .normal a w):AW J nx fr hp (.code (.loop c)::k):=by
  intro a w s
  classical
  let μ:Act->World->Nat:=fun a w=>if h:∃n,I n a w then (least h).choose else 0
  have hμ:∀n a w,I n a w->μ a w<=n/\I (μ a w) a w:=fun n a w h=>by
    have hex:∃n,I n a w:=⟨n,h⟩;have e:μ a w=(least hex).choose:=dif_pos hex;rw[e];exact⟨(least hex).choose_spec.2 n h,(least hex).choose_spec.1⟩
  refine wpIn_loop (fun a w=>∃n,I n a w) μ ⟨n0,h0 a w s⟩ ?_;intro a w ⟨n,hn⟩;refine wpIn_mono (round _ a w (hμ n a w hn).2) ?_;intro e a' w' hq;cases e with
  | normal =>
    obtain⟨m,hm,hI⟩:=hq;exact⟨⟨m,hI⟩,Nat.lt_of_le_of_lt (hμ m a' w' hI).1 hm⟩
  | _=>exact hq
end
end Go.Ab
namespace Go.Ab
open Go.RowKit
def inR (k:IntKind) (n:Int):Bool:=decide (k.min<=n)&&decide (n<=k.max)
theorem inR_iff {k:IntKind} {n:Int}:inR k n=true↔IntKind.InR k n:=by simp[inR,IntKind.InR]
def cv:Value->AV
  | .bool b=>.val zo b
  | .int .i64 n=>bif inR .i64 n then .val i64T n else .lit (.int .i64 n)
  | .int .u8 n=>bif inR .u8 n then .val u8T (UInt8.ofNat n.toNat) else .lit (.int .u8 n)
  | .int .u32 n=>bif inR .u32 n then .val u32T (UInt32.ofNat n.toNat) else .lit (.int .u32 n)
  | .int .u64 n=>bif inR .u64 n then .val u64T (UInt64.ofNat n.toNat) else .lit (.int .u64 n)
  | v=>.lit v
def Fr.ev (f:Fr):Operand->AV
  | .tmp t=>f t
  | .const v=>cv v
  | .func g=>.clo g []
  | .global _=>.idk
theorem znn {α:Type} {f:α->Value} {ok:α->Prop} {h1:∀x,(f x).oneCell'=true} {U N w x v}:(scT f ok h1).val U N w x v↔v=f x/\ok x:=by
  constructor
  . rintro ⟨cs,⟨rfl,ho⟩,h|h⟩
    . exact absurd (show false=true from h.1) yl
    have:=h.2;simp at this;exact⟨this.symm,ho⟩
  rintro ⟨rfl,ho⟩;exact⟨_,⟨rfl,ho⟩,.inr ⟨rfl,rfl⟩⟩
theorem zO {k:IntKind} {U N w x v}:(intT k).val U N w x v↔v = .int k x/\IntKind.InR k x:=znn
theorem zbo {U N w x v}:zo.val U N w x v↔v = .bool x:=znn.trans ⟨fun h=>h.1,fun h=>⟨h,trivial⟩⟩
theorem zrX {U N w x v}:u8T.val U N w x v↔v = .int .u8 x.toNat:=znn.trans ⟨fun h=>h.1,fun h=>⟨h,trivial⟩⟩
theorem zaJ {U N w x v}:u32T.val U N w x v↔v = .int .u32 x.toNat:=znn.trans ⟨fun h=>h.1,fun h=>⟨h,trivial⟩⟩
theorem zas {U N w x v}:u64T.val U N w x v↔v = .int .u64 x.toNat:=znn.trans ⟨fun h=>h.1,fun h=>⟨h,trivial⟩⟩
theorem zdo {n:Int}:IntKind.InR .i64 n↔-9223372036854775808<=n/\n<=9223372036854775807:=by
  simp[IntKind.InR,IntKind.min,IntKind.max,IntKind.signed,IntKind.bits]
theorem cv_rel {ρ:Nat->Value} {B:Nat->Prop} {U N:Nat->Prop} {w:World} (v:Value):(cv v).rel ρ B U N w v:=by
  have hn:∀{n m:Int},0<=n->n<=m->((n.toNat:Nat):Int)=n:=fun h _=>by omega
  cases v with
  | bool b=>exact zbo.2 rfl
  | int k n =>
    cases k<;>simp only[cv]<;>first
      | rfl
      | (generalize hb:inR _ n=b
         cases b
         . rfl
         have hr:=inR_iff.1 hb;simp[IntKind.InR,IntKind.min,IntKind.max,IntKind.signed,IntKind.bits] at hr
         first
           | exact zO.2 ⟨rfl,by simpa [IntKind.InR,IntKind.min,IntKind.max,IntKind.signed,IntKind.bits] using hr⟩
           | (refine zrX.2 ?_;rw[UInt8.toNat_ofNat_of_lt' (by show n.toNat<256;omega),Int.toNat_of_nonneg hr.1])
           | (refine zaJ.2 ?_;rw[UInt32.toNat_ofNat_of_lt' (by show n.toNat<4294967296;omega),Int.toNat_of_nonneg hr.1])
           | (refine zas.2 ?_;rw[UInt64.toNat_ofNat_of_lt' (by show n.toNat<18446744073709551616;omega),Int.toNat_of_nonneg hr.1]))
  | _=>rfl
theorem zak {J:Job} {nx:Nat} {ρ:Nat->Value} {fr:Fr} {hp:Hp} {a:Act} {w:World} (s:SimR J nx ρ fr hp a w) (x:Operand) :
    (fr.ev x).rel ρ J.B (Uu J ρ hp) (Nn ρ hp) w (a.eval x):=by
  cases x with
  | tmp t=>exact s.frel t
  | const v=>exact cv_rel v
  | global g=>trivial
  | func f=>rfl
theorem cv_under (nx:Nat) (v:Value):(cv v).under nx:=by
  cases v with
  | int k n=>cases k<;>simp only[cv]<;>first|trivial|(generalize inR _ n=b;cases b<;>trivial)
  | _=>trivial
theorem zbH {fr:Fr} {nx:Nat} (h:∀t,(fr t).under nx) (x:Operand):(fr.ev x).under nx:=by
  cases x with
  | tmp t=>exact h t
  | const v=>exact cv_under nx v
  | global g=>trivial
  | func f=>intro c hc;simp at hc
structure OpG (J:Job) (o:Oper) (fr:Fr) (hp:Hp) (x:AV):Prop where
  run:∀{nx:Nat} {ρ:Nat->Value} {a:Act} {w:World},SimH J nx ρ hp w->
    (∀y∈o.op.operands,(fr.ev y).rel ρ J.B (Uu J ρ hp) (Nn ρ hp) w (a.eval y))->(∀y∈o.op.operands,(fr.ev y).under nx)->
    ∀{K:Act->World->Prop} {Q:Exit->Act->World->Prop},
    (∀v w',Below w.heap.size w w'->x.rel ρ J.B (Uu J ρ hp) (Nn ρ hp) w' v->K (a.put o.dst v) w')->o.wp J.P a w K Q
  und:∀{nx:Nat},Hp.below_ nx hp->(∀y∈o.op.operands,(fr.ev y).under nx)->x.under nx
  nd:∀c,o.op≠.defer c
theorem OpG.of_run {J:Job} {o:Oper} {fr:Fr} {hp:Hp} {x:AV}
    (h:∀{nx:Nat} {ρ:Nat->Value} {a:Act} {w:World},SimH J nx ρ hp w->(∀y∈o.op.operands,(fr.ev y).rel ρ J.B (Uu J ρ hp) (Nn ρ hp) w (a.eval y))->(∀y∈o.op.operands,(fr.ev y).under nx)->
      ∃v,(execOp a.eval o).run J.P w = .ok (.value v) w/\x.rel ρ J.B (Uu J ρ hp) (Nn ρ hp) w v)
    (hu:∀{nx:Nat},Hp.below_ nx hp->(∀y∈o.op.operands,(fr.ev y).under nx)->x.under nx) (nd:∀c,o.op≠.defer c:=by intro c hc;simp_all):OpG J o fr hp x where
  run s hr hn _ _ hK:=by
    obtain⟨v,he,hx⟩:=h s hr hn;unfold Oper.wp;rw[he];exact hK v _ (Below.refl _ _) hx
  und:=hu
  nd:=nd
section
variable {J:Job} {nx:Nat} {fr:Fr} {hp:Hp} {k:List It} {ops:Array Oper} {rest:List Oper} {o:Oper}
theorem aw_g {x:AV} {d:Nat} (h:OpG J o fr hp x) (hd:o.dst=some d) (hg:o.guard=none) (hlt:Nat.blt d J.nt=true) (H:AW J nx (fr.set d x) hp (.ops ops rest::k)) :
    AW J nx fr hp (.ops ops (o::rest)::k):=by
  intro a w ⟨ρ,s⟩;refine zU hg h.nd fun K hK=>?_;refine h.run s.toSimH (fun y _=>zak s y) (fun y _=>zbH s.fnx y) fun v w' hb hx=>hK _ _ ?_
  rw[hd];exact H _ _ ⟨ρ,(s.later hb).put yK hx (h.und s.hbelow (fun y _=>zbH s.fnx y))⟩
theorem znl {b want:Bool} {j t:Nat} {oj:Oper} {a:Act} {w:World} {ρ:Nat->Value} (s:SimR J nx ρ fr hp a w) (hg:o.guard=some (j,want)) (ho:ops[j]?=some oj) (hj:oj.dst=some t) (hv:fr t = .val zo b) (ht:Nat.blt t J.nt=true) :
    Region.wanted o (yielded ops a.tmps)=(b==want):=by
  have h:=s.frel t;rw[hv] at h;have hb:a.tmps.getD t undef = .bool b:=zbo.1 h;have hs:t<a.tmps.size:=by rw[s.size];simpa using ht
  have:a.tmps[t]?=some (.bool b):=by
    rw[Array.getD_eq_getD_getElem?,Array.getElem?_eq_getElem hs] at hb;rw[Array.getElem?_eq_getElem hs];simpa using hb
  simp only[Region.wanted,hg,yielded,ho,Option.bind_some,hj,this];cases b<;>cases want<;>rfl
theorem aw_gi {x:AV} {d:Nat} {b want:Bool} {j t:Nat} {oj:Oper} (h:OpG J o fr hp x) (hd:o.dst=some d) (hg:o.guard=some (j,want)) (ho:ops[j]?=some oj) (hj:oj.dst=some t) (hv:fr t = .val zo b)
    (ht:Nat.blt t J.nt=true) (hw:b=want) (hlt:Nat.blt d J.nt=true) (H:AW J nx (fr.set d x) hp (.ops ops rest::k)) :
    AW J nx fr hp (.ops ops (o::rest)::k):=by
  intro a w ⟨ρ,s⟩;refine wpListIn_step fun K hK=>?_
  rw[znl s hg ho hj hv ht,hw,beq_self_eq_true,ut rfl];refine opIn h.nd (h.run s.toSimH (fun y _=>zak s y) (fun y _=>zbH s.fnx y) fun v w' hb hx=>hK _ _ ?_);rw[hd];exact H _ _ ⟨ρ,(s.later hb).put yK hx (h.und s.hbelow (fun y _=>zbH s.fnx y))⟩
theorem aw_gn {d:Nat} {b want:Bool} {j t:Nat} {oj:Oper} (hd:o.dst=some d) (hg:o.guard=some (j,want)) (ho:ops[j]?=some oj) (hj:oj.dst=some t) (hv:fr t = .val zo b)
    (ht:Nat.blt t J.nt=true) (hw:(b==want)=false) (hlt:Nat.blt d J.nt=true) (H:AW J nx (fr.set d (.lit undef)) hp (.ops ops rest::k)) :
    AW J nx fr hp (.ops ops (o::rest)::k):=by
  intro a w ⟨ρ,s⟩;refine wpListIn_step fun K hK=>?_
  rw[znl s hg ho hj hv ht,hw,ur yw];refine⟨fun _ _=>trivial,hK _ _ ?_⟩;rw[hd];exact H _ _ ⟨ρ,s.put (x:=.lit undef) yK rfl trivial⟩
theorem zno {want:Bool} {j t:Nat} {oj:Oper} {a:Act} {w:World} {ρ:Nat->Value} (s:SimR J nx ρ fr hp a w) (hg:o.guard=some (j,want)) (ho:ops[j]?=some oj) (hj:oj.dst=some t) (hv:fr t = .lit undef) (ht:Nat.blt t J.nt=true) :
    Region.wanted o (yielded ops a.tmps)=false:=by
  have h:=s.frel t;rw[hv] at h;have hb:a.tmps.getD t undef=undef:=h;have hs:t<a.tmps.size:=by rw[s.size];simpa using ht
  have:a.tmps[t]?=some (.tuple #[]):=by
    rw[Array.getD_eq_getD_getElem?,Array.getElem?_eq_getElem hs] at hb;rw[Array.getElem?_eq_getElem hs];simpa [undef] using hb
  simp only[Region.wanted,hg,yielded,ho,Option.bind_some,hj,this];rfl
theorem aw_gu {d:Nat} {want:Bool} {j t:Nat} {oj:Oper} (hd:o.dst=some d) (hg:o.guard=some (j,want)) (ho:ops[j]?=some oj) (hj:oj.dst=some t) (hv:fr t = .lit undef)
    (ht:Nat.blt t J.nt=true) (hlt:Nat.blt d J.nt=true) (H:AW J nx (fr.set d (.lit undef)) hp (.ops ops rest::k)) :
    AW J nx fr hp (.ops ops (o::rest)::k):=by
  intro a w ⟨ρ,s⟩;refine wpListIn_step fun K hK=>?_
  rw[zno s hg ho hj hv ht,ur yw];refine⟨fun _ _=>trivial,hK _ _ ?_⟩;rw[hd];exact H _ _ ⟨ρ,s.put (x:=.lit undef) yK rfl trivial⟩
theorem aw_if {c:Operand} {x y:Code} {b:Bool} (hc:fr.ev c = .val zo b) (ht:b=true->AW J nx fr hp (.code x::k)) (hf:b=false->AW J nx fr hp (.code y::k)):AW J nx fr hp (.code (.cond c x y)::k):=by
  intro a w s;obtain⟨ρ,s'⟩:=s;have h:=zak s' c;rw[hc] at h;exact wpIn_cond_split (zbo.1 h) (fun e=>ht e a w ⟨ρ,s'⟩) (fun e=>hf e a w ⟨ρ,s'⟩)
theorem zf6 {c:Operand} {x y:Code} {b:Bool} (hc:fr.ev c = .val zo b) (hb:b=true) (ht:AW J nx fr hp (.code x::k)):AW J nx fr hp (.code (.cond c x y)::k) :=
  aw_if hc (fun _=>ht) (fun e=>by rw[hb] at e;cases e)
theorem zgH {c:Operand} {x y:Code} {b:Bool} (hc:fr.ev c = .val zo b) (hb:b=false) (hf:AW J nx fr hp (.code y::k)):AW J nx fr hp (.code (.cond c x y)::k) :=
  aw_if hc (fun e=>by rw[hb] at e;cases e) (fun _=>hf)
theorem ze {d:Nat} {x:AV} (hx:fr d=x) {F:Prop} (h:∀{ρ U N w v},x.rel ρ J.B U N w v->F) (H:F->AW J nx fr hp k):AW J nx fr hp k:=by
  intro a w ⟨ρ,s⟩;have h0:=s.frel d;rw[hx] at h0;exact H (h h0) a w ⟨ρ,s⟩
theorem zgn {y:Operand} {x:AV} (ho:o.op = .move y\/o.op = .assign y) (hx:fr.ev y=x):OpG J o fr hp x:=by
  have hm:y∈o.op.operands:=by rcases ho with ho|ho<;>rw[ho]<;>simp[Op.operands]
  refine .of_run (fun {_ _ a _} s hr _=>⟨a.eval y,?_,?_⟩) (fun _ hn=>by rw[<-hx];exact hn y hm)
  . rcases ho with ho|ho<;>(unfold execOp;rw[ho];rfl)
  rw[<-hx];exact hr y hm
theorem g_mv {y:Operand} {α:Type} {T:GoT α} {x:α} (ho:o.op = .move y\/o.op = .assign y) (hx:fr.ev y = .val T x):OpG J o fr hp (.val T x):=zgn ho hx
theorem g_mp {y:Operand} {n off:Nat} (ho:o.op = .move y\/o.op = .assign y) (hx:fr.ev y = .ptr n off):OpG J o fr hp (.ptr n off):=zgn ho hx
theorem g_mo {y:Operand} {n:Nat} (ho:o.op = .move y\/o.op = .assign y) (hx:fr.ev y = .own n):OpG J o fr hp (.own n):=zgn ho hx
theorem g_ml {y:Operand} {v:Value} (ho:o.op = .move y\/o.op = .assign y) (hx:fr.ev y = .lit v):OpG J o fr hp (.lit v):=zgn ho hx
theorem g_mc {y:Operand} {f:FuncId} {l:List Nat} (ho:o.op = .move y\/o.op = .assign y) (hx:fr.ev y = .clo f l):OpG J o fr hp (.clo f l):=zgn ho hx
theorem g_mi {y:Operand} (ho:o.op = .move y\/o.op = .assign y) (hx:fr.ev y = .idk):OpG J o fr hp .idk:=zgn ho hx
theorem g_mr {y:Operand} {α:Type} {T:GoT α} {x:α} (ho:o.op = .move y\/o.op = .assign y) (hx:fr.ev y = .rptr T x):OpG J o fr hp (.rptr T x):=zgn ho hx
theorem zmD {y:Operand} {P:Program} {α V:Type} {A:GoT α} {B:GoT V} {f:α->V} (ho:o.op = .move y\/o.op = .assign y) (hx:fr.ev y = .fn1 P A B f):OpG J o fr hp (.fn1 P A B f):=zgn ho hx
theorem zmC {y:Operand} {P:Program} {α V γ:Type} {A:GoT α} {A':GoT V} {B:GoT γ} {f:α->V->γ} (ho:o.op = .move y\/o.op = .assign y) (hx:fr.ev y = .fn2 P A A' B f):OpG J o fr hp (.fn2 P A A' B f):=zgn ho hx
theorem g_mw {y:Operand} {n off len:Nat} (ho:o.op = .move y\/o.op = .assign y) (hx:fr.ev y = .vw n off len):OpG J o fr hp (.vw n off len):=zgn ho hx
theorem g_ms {y:Operand} {n sz lo len:Nat} (ho:o.op = .move y\/o.op = .assign y) (hx:fr.ev y = .osub n sz lo len):OpG J o fr hp (.osub n sz lo len):=zgn ho hx
theorem zew {y:Operand} {a b:AV} (ho:o.op = .move y\/o.op = .assign y) (hx:fr.ev y = .tup2 a b):OpG J o fr hp (.tup2 a b):=zgn ho hx
theorem zev {y:Operand} {a b c:AV} (ho:o.op = .move y\/o.op = .assign y) (hx:fr.ev y = .tup3 a b c):OpG J o fr hp (.tup3 a b c):=zgn ho hx
theorem g_me {y:Operand} {n i sz off:Nat} (ho:o.op = .move y\/o.op = .assign y) (hx:fr.ev y = .eptr n i sz off):OpG J o fr hp (.eptr n i sz off):=zgn ho hx
theorem g_pick {c x y:Operand} {b:Bool} {z:AV} (ho:o.op = .pick c x y) (hc:fr.ev c = .val zo b) (hz:(bif b then fr.ev x else fr.ev y)=z):OpG J o fr hp z:=by
  refine .of_run (fun {_ _ a _} s hr _=>⟨if b then a.eval x else a.eval y,?_,?_⟩) (fun _ hn=>?_)
  . have h:=hr c ym
    rw[hc] at h;unfold execOp;rw[ho];simp only[zbo.1 h,asBool];cases b<;>rfl
  . rw[<-hz];cases b
    . exact hr y ym
    exact hr x ym
  rw[<-hz];cases b
  . exact hn y ym
  exact hn x ym
theorem zd2 {op:BinOp} {t t':TypeId} {x y:Operand} {X Y Z:AV} (ho:o.op = .binOp op t x y t') (hx:fr.ev x=X) (hy:fr.ev y=Y)
    (h:∀{ρ:Nat->Value} {U N:Nat->Prop} {w:World} {u v:Value},X.rel ρ J.B U N w u->Y.rel ρ J.B U N w v->∃z,(binOp op t u v).run J.P w = .ok z w/\(eqGuard op t x y u v).run J.P w = .ok () w/\Z.rel ρ J.B U N w z)
    (hu:∀nx,Z.under nx):OpG J o fr hp Z:=by
  refine .of_run (fun {_ _ a _} s hr _=>?_) (fun _ _=>hu _);obtain⟨z,h1,h2,h3⟩:=h (hx▸hr x ym) (hy▸hr y ym);refine⟨z,?_,h3⟩;unfold execOp;rw[ho];simp only[Sem.run_bind,h2,Result.andThen_ok,h1,Sem.run_pure]
theorem zM {op:BinOp} (t:TypeId) (x y:Operand) (k l:IntKind) (a b:Int) (P:Program) (w:World):(eqGuard op t x y (.int k a) (.int l b)).run P w = .ok () w:=by
  unfold eqGuard;cases op<;>simp[Sem.run_pure]
theorem zo6 {op:BinOp} (t:TypeId) (x y:Operand) (a b:Bool) (P:Program) (w:World):(eqGuard op t x y (.bool a) (.bool b)).run P w = .ok () w:=by
  unfold eqGuard;cases op<;>simp[Sem.run_pure]
theorem zln (n:Int):IntKind.InR .i64 (IntKind.i64.wrap n):=by
  rw[zdo];simp only[IntKind.wrap,IntKind.signed,IntKind.bits];simp
  split<;>omega
theorem z8 {n:Int} (h:-9223372036854775808<=n/\n<=9223372036854775807):IntKind.i64.wrap n=n:=by
  simp only[IntKind.wrap,IntKind.signed,IntKind.bits];simp
  split<;>omega
section
variable {t t':TypeId} {x y:Operand} {a b:Int}
theorem zuz (ho:o.op = .binOp .add t x y t') (hx:fr.ev x = .val i64T a) (hy:fr.ev y = .val i64T b) {c:Int} (hc:IntKind.i64.wrap (a+b)=c):OpG J o fr hp (.val i64T c):=by
  subst hc;exact zd2 (Z:=.val i64T _) ho hx hy (fun hu hv=>by
    obtain⟨rfl,_⟩:=zO.1 hu;obtain⟨rfl,_⟩:=zO.1 hv;exact⟨_,rfl,zM ..,zO.2 ⟨rfl,zln _⟩⟩) (fun _=>trivial)
theorem zgC (ho:o.op = .binOp .sub t x y t') (hx:fr.ev x = .val i64T a) (hy:fr.ev y = .val i64T b) {c:Int} (hc:IntKind.i64.wrap (a-b)=c):OpG J o fr hp (.val i64T c):=by
  subst hc;exact zd2 (Z:=.val i64T _) ho hx hy (fun hu hv=>by
    obtain⟨rfl,_⟩:=zO.1 hu;obtain⟨rfl,_⟩:=zO.1 hv;exact⟨_,rfl,zM ..,zO.2 ⟨rfl,zln _⟩⟩) (fun _=>trivial)
theorem zkT (ho:o.op = .binOp .mul t x y t') (hx:fr.ev x = .val i64T a) (hy:fr.ev y = .val i64T b) {c:Int} (hc:IntKind.i64.wrap (a*b)=c):OpG J o fr hp (.val i64T c):=by
  subst hc;exact zd2 (Z:=.val i64T _) ho hx hy (fun hu hv=>by
    obtain⟨rfl,_⟩:=zO.1 hu;obtain⟨rfl,_⟩:=zO.1 hv;exact⟨_,rfl,zM ..,zO.2 ⟨rfl,zln _⟩⟩) (fun _=>trivial)
end
class IntL {α:Type} (T:GoT α) where
  k:IntKind
  toI:α->Int
  val_:∀{U N w x v},T.val U N w x v->v = .int k (toI x)
instance (k:IntKind):IntL (intT k):=⟨k,id,fun h=>(zO.1 h).1⟩
instance:IntL u8T:=⟨.u8,fun x=>x.toNat,fun h=>zrX.1 h⟩
instance:IntL u32T:=⟨.u32,fun x=>x.toNat,fun h=>zaJ.1 h⟩
instance:IntL u64T:=⟨.u64,fun x=>x.toNat,fun h=>zas.1 h⟩
section
variable {t t':TypeId} {x y:Operand} {α:Type} {T:GoT α} [IntL T] {a b:α} {c:Bool}
theorem g_cmp {op:BinOp} {f:Int->Int->Bool} (hop:∀k a b,binOp op t (.int k a) (.int k b)=pure (.bool (f a b))) (ho:o.op = .binOp op t x y t') (hx:fr.ev x = .val T a) (hy:fr.ev y = .val T b) (hc:f (IntL.toI T a) (IntL.toI T b)=c) :
    OpG J o fr hp (.val zo c) :=
  zd2 ho hx hy (fun hu hv=>by
    rw[IntL.val_ hu,IntL.val_ hv,hop,hc];exact⟨_,rfl,zM ..,zbo.2 rfl⟩) (fun _=>trivial)
theorem g_lss (ho:o.op = .binOp .lss t x y t') (hx:fr.ev x = .val T a) (hy:fr.ev y = .val T b) (hc:decide (IntL.toI T a<IntL.toI T b)=c):OpG J o fr hp (.val zo c) :=
  g_cmp (f:=fun a b=>decide (a<b)) (fun k a b=>by simp[binOp,Op.intCmp]) ho hx hy hc
theorem g_leq (ho:o.op = .binOp .leq t x y t') (hx:fr.ev x = .val T a) (hy:fr.ev y = .val T b) (hc:decide (IntL.toI T a<=IntL.toI T b)=c):OpG J o fr hp (.val zo c) :=
  g_cmp (f:=fun a b=>decide (a<=b)) (fun k a b=>by simp[binOp,Op.intCmp]) ho hx hy hc
theorem g_gtr (ho:o.op = .binOp .gtr t x y t') (hx:fr.ev x = .val T a) (hy:fr.ev y = .val T b) (hc:decide (IntL.toI T b<IntL.toI T a)=c):OpG J o fr hp (.val zo c) :=
  g_cmp (f:=fun a b=>decide (b<a)) (fun k a b=>by simp[binOp,Op.intCmp]) ho hx hy hc
theorem g_geq (ho:o.op = .binOp .geq t x y t') (hx:fr.ev x = .val T a) (hy:fr.ev y = .val T b) (hc:decide (IntL.toI T b<=IntL.toI T a)=c):OpG J o fr hp (.val zo c) :=
  g_cmp (f:=fun a b=>decide (b<=a)) (fun k a b=>by simp[binOp,Op.intCmp]) ho hx hy hc
theorem g_eql (ho:o.op = .binOp .eql t x y t') (hx:fr.ev x = .val T a) (hy:fr.ev y = .val T b) (hc:decide (IntL.toI T a=IntL.toI T b)=c):OpG J o fr hp (.val zo c) :=
  g_cmp (f:=fun a b=>decide (a=b)) (fun k a b=>by simp only[binOp,Op.intCmp,ne_eq,not_true,if_false];congr 2) ho hx hy hc
theorem g_neq (ho:o.op = .binOp .neq t x y t') (hx:fr.ev x = .val T a) (hy:fr.ev y = .val T b) (hc:(!decide (IntL.toI T a=IntL.toI T b))=c):OpG J o fr hp (.val zo c) :=
  g_cmp (f:=fun a b=>!decide (a=b)) (fun k a b=>by simp only[binOp,Op.intCmp,ne_eq,not_true,if_false,bne];congr 3) ho hx hy hc
end
theorem g_not {x:Operand} {t:TypeId} {b:Bool} (ho:o.op = .unOp .not t x) (hx:fr.ev x = .val zo b):OpG J o fr hp (.val zo (!b)):=by
  refine .of_run (fun s hr _=>⟨.bool (!b),?_,zbo.2 rfl⟩) (fun _ _=>trivial);have h:=hr x ym;rw[hx] at h;unfold execOp;rw[ho];simp only[zbo.1 h,Op.unary];rfl
theorem zs7 {x:Operand} {i:Nat} {X Y Z:AV} (ho:o.op = .extract x i) (hx:fr.ev x = .tup2 X Y) (hz:(match i with|0=>X|_=>Y)=Z) (hi:Nat.blt i 2=true):OpG J o fr hp Z:=by
  refine .of_run (fun s hr _=>?_) (fun _ hn=>?_)
  . have h:=hr x ym
    rw[hx] at h;obtain⟨u,v,e,h1,h2⟩:=h;unfold execOp;rw[ho];simp only[e,Instr.extract]
    match i,hi with
    | 0,_=>exact⟨u,rfl,hz▸h1⟩
    | 1,_=>exact⟨v,rfl,hz▸h2⟩
  have h:=hn x ym;rw[hx] at h
  match i,hi with
  | 0,_=>exact hz▸h.1
  | 1,_=>exact hz▸h.2
theorem zlN {x:Operand} {i:Nat} {X Y W Z:AV} (ho:o.op = .extract x i) (hx:fr.ev x = .tup3 X Y W) (hz:(match i with|0=>X|1=>Y|_=>W)=Z) (hi:Nat.blt i 3=true):OpG J o fr hp Z:=by
  refine .of_run (fun s hr _=>?_) (fun _ hn=>?_)
  . have h:=hr x ym
    rw[hx] at h;obtain⟨u,v,z,e,h1,h2,h3⟩:=h;unfold execOp;rw[ho];simp only[e,Instr.extract]
    match i,hi with
    | 0,_=>exact⟨u,rfl,hz▸h1⟩
    | 1,_=>exact⟨v,rfl,hz▸h2⟩
    | 2,_=>exact⟨z,rfl,hz▸h3⟩
  have h:=hn x ym;rw[hx] at h
  match i,hi with
  | 0,_=>exact hz▸h.1
  | 1,_=>exact hz▸h.2.1
  | 2,_=>exact hz▸h.2.2
theorem zof {x:Operand} {X Y:AV} (ho:o.op = .extract x 0) (hx:fr.ev x = .tup2 X Y):OpG J o fr hp X:=zs7 ho hx rfl rfl
theorem zkS {x:Operand} {X Y:AV} (ho:o.op = .extract x 1) (hx:fr.ev x = .tup2 X Y):OpG J o fr hp Y:=zs7 ho hx rfl rfl
theorem zmB {x:Operand} {X Y Z:AV} (ho:o.op = .extract x 0) (hx:fr.ev x = .tup3 X Y Z):OpG J o fr hp X:=zlN ho hx rfl rfl
theorem zkR {x:Operand} {X Y Z:AV} (ho:o.op = .extract x 1) (hx:fr.ev x = .tup3 X Y Z):OpG J o fr hp Y:=zlN ho hx rfl rfl
theorem g_x32 {x:Operand} {X Y Z:AV} (ho:o.op = .extract x 2) (hx:fr.ev x = .tup3 X Y Z):OpG J o fr hp Z:=zlN ho hx rfl rfl
end
end Go.Ab
namespace Go.Ab
open Go.RowKit
def ren (ρ:Nat->Value) (n:Nat) (p:Value):Nat->Value:=fun m=>if m=n then p else ρ m
section
variable {J:Job} {nx:Nat} {ρ:Nat->Value} {fr:Fr} {hp:Hp} {a:Act} {w w':World}
theorem zn (hp:Hp) (n m:Nat) (x:HE):(hp.set n x) m=if m=n then x else hp m:=zej m n x (hp m)
theorem zan (f:Fr) (n m:Nat) (x:AV):(f.set n x) m=if m=n then x else f m:=zej m n x (f m)
theorem SimR.bind (h:SimR J nx ρ fr hp a w) {p:Value} {x:HE} (hb:Below w.heap.size w w') (hf:∀b,zaH p=some b->w.heap.size<=b/\b<w'.heap.size)
    (hx:Keeps (Uu J ρ hp) (Nn ρ hp) w (Uu J (ren ρ nx p) (hp.set nx x)) (Nn (ren ρ nx p) (hp.set nx x)) w'->x.rel (ren ρ nx p) J.B (Uu J (ren ρ nx p) (hp.set nx x)) (Nn (ren ρ nx p) (hp.set nx x)) w' p) (hu:x.under (nx+1):=by exact trivial) :
    SimR J (nx+1) (ren ρ nx p) fr (hp.set nx x) a w':=by
  have hold:∀m,(hp m).live->m≠nx:=fun m hl e=>by
    rw[h.hnx m ya] at hl;exact hl
  have hN:∀b,b<w.heap.size->Nn (ren ρ nx p) (hp.set nx x) b->Nn ρ hp b:=fun b hlt ⟨m,hl,e⟩=>by
    rw[zn] at hl;unfold ren at e;by_cases c:m=nx
    . rw[ut c] at e
      have:=(hf b e).1
      omega
    rw[ur c] at hl e;exact⟨m,hl,e⟩
  have k:Keeps (Uu J ρ hp) (Nn ρ hp) w (Uu J (ren ρ nx p) (hp.set nx x)) (Nn (ren ρ nx p) (hp.set nx x)) w' :=
    ⟨h.sub,hb.size,fun b hlt _=>hb.block b hlt,fun b hlt hu=>hu.imp id (hN b hlt),hN⟩
  exact
  { kle:=by have:=h.kle;omega
    ble:=by have:=h.ble;omega
    named:=fun m hm=>by unfold ren;rw[ur (by have:=h.kle;omega)];exact h.named m hm
    below:=h.below.later hb
    hrel:=fun m=>by
      rw[zn];have er:ren ρ nx p m=if m=nx then p else ρ m:=rfl
      rw[er];by_cases c:m=nx
      . rw[ut c,ut c];exact hx k
      rw[ur c,ur c];exact HE.rel_ren (nx:=nx) (fun n hn=>by unfold ren;rw[ur ya]) (h.hun m) (HE.rel_mono k (h.hun m) (fun hl g hg=>hb.block g (h.new m g hl hg).2) (h.hrel m))
    hun:=fun m=>by
      rw[zn];by_cases c:m=nx
      . rw[ut c];exact hu
      rw[ur c];exact HE.under_mono (le_succ nx) (h.hun m)
    hnx:=fun m hm=>by rw[zn,ur ya];exact h.hnx m ya
    new:=fun m b hl e=>by
      rw[zn] at hl;unfold ren at e;by_cases c:m=nx
      . rw[ut c] at e
        exact⟨.inl (Nat.le_trans h.below.size (hf b e).1),(hf b e).2⟩
      rw[ur c] at hl e;exact⟨(h.new m b hl e).1,lt_of_lt_of_le (h.new m b hl e).2 hb.size⟩
    inj:=fun m1 m2 b l1 l2 e1 e2=>by
      rw[zn] at l1 l2;unfold ren at e1 e2;by_cases c1:m1=nx<;>by_cases c2:m2=nx
      . rw[c1,c2]
      . rw[ut c1] at e1;rw[ur c2] at l2 e2
        have:=(hf b e1).1;have:=(h.new m2 b l2 e2).2;omega
      . rw[ur c1] at l1 e1;rw[ut c2] at e2
        have:=(hf b e2).1;have:=(h.new m1 b l1 e1).2;omega
      rw[ur c1] at l1 e1;rw[ur c2] at l2 e2;exact h.inj m1 m2 b l1 l2 e1 e2
    size:=h.size
    defers:=h.defers
    frel:=fun t=>AV.rel_ren (nx:=nx) (fun n hn=>by unfold ren;rw[ur ya]) (h.fnx t) (AV.rel_mono k (h.fnx t) (h.frel t))
    fnx:=fun t=>AV.under_mono ya (h.fnx t)
    brel:=fun q hq t=>AV.rel_ren (nx:=nx) (fun n hn=>by unfold ren;rw[ur ya]) (AV.under_mono h.ble (J.bgb q hq t)) (AV.rel_mono k (J.bgb q hq t) (h.brel q hq t)) }
theorem SimR.modify (h:SimR J nx ρ fr hp a w) {n:Nat} {y x:HE} (hn:hp n=y) (hy:y.live) (hxl:x.live) (hsz:w'.heap.size=w.heap.size) (hos:w'.os=w.os) (htape:w'.tape=w.tape) (hout:w'.output=w.output)
    (hb:∀b,zaH (ρ n)≠some b->w'.heap[b]?=w.heap[b]?)
    (hx:Keeps (Uu J ρ hp) (Nn ρ hp) w (Uu J ρ (hp.set n x)) (Nn ρ (hp.set n x)) w'->x.rel ρ J.B (Uu J ρ (hp.set n x)) (Nn ρ (hp.set n x)) w' (ρ n)) (hdr:w.drawn<=w'.drawn:=by exact ug _) (hu:x.under nx:=by exact trivial) :
    SimR J nx ρ fr (hp.set n x) a w':=by
  have hlive:∀m,((hp.set n x) m).live->(hp m).live:=fun m hl=>by
    rw[zn] at hl;by_cases c:m=n
    . rw[c,hn];exact hy
    rw[ur c] at hl;exact hl
  have hN:∀b,Nn ρ (hp.set n x) b->Nn ρ hp b:=fun b ⟨m,hl,e⟩=>⟨m,hlive m hl,e⟩
  have k:Keeps (Uu J ρ hp) (Nn ρ hp) w (Uu J ρ (hp.set n x)) (Nn ρ (hp.set n x)) w' :=
    ⟨h.sub,by omega,fun b _ hb'=>hb b (fun e=>hb' ⟨n,by rw[hn];exact hy,e⟩),fun b _ hu=>hu.imp id (hN b),fun b _=>hN b⟩
  have hlt:n<nx:=lt_of_not_le fun hle=>by
    have:=h.hnx n hle
    rw[hn] at this;rw[this] at hy;exact hy
  exact
  { kle:=h.kle
    ble:=h.ble
    named:=h.named
    below:=⟨hos.trans h.below.os,htape.trans h.below.tape,hout.trans h.below.output,by have:=h.below.size;omega,fun b hlt hgr =>
      (hb b (fun e=>((h.new n b (by rw[hn];exact hy) e).1).elim (fun h1=>absurd hlt ya) hgr)).trans (h.below.block b hlt hgr),Nat.le_trans h.below.drawn hdr⟩
    hrel:=fun m=>by
      rw[zn];by_cases c:m=n
      . rw[ut c,c];exact hx k
      rw[ur c];exact HE.rel_mono k (h.hun m) (fun hl g hg=>hb g (fun e=>c (h.inj m n g hl (by rw[hn];exact hy) hg e))) (h.hrel m)
    hun:=fun m=>by
      rw[zn];by_cases c:m=n
      . rw[ut c];exact hu
      rw[ur c];exact h.hun m
    hnx:=fun m hm=>by rw[zn,ur ya];exact h.hnx m hm
    new:=fun m b hl e=>by have:=h.new m b (hlive m hl) e;exact⟨this.1,by omega⟩
    inj:=fun m1 m2 b l1 l2=>h.inj m1 m2 b (hlive m1 l1) (hlive m2 l2)
    size:=h.size
    defers:=h.defers
    frel:=fun t=>AV.rel_mono k (h.fnx t) (h.frel t)
    fnx:=h.fnx
    brel:=fun q hq t=>AV.rel_mono k (J.bgb q hq t) (h.brel q hq t) }
theorem SimR.drop (h:SimR J nx ρ fr hp a w) (n:Nat):SimR J nx ρ fr (hp.set n .none_) a w:=by
  refine h.weaken (Nat.ble_eq_true_of_le (Nat.max_le.2 ⟨h.kle,h.ble⟩)) (Fr.le_refl _) (fun m=>?_) h.fnx (fun m=>?_)
  . rw[zn]
    by_cases c:m=n
    . rw[ut c];exact .inl rfl
    rw[ur c];exact .inr rfl
  rw[zn];by_cases c:m=n
  . rw[ut c];exact⟨fun _=>rfl,trivial⟩
  rw[ur c];exact⟨h.hnx m,h.hun m⟩
@[irreducible] def tyB (P:Program) (t:TypeId) (n:Nat) (g:Bool):Bool :=
  ((P.info? t).map (·.size)==some n)&&(match P.underlying t with|some (.struct _)|some (.array ..)=>g|some _=>!g|none=>false)
@[irreducible] def fieldB (P:Program) (s:TypeId) (f off:Nat) (ft:TypeId):Bool :=
  match P.underlying s with
  | some (.struct fs)=>match fs[f]? with
    | some fd=>fd.offset==off&&fd.type==ft&&(match P.info? fd.type with|some i=>i.size != 0|none=>false)
    | none=>false
  | _=>false
@[irreducible] def sliceB (P:Program) (t e:TypeId) (sz:Nat):Bool :=
  (match P.underlying t with|some (.slice e')=>e'==e|_=>false)&&((P.info? e).map (·.size)==some sz)
@[irreducible] def arrB (P:Program) (t:TypeId) (n:Nat) (e:TypeId) (sz:Nat):Bool :=
  (match P.underlying t with|some (.array n' e')=>n'==n&&e'==e|_=>false)&&((P.info? e).map (·.size)==some sz)
@[irreducible] def rowB (P:Program) (t e:TypeId) (size bytes:Nat):Bool :=
  (match P.underlying t with|some (.slice e')=>e'==e|_=>false)&&(match P.info? e with|some i=>i.size==size&&i.bytes==bytes&&(match i.zero with|some z=>z.cells.size==size|none=>false)|none=>false)
theorem zdk {P:Program} {t e size bytes:Nat} (h:rowB P t e size bytes=true):P.underlying t=some (.slice e)/\∃i z,P.info? e=some i/\i.zero=some z/\i.size=size/\i.bytes=bytes/\z.cells.size=size:=by
  unfold rowB at h;rw[uk] at h;obtain⟨h1,h2⟩:=h;cases hi:P.info? e with
  | none=>simp[hi] at h2
  | some i =>
    cases hz:i.zero with
    | none=>simp[hi,hz] at h2
    | some z =>
      simp[hi,hz] at h2;cases hu:P.underlying t with
      | none=>simp[hu] at h1
      | some d =>
        cases d<;>simp[hu] at h1;rename_i e';obtain rfl:e=e':=h1.symm;exact⟨rfl,i,z,rfl,hz,h2.1.1,h2.1.2,h2.2⟩
theorem zfs {P:Program} {t n:Nat} {g:Bool} (h:tyB P t n g=true) (w:World):(∃i,P.info? t=some i/\i.size=n)/\(isAgg t).run P w = .ok g w/\(sizeOf t).run P w = .ok n w:=by
  unfold tyB at h;rw[uk] at h;obtain⟨h1,h2⟩:=h;have h1:(P.info? t).map (·.size)=some n:=by simpa using h1
  cases hq:P.info? t with
  | none=>simp[hq] at h1
  | some i =>
    have hs:i.size=n:=by simpa [hq] using h1
    refine⟨⟨i,rfl,hs⟩,?_,?_⟩
    . cases hu:P.underlying t with
      | none=>simp[hu] at h2
      | some d =>
        rw[hu] at h2;unfold isAgg;rw[Sem.run_bind,run_underlying hu w];cases d<;>simp at h2<;>subst h2<;>simp[Sem.run_pure]
    simp[sizeOf,typeInfo,Sem.run_bind,hq,hs]
theorem zcD {P:Program} {α:Type} {T:GoT α} {t:TypeId} {U N:Nat->Prop} {ad:Addr} {x:α} (ht:tyB P t T.size T.agg=true) (h:T.at_ U N w ad x) :
    ∃v,(loadVar t ad).run P w = .ok v w/\T.val U N w x v:=by
  obtain⟨cs,hr,hc⟩:=h;obtain⟨_,h1,h2⟩:=zfs ht w;cases hg:T.agg with
  | true =>
    have hl:=run_loadCells_list (P:=P) w ad cs hc;rw[T.len hr] at hl;refine⟨.agg cs.toArray,?_,cs,hr,.inl ⟨hg,rfl⟩⟩;rw[hg] at h1;simp[loadVar,Sem.run_bind,h1,h2,hl]
  | false =>
    have hl:=T.len hr;rw[T.sc hg] at hl
    match cs,hl with
    | [v],_ =>
      refine⟨v,?_,[v],hr,.inr ⟨hg,rfl⟩⟩;rw[hg] at h1
      have:=hc 0 v rfl
      rw[add_zero] at this;simp[loadVar,Sem.run_bind,h1,load,Sem.run,this]
theorem zut {α Z:Type} {T:GoT α} {S:GoT Z} {off:Nat} {get:α->Z} {set:α->Z->α} {U N:Nat->Prop} {ad:Addr} {x:α} (L:Lens T off S get set) (h:T.at_ U N w ad x):S.at_ U N w (ad.add off) (get x):=by
  obtain⟨cs,hr,hc⟩:=h;refine⟨_,L.get_ hr,fun j v hj=>?_⟩;rw[zbO];rw[List.getElem?_take] at hj
  split at hj
  . rw[List.getElem?_drop] at hj;exact hc _ v hj
  simp at hj
theorem at_of_heap {α:Type} {T:GoT α} {U N:Nat->Prop} {g:Nat} {cs:List Value} {t:TypeId} {f:Nat×Nat} {x:α} (hg:w.heap[g]?=some (.cells cs.toArray t f)) (hr:T.rel U N w x cs):T.at_ U N w ⟨g,0,none⟩ x:=by
  refine⟨cs,hr,fun j v hj=>?_⟩
  have:(⟨g,0,none⟩:Addr).add j=⟨g,j,none⟩:=by unfold Addr.add;split<;>simp_all
  rw[this,cell_of_row w g j cs.toArray t f hg];simpa using hj
theorem zoN {α Z:Type} {T:GoT α} {S:GoT Z} {off n:Nat} {get:α->Z} {set:α->Z->α} {ty:TypeId} {x:α} (h:SimH J nx ρ hp w) (hn:hp n = .box ty T x) (L:Lens T off S get set) {v:Value}
    (hv:(AV.ptr n off).rel ρ J.B (Uu J ρ hp) (Nn ρ hp) w v):∃g,ρ n = .pointer (some ⟨g,0,none⟩)/\v = .pointer (some ((⟨g,0,none⟩:Addr).add off))/\S.at_ (Uu J ρ hp) (Nn ρ hp) w ((⟨g,0,none⟩:Addr).add off) (get x):=by
  obtain⟨g,e1,e2⟩:=hv;have hh:=h.hrel n;rw[hn] at hh;obtain⟨g',cs,e3,hg,hr⟩:=hh;rw[e1] at e3
  have:g=g':=by injection e3 with e3;injection e3 with e3;injection e3
  subst this;exact⟨g,e1,e2,zut L (at_of_heap hg hr)⟩
end
section
variable {J:Job} {nx:Nat} {fr:Fr} {hp:Hp} {k:List It} {ops:Array Oper} {rest:List Oper} {o:Oper}
variable {α Z:Type} {T:GoT α} {S:GoT Z} {get:α->Z} {set:α->Z->α}
theorem zr {t ty:TypeId} {x:Operand} {n off:Nat} {c:α} (ho:o.op = .load t x) (hx:fr.ev x = .ptr n off) (hn:hp n = .box ty T c) (L:Lens T off S get set) (ht:tyB J.P t S.size S.agg=true):OpG J o fr hp (.val S (get c)):=by
  refine .of_run (fun s hr _=>?_) (fun _ _=>trivial);have h:=hr x ym;rw[hx] at h;obtain⟨g,_,e,hat⟩:=zoN s hn L h;obtain⟨v,h1,h2⟩:=zcD ht hat
  refine⟨v,?_,h2⟩;unfold execOp;rw[ho];simp[Instr.loadAt,Instr.sureAddr,Sem.run_bind,e,h1]
theorem zh {t:TypeId} {x:Operand} {c:α} (ho:o.op = .load t x) (hx:fr.ev x = .rptr T c) (ht:tyB J.P t T.size T.agg=true):OpG J o fr hp (.val T c):=by
  refine .of_run (fun s hr _=>?_) (fun _ _=>trivial);have h:=hr x ym;rw[hx] at h;obtain⟨ad,e,_,hat⟩:=h;obtain⟨v,h1,h2⟩:=zcD ht hat
  refine⟨v,?_,h2⟩;unfold execOp;rw[ho];simp[Instr.loadAt,Instr.sureAddr,Sem.run_bind,e,h1]
theorem zjG {P:Program} {s:TypeId} {f off:Nat} {ft:TypeId} (h:fieldB P s f off ft=true) (w:World) (ad:Addr):(Instr.fieldAt s (.pointer (some ad)) f).run P w = .ok (.pointer (some (ad.add off))) w:=by
  unfold fieldB at h;cases hu:P.underlying s with
  | none=>simp[hu] at h
  | some d =>
    cases d<;>simp[hu] at h;rename_i fs;cases hf:fs[f]? with
    | none=>simp[hf] at h
    | some fd =>
      simp[hf] at h;cases hi:P.info? fd.type with
      | none=>simp[hi] at h
      | some i =>
        simp[hi] at h;simp[Instr.fieldAt,Sem.run_bind,run_underlying hu,hf,Instr.sureAddr,fieldPlace,sizeOf,typeInfo,hi,h.2,h.1.1]
theorem zdp {s ft:TypeId} {x:Operand} {f n off d off':Nat} (ho:o.op = .fieldAddr s x f) (hx:fr.ev x = .ptr n off) (hf:fieldB J.P s f d ft=true) (e:off+d=off'):OpG J o fr hp (.ptr n off'):=by
  refine .of_run (fun _ hr _=>?_) (fun _ hn=>?_)
  . have h:=hr x ym
    rw[hx] at h;obtain⟨g,e1,e2⟩:=h;refine⟨_,?_,g,e1,rfl⟩;unfold execOp;rw[ho];simp only[e2,Sem.run_bind,zjG hf,Result.andThen_ok,Sem.run_pure,zbO,e]
  have h:=hn x ym;rw[hx] at h;exact h
theorem zoo {s ft:TypeId} {x:Operand} {f n i sz off d off':Nat} (ho:o.op = .fieldAddr s x f) (hx:fr.ev x = .eptr n i sz off) (hf:fieldB J.P s f d ft=true) (e:off+d=off'):OpG J o fr hp (.eptr n i sz off'):=by
  refine .of_run (fun _ hr _=>?_) (fun _ hn=>?_)
  . have h:=hr x ym
    rw[hx] at h;obtain⟨g,l,c,e1,e2⟩:=h;refine⟨_,?_,g,l,c,e1,rfl⟩;unfold execOp;rw[ho];simp only[e2,Sem.run_bind,zjG hf,Result.andThen_ok,Sem.run_pure,zbO,add_assoc,e]
  have h:=hn x ym;rw[hx] at h;exact h
theorem zhR {s ft:TypeId} {x:Operand} {f off:Nat} {c:α} (ho:o.op = .fieldAddr s x f) (hx:fr.ev x = .rptr T c) (hf:fieldB J.P s f off ft=true) (L:Lens T off S get set):OpG J o fr hp (.rptr S (get c)):=by
  refine .of_run (fun _ hr _=>?_) (fun _ _=>trivial);have h:=hr x ym;rw[hx] at h;obtain⟨ad,e,hn,hat⟩:=h;refine⟨_,?_,ad.add off,rfl,by rw[zbM];exact hn,zut L hat⟩;unfold execOp;rw[ho];simp only[e,Sem.run_bind,zjG hf,Result.andThen_ok,Sem.run_pure]
theorem za4 {P:Program} {t e sz:Nat} (h:sliceB P t e sz=true) (w:World):P.underlying t=some (.slice e)/\(sizeOf e).run P w = .ok sz w/\∃i,P.info? e=some i/\i.size=sz:=by
  unfold sliceB at h;rw[uk] at h;obtain⟨h1,h2⟩:=h;have h2:(P.info? e).map (·.size)=some sz:=by simpa using h2
  cases hu:P.underlying t with
  | none=>simp[hu] at h1
  | some d =>
    cases d<;>simp[hu] at h1;rename_i e';obtain rfl:e=e':=h1.symm;cases hi:P.info? e with
    | none=>simp[hi] at h2
    | some i =>
      have:i.size=sz:=by simpa [hi] using h2
      exact⟨rfl,by simp[sizeOf,typeInfo,hi,this],i,rfl,this⟩
theorem zhM {b:Bool} {U N:Nat->Prop} {w:World} {l:List α} {v:Value} (h:(slT b T).val U N w l v):∃a cap,v = .slice a l.length cap/\l.length<=cap/\cap<=maxLen/\
    (l≠[]->∃ad ds,a=some ad/\¬(if b then N else U) ad.block/\zai T U N w l ds/\∀j v,ds[j]?=some v->w.cell? (ad.add j)=some v):=by
  obtain⟨cs,⟨ad,cap,rfl,h1,h2,h3⟩,hv⟩:=h;rcases hv with hv|hv
  . exact absurd (show false=true from hv.1) yl
  have hv:=hv.2;simp only[List.cons.injEq,and_true] at hv;exact⟨ad,cap,hv.symm,h1,h2,h3⟩
theorem zk {b:Bool} {l:List α} {ρ:Nat->Value} {B:Nat->Prop} {U N:Nat->Prop} {w:World} {v:Value} (h:(AV.val (slT b T) l).rel ρ B U N w v):l.length<=9223372036854775807:=by
  obtain⟨_,cap,_,h1,h2,_⟩:=zhM h;unfold maxLen at h2;omega
theorem zz {x:Int} {ρ:Nat->Value} {B:Nat->Prop} {U N:Nat->Prop} {w:World} {v:Value} (h:(AV.val i64T x).rel ρ B U N w v):-9223372036854775808<=x/\x<=9223372036854775807:=zdo.1 (zO.1 h).2
theorem g_ia_r {t e:TypeId} {x y:Operand} {b:Bool} {l:List α} {i:Int} {c:α} (ho:o.op = .indexAddr t x y) (hx:fr.ev x = .val (slT b T) l) (hy:fr.ev y = .val i64T i) (hs:sliceB J.P t e T.size=true) (h0:0<=i) (hc:l[i.toNat]?=some c):OpG J o fr hp (.rptr T c):=by
  refine .of_run (fun {_ _ _ w} s hr _=>?_) (fun _ _=>trivial);have h:=hr x ym;have h':=hr y ym;rw[hx] at h;rw[hy] at h';obtain⟨ad,cap,hv,h1,h2,h3⟩:=zhM h;have hi:i.toNat<l.length:=(ul.1 hc).1;obtain⟨ad,ds,rfl,hu,hrel,hcell⟩:=h3 (by intro e;rw[e] at hi;simp at hi);obtain⟨hs1,hs2,_⟩:=za4 hs w;refine⟨_,?_,ad.add (i.toNat*T.size),rfl,?_,?_⟩
  . unfold execOp;rw[ho]
    simp only[hv,(zO.1 h').1];have hlt:i<(l.length:Int):=ya;simp[Instr.indexAt,asIntOf,Sem.run_bind,run_underlying hs1,h0,hlt,hs2]
  . rw[zbM]
    cases b
    . exact fun hn=>hu (s.sub _ hn)
    exact hu
  refine⟨_,hrel.get hc,fun j v hj=>?_⟩;rw[zbO];rw[List.getElem?_take] at hj
  split at hj
  . rw[List.getElem?_drop] at hj;exact hcell _ v hj
  simp at hj
theorem zaC {t:TypeId} {x:Operand} {b:Bool} {l:List α} (ho:o.op = .call { callee:=.builtin .len,args:=#[x],argTypes:=#[t] }) (hx:fr.ev x = .val (slT b T) l) (hs:(match J.P.underlying t with|some (.slice _)=>true|_=>false)=true):OpG J o fr hp (.val i64T l.length):=by
  refine .of_run (fun {_ _ _ w} s hr _=>?_) (fun _ _=>trivial);have h:=hr x yy;rw[hx] at h;obtain⟨ad,cap,hv,h1,h2,h3⟩:=zhM h;refine⟨_,?_,zO.2 ⟨rfl,?_⟩⟩
  . cases hu:J.P.underlying t with
    | none=>simp[hu] at hs
    | some d =>
      cases d<;>simp[hu] at hs;unfold execOp;rw[ho];simp[resolve,invoke,builtin,Builtin.len_,hv,Sem.run_bind,run_underlying hu,goInt]
  rw[zdo];unfold maxLen at h2;omega
end
end Go.Ab
namespace Go.Ab
open Go.RowKit
section
variable {J:Job} {nx:Nat} {ρ:Nat->Value} {fr:Fr} {hp:Hp} {a:Act} {w w':World} {k:List It} {ops:Array Oper} {rest:List Oper} {o:Oper}
variable {α Z:Type} {T:GoT α} {S:GoT Z} {get:α->Z} {set:α->Z->α}
theorem zbl (w:World) (o:Obj):Below w.heap.size w (w.alloc o):=(Below.refl _ _).alloc (ug _) o
theorem SimR.newbox (h:SimR J nx ρ fr hp a w) {ty:TypeId} {x:α} {cs:List Value} (hr:T.rel (Uu J ρ hp) (Nn ρ hp) w x cs) :
    SimR J (nx+1) (ren ρ nx (.pointer (some ⟨w.heap.size,0,none⟩))) fr (hp.set nx (.box ty T x)) a (w.alloc (.cells cs.toArray ty)) :=
  h.bind (zbl _ _) (fun b e=>by simp only[zaH,Option.some.injEq] at e;subst e;exact⟨ug _,by simp⟩)
    (fun k=>⟨w.heap.size,cs,rfl,heap_alloc_new w _,T.mono k hr⟩)
def Zero (T:GoT α) (x:α) (cs:List Value):Prop:=∀U N w,T.rel U N w x cs
theorem zT {A:GoT α} {B:GoT Z} {x:α} {y:Z} {c d:List Value} (h:Zero A x c) (h':Zero B y d):Zero (zbF A B) (x,y) (c++d):=fun U N w=>⟨c,d,rfl,h U N w,h' U N w⟩
theorem zqv {x:α} {c:List Value} (h:Zero T x c) (U N:Nat->Prop) (w:World):∀n,zai T U N w (List.replicate n x) ((List.replicate n c).flatten)
  | 0=>rfl
  | n+1=>⟨c,_,rfl,h U N w,zqv h U N w n⟩
theorem zeK {x:α} {c:List Value} {n:Nat} (hn:0<n) (h:Zero T x c):Zero (arrT n hn T) (List.replicate n x) ((List.replicate n c).flatten):=fun U N w=>⟨by simp,zqv h U N w n⟩
theorem zbw:Zero i64T 0 [.int .i64 0]:=fun _ _ _=>⟨rfl,zdo.2 ya⟩
theorem zrU:Zero zo false [.bool false]:=fun _ _ _=>⟨rfl,trivial⟩
theorem zero_u8:Zero u8T 0 [.int .u8 0]:=fun _ _ _=>⟨rfl,trivial⟩
theorem zqt:Zero u32T 0 [.int .u32 0]:=fun _ _ _=>⟨rfl,trivial⟩
theorem zu8:Zero u64T 0 [.int .u64 0]:=fun _ _ _=>⟨rfl,trivial⟩
theorem zcO {b:Bool}:Zero (slT b T) [] [.slice none 0 0]:=fun _ _ _=>⟨none,0,rfl,ug _,by unfold maxLen;omega,fun h=>absurd rfl h⟩
theorem zh2:Zero idT (List.replicate 32 0) ((List.replicate 32 [.int .u8 0]).flatten):=zeK yl zero_u8
def zaw (P:Program) (ty:TypeId) (T:GoT α) (x:α):Prop:=∃z,(P.info? ty).bind (·.zero)=some z/\∀U N w,T.rel U N w x z.cells.toList
theorem z7 {P:Program} {ty:TypeId} {x:α} {cs:List Value} (h:Zero T x cs) (hz:(P.info? ty).bind (·.zero)=some (.agg cs.toArray)):zaw P ty T x:=⟨_,hz,fun U N w=>by simpa [Value.cells] using h U N w⟩
theorem zfD {P:Program} {ty:TypeId} {x:α} {v:Value} (h:Zero T x [v]) (hz:(P.info? ty).bind (·.zero)=some v):zaw P ty T x:=⟨_,hz,fun U N w=>by
  have:=T.one (h U N w) v yw
  have e:v.cells = #[v]:=yb7;rw[e];exact h U N w⟩
theorem zN {ty d:Nat} {x:α} (hz:zaw J.P ty T x) (ho:o.op = .alloc ty) (hd:o.dst=some d) (hg:o.guard=none) (hlt:Nat.blt d J.nt=true)
    (H:AW J (nx+1) (fr.set d (.ptr nx 0)) (hp.set nx (.box ty T x)) (.ops ops rest::k)):AW J nx fr hp (.ops ops (o::rest)::k):=by
  intro a w ⟨ρ,s⟩;refine zU hg yq fun K hK=>?_
  obtain⟨z,h1,h3⟩:=hz;obtain⟨i,h1,h2⟩:=Option.bind_eq_some_iff.1 h1;have hrun:(execOp a.eval o).run J.P w = .ok (.value (.pointer (some ⟨w.heap.size,0,none⟩))) (w.alloc (.cells z.cells ty)):=by
    unfold execOp;rw[ho];simp[Instr.alloc,zeroValue,typeInfo,Sem.run_bind,h1,h2,newVar,newRow,newObj,Sem.run]
  unfold Oper.wp;rw[hrun,Oper.upon_value,hd];refine hK _ _ (H _ _ ⟨_,(s.newbox (cs:=z.cells.toList) (h3 _ _ _)).put yK ⟨w.heap.size,by unfold ren;simp,rfl⟩ (Nat.lt_succ_self nx)⟩)
theorem ztN {ty d:Nat} {x:α} {y:Operand} (ho:o.op = .box ty y) (hd:o.dst=some d) (hg:o.guard=none) (hlt:Nat.blt d J.nt=true) (hy:fr.ev y = .val T x)
    (H:AW J (nx+1) (fr.set d (.ptr nx 0)) (hp.set nx (.box ty T x)) (.ops ops rest::k)):AW J nx fr hp (.ops ops (o::rest)::k):=by
  intro a w ⟨ρ,s⟩;refine zU hg yq fun K hK=>?_
  have h:=zak s y;rw[hy] at h;have hr:=GoT.val_cells h;have hrun:(execOp a.eval o).run J.P w = .ok (.value (.pointer (some ⟨w.heap.size,0,none⟩))) (w.alloc (.cells (a.eval y).cells ty)):=by
    unfold execOp;rw[ho];simp[Instr.box,Sem.run_bind,newVar,newRow,newObj,Sem.run]
  unfold Oper.wp;rw[hrun,Oper.upon_value,hd];refine hK _ _ (H _ _ ⟨_,(s.newbox (cs:=(a.eval y).cells.toList) hr).put yK ⟨w.heap.size,by unfold ren;simp,rfl⟩ (Nat.lt_succ_self nx)⟩)
theorem zgz (g n:Nat):((⟨g,0,none⟩:Addr).add n)=⟨g,n,none⟩:=by unfold Addr.add;split<;>simp_all
theorem zb5 {P:Program} {t g off:Nat} {ty:TypeId} {cur:Array Value} {v:Value} {n:Nat} {b:Bool} (ht:tyB P t n b=true) (hv:v.cells.size=n) (h1:∀u∈v.cells.toList,u.oneCell'=true) (hg:w.heap[g]?=some (.cells cur ty (0,0))) (hl:off+n<=cur.size) :
    (storeVar t ((⟨g,0,none⟩:Addr).add off) v).run P w = .ok () (w.setRow g (cur.toList.take off++v.cells.toList++cur.toList.drop (off+n)).toArray):=by
  obtain⟨_,_,h2⟩:=zfs ht w
  have:=run_storeCells_at P g off ty v.cells.toList 0 cur w hg (by simpa [hv] using hl) h1
  rw[zgz];simp only[Nat.add_zero,Array.length_toList,hv] at this;simp[storeVar,Sem.run_bind,h2,hv,this]
theorem zg {t ty:TypeId} {x y:Operand} {n off:Nat} {c:α} {z:Z} (ho:o.op = .store t x y) (hd:o.dst=none) (hg:o.guard=none) (hx:fr.ev x = .ptr n off) (hn:hp n = .box ty T c) (L:Lens T off S get set)
    (ht:tyB J.P t S.size S.agg=true) (hy:fr.ev y = .val S z) (H:AW J nx fr (hp.set n (.box ty T (set c z))) (.ops ops rest::k)):AW J nx fr hp (.ops ops (o::rest)::k):=by
  intro a w ⟨ρ,s⟩;refine zU hg yq fun K hK=>?_
  have h:=zak s x;have h':=zak s y;rw[hx] at h;rw[hy] at h';obtain⟨g,e1,e2⟩:=h;have hh:=s.hrel n;rw[hn] at hh;obtain⟨g',cs,e3,hgc,hr⟩:=hh;obtain rfl:g=g':=yb8;have hyr:=GoT.val_cells h';have hlen:(a.eval y).cells.size=S.size:=by simpa using S.len hyr
  have hrun:=zb5 (w:=w) (off:=off) ht hlen (S.one hyr) hgc (by have:=L.fit;have:=T.len hr;simpa [this] using L.fit);have hex:(execOp a.eval o).run J.P w = .ok .skip (w.setRow g (cs.take off++(a.eval y).cells.toList++cs.drop (off+S.size)).toArray):=by
    unfold execOp;rw[ho];simp only[e2,Instr.storeAt,Instr.sureAddr,Sem.run_bind,Sem.run_pure,Result.andThen_ok,hrun]
  unfold Oper.wp;rw[hex,Oper.upon_skip,hd];refine hK _ _ ?_;refine H _ _ ⟨ρ,s.modify hn trivial trivial yw rfl rfl rfl (fun b hb=>setRow_other w g b _ (fun e=>hb yaq)) fun kp=>?_⟩;refine⟨g,cs.take off++(a.eval y).cells.toList++cs.drop (off+S.size),e1,?_,?_⟩
  . exact setRow_heap w g _ _ ty (0,0) hgc
  exact T.mono kp (L.set_ hr hyr)
def ρ0:Nat->Value:=fun _=>undef
def noN:Nat->Prop:=fun _=>False
def znh (ext:Nat->Prop) (w0:World) (res:AV):Ending->World->Prop
  | .returned v,w=>Below w0.heap.size w0 w/\res.rel ρ0 (fun b=>w0.heap.size<=b) ext ext w v
  | .outgrown,_=>False
  | _,_=>False
def za8 (ext gr:Nat->Prop) (w0:World) (res:AV):Ending->World->Prop
  | .returned v,w=>BelowX gr w0 w/\res.rel ρ0 (fun b=>w0.heap.size<=b\/gr b) ext ext w v
  | .outgrown,_=>False
  | _,_=>False
theorem za8.pure {ext:Nat->Prop} {w0:World} {res:AV} {e:Ending} {w:World} (h:za8 ext (fun _=>False) w0 res e w):znh ext w0 res e w:=by
  cases e with
  | returned v =>
    refine⟨BelowX.none h.1,?_⟩;have e:(fun b=>w0.heap.size<=b\/False)=fun b=>w0.heap.size<=b:=by funext b;exact propext ⟨fun h=>h.elim id (fun h=>h.elim),.inl⟩
    rw[<-e];exact h.2
  | panicked c=>exact h
  | outgrown=>exact h.elim
def zbJ (ext:Nat->Prop) (w:World):List AV->List Value->Prop
  | [],[]=>True
  | A::As,v::vs=>A.rel ρ0 noN ext noN w v/\zbJ ext w As vs
  | _,_=>False
def Tells (P:Program) (f:FuncId) (args:List AV) (res:AV):Prop :=
  ∀(ext:Nat->Prop) (w:World) (vs:List Value),(∀b,ext b->b<w.heap.size)->zbJ ext w args vs->Calls P f vs.toArray w (znh ext w res)
def zgI (J:Job) (hp:Hp) (X A:AV):Prop:=∀nx ρ w v,SimH J nx ρ hp w->X.rel ρ J.B (Uu J ρ hp) (Nn ρ hp) w v->A.rel ρ0 noN (Uu J ρ hp) noN w v
def zhY (J:Job) (fr:Fr) (hp:Hp):List Operand->List AV->Prop
  | [],[]=>True
  | x::xs,A::As=>zgI J hp (fr.ev x) A/\zhY J fr hp xs As
  | _,_=>False
theorem zgW (s:SimH J nx ρ hp w):Keeps (Uu J ρ hp) (Nn ρ hp) w (Uu J ρ hp) noN w:=⟨s.sub,ug _,fun _ _ _=>rfl,fun _ _ h=>h,fun _ _ h=>h.elim⟩
theorem zu2 {X:AV} {T S:GoT α} {x:α} (h:X = .val T x) (hs:Sub T S):zgI J hp X (.val S x):=fun _ _ _ _ s hx=>by
  subst h;exact hs (fun b h=>h.elim) (GoT.val_mono (zgW s) hx)
theorem zI {X:AV} {T:GoT α} {x:α} (h:X = .val T x):zgI J hp X (.val T x):=zu2 h (Sub.refl T)
theorem zS {X:AV} {T:GoT α} {x:List α} (h:X = .val (sl T) x):zgI J hp X (.val (bsl T) x):=zu2 h (zt4 T)
class SubC (T S:GoT α):Prop where
  out:Sub T S
instance (T:GoT α):SubC T T:=⟨Sub.refl T⟩
instance (T:GoT α):SubC (slT false T) (slT true T):=⟨zt4 T⟩
theorem rel_bsl {T:GoT α} {U N:Nat->Prop} {w:World} {l:List α} {cs:List Value} (hN:∀b,N b->U b) (h:(slT false T).rel U N w l cs):(slT true T).rel U N w l cs:=by
  obtain⟨a,cap,e,h1,h2,h3⟩:=h;refine⟨a,cap,e,h1,h2,fun hl=>?_⟩;obtain⟨ad,ds,rfl,hu,hr⟩:=h3 hl;exact⟨ad,ds,rfl,fun hn=>hu (hN _ hn),hr⟩
theorem zpH {T:GoT α} {U N:Nat->Prop} {w:World} (hN:∀b,N b->U b):∀{l:List (List α)} {cs:List Value},zai (slT false T) U N w l cs->zai (slT true T) U N w l cs
  | [],_,h=>h
  | _::_,_,⟨c1,c2,e,h1,h2⟩=>⟨c1,c2,e,rel_bsl hN h1,zpH hN h2⟩
theorem sub_bsl2 {b:Bool} (T:GoT α):Sub (slT b (slT false T)) (slT true (slT true T)):=fun hN h=>by
  obtain⟨cs,⟨a,cap,e,h1,h2,h3⟩,h⟩:=h;refine⟨cs,⟨a,cap,e,h1,h2,fun hl=>?_⟩,h⟩;obtain⟨ad,ds,rfl,hu,hr,hc⟩:=h3 hl;refine⟨ad,ds,rfl,?_,zpH hN hr,hc⟩;cases b
  . exact fun hn=>hu (hN _ hn)
  exact hu
instance {b:Bool} (T:GoT α):SubC (slT b (slT false T)) (slT true (slT true T)):=⟨sub_bsl2 T⟩
theorem zd {X:AV} {T S:GoT α} {x:α} [c:SubC T S] (h:X = .val T x):zgI J hp X (.val S x):=zu2 h c.out
theorem zfL {B e n:Nat} {U N:Nat->Prop} {v:Value} {xs:List Value} {l:List α} {b:Bool} (ho:w.ownsRow B e T.size v n xs) (hl:n=l.length) (hr:zai T U N w l xs) (hU:∀g,zaH v=some g->¬(if b then N else U) g):(slT b T).val U N w l v:=by
  subst hl;obtain⟨h1,h2⟩:=ho;rcases h2 with ⟨rfl,h0⟩|⟨g,cap,cur,rfl,hg,hh,hn,hc,hsz,htk⟩
  . have:l=[]:=List.length_eq_zero_iff.1 h0
    subst this;exact⟨_,⟨none,0,rfl,ug _,by unfold maxLen;omega,fun h=>absurd rfl h⟩,.inr ⟨rfl,rfl⟩⟩
  refine⟨_,⟨some ⟨g,0,none⟩,cap,rfl,hn,hc,fun _=>⟨⟨g,0,none⟩,xs,rfl,hU g rfl,hr,fun j v hj=>?_⟩⟩,.inr ⟨rfl,rfl⟩⟩;rw[zgz,cell_of_row w g j cur e (0,0) hh];rw[<-htk] at hj;rw[List.getElem?_take] at hj
  split at hj
  . simpa using hj
  simp at hj
theorem zL {X:AV} {n e:Nat} {l:List α} (h:X = .own n) (hn:hp n = .row e T l):zgI J hp X (.val (bsl T) l):=fun _ _ _ _ s hx=>by
  subst h;have hh:=s.hrel n;rw[hn] at hh;obtain⟨xs,ho,hr⟩:=hh;have hx:_=_:=hx;rw[hx];exact zfL (b:=true) ho rfl (hr.mono (zgW s)) (fun _ _ h=>h)
theorem zQ {X:AV} {b:Bool} (h:X = .lit (.slice none 0 0)):zgI J hp X (.val (slT b T) []):=fun _ _ _ _ s hx=>by
  subst h;have hx:_=_:=hx;rw[hx];exact⟨_,⟨none,0,rfl,ug _,by unfold maxLen;omega,fun h=>absurd rfl h⟩,.inr ⟨rfl,rfl⟩⟩
theorem zdP {X:AV} {f:FuncId} (h:X = .clo f []):zgI J hp X (.clo f []):=fun _ _ _ _ s hx=>by
  subst h;exact hx
theorem zR {X:AV} {v:Value} (h:X = .lit v):zgI J hp X (.lit v):=fun _ _ _ _ s hx=>by
  subst h;exact hx
theorem zgs {s:SimH J nx ρ hp w} {a:Act}:∀{xs:List Operand} {As:List AV},(∀y∈xs,(fr.ev y).rel ρ J.B (Uu J ρ hp) (Nn ρ hp) w (a.eval y))->zhY J fr hp xs As->zbJ (Uu J ρ hp) w As (xs.map a.eval)
  | [],[],_,_=>trivial
  | x::xs,A::As,hr,h=>⟨h.1 _ _ _ _ s (hr x yw),zgs (s:=s) (fun y hy=>hr y ybt) h.2⟩
  | [],_::_,_,h=>h.elim
  | _::_,[],_,h=>h.elim
theorem zie (s:SimH J nx ρ hp w) (w':World):Keeps (Uu J ρ hp) (Uu J ρ hp) w' (Uu J ρ hp) (Nn ρ hp) w':=⟨fun _ h=>h,ug _,fun _ _ _=>rfl,fun _ _ h=>h,fun b _ h=>s.sub b h⟩
theorem zfv {f : FuncId} {xs : Array Operand} {ts : Array TypeId} {fn : Func} (ho : o.op = .call { callee := .value (.func f), args := xs, argTypes := ts }) (hf : J.P.funcs[f]? = some fn) (hb : fn.body.isSome = true) (hnm : (fn.name == "runtime.NumGoroutine") = false) (a : Act) (w : World) :
    (execOp a.eval o).run J.P w = .ok (.enter f (xs.map a.eval)) w:=by
  have hb':fn.body.isNone=false:=by cases h:fn.body<;>simp_all
  unfold execOp;rw[ho];simp only[resolve,Act.eval,Deferred.ofValue,Sem.run_bind,Sem.run_pure,Result.andThen_ok,invoke,callFunc,Array.empty_append,Array.append_empty]
  have hne : fn.name ≠ "runtime.NumGoroutine" := by simpa using hnm
  have hbn:fn.body≠none:=yb9;simp[hf,hne,hbn]
theorem Calls.weaken {P:Program} {f:FuncId} {args:Array Value} {w:World} {R R':Ending->World->Prop} (h:Calls P f args w R) (hr:∀e w',R e w'->R' e w'):Calls P f args w R':=Calls.mono h hr
theorem zcT {f:FuncId} {xs:Array Operand} {ts:Array TypeId} {As:List AV} {X:AV} (hc:Tells J.P f As X) (ho:o.op = .call { callee:=.value (.func f),args:=xs,argTypes:=ts }) (hf:fnB J.P f=true) (ha:zhY J fr hp xs.toList As) (hX':X.under0=true):OpG J o fr hp X where
  run {nx ρ a w} s hr _ K Q hK:=by
    have hX:=AV.under0_spec hX';obtain⟨fn,h1,h2,h3⟩:=zbG hf;unfold Oper.wp;rw[zfv ho h1 h2 h3,Oper.upon_enter];have hargs:=zgs (s:=s) (a:=a) (fun y hy=>hr y yba) ha;have e:(xs.toList.map a.eval).toArray=xs.map a.eval:=yca
    have:=hc (Uu J ρ hp) w _ (fun b hb=>s.uu_lt hb) hargs
    rw[e] at this;refine Calls.mono this fun e w' he=>?_
    cases e with
    | returned v =>
      refine hK v w' he.1 ?_;exact AV.rel_mono (nx:=0) (zie s w') hX (AV.rel_ren (ρ:=ρ0) (ρ':=ρ) (fun n hn=>by omega) hX (AV.rel_B (B':=J.B) hX he.2))
    | panicked c=>exact he.elim
    | outgrown=>exact he.elim
  und _ _:=AV.under_mono (uf _) (AV.under0_spec hX')
  nd c hc:=ycb
def Fr.args:Nat->List AV->Fr->Fr
  | _,[],f=>f
  | i,A::As,f=>Fr.args (i+1) As (f.set i A)
theorem zeF {P:Nat->AV->Value->Prop} (hidk:∀t v,P t .idk v):∀{As:List AV} {vs:List Value} {i:Nat} {f:Fr} {g:Nat->Value},
    (As.length=vs.length)->(∀(j:Nat) (A:AV) (v:Value),As[j]?=some A->vs[j]?=some v->∀t,P t A v)->(∀t,P t (f t) (if t<i then g t else undef))->(∀t,i<=t->f t = .idk)->
    ∀t,P t (Fr.args i As f t) (if t<i then g t else (vs[t-i]?).getD undef)
  | [],vs,i,f,g,hl,_,hf,_,t=>by
    have:vs=[]:=List.length_eq_zero_iff.1 hl.symm
    subst this;simpa [Fr.args] using hf t
  | A::As,[],i,f,g,hl,_,_,_,t=>by simp at hl
  | A::As,v::vs,i,f,g,hl,hA,hf,hi,t=>by
    have h0:=hA 0 A v rfl rfl
    have:=zeF (P:=P) hidk (As:=As) (vs:=vs) (i:=i+1) (f:=f.set i A) (g:=fun t=>if t=i then v else g t) yaD (fun j B u h1 h2=>hA (j+1) B u (by simpa using h1) (by simpa using h2))
      (fun t=>by
        rw[zan];by_cases e:t=i
        . rw[ut e,ut ya,ut e];exact h0 t
        rw[ur e];have h2:=hf t;by_cases c:t<i
        . rw[ut ya,ur e];rwa [ut c] at h2
        rw[ur ya];rwa [ur c] at h2)
      (fun t ht=>by rw[zan,ur ya];exact hi t ya) t
    have e2:(if t<i+1 then (if t=i then v else g t) else (vs[t-(i+1)]?).getD undef)=if t<i then g t else ((v::vs)[t-i]?).getD undef:=by
      by_cases c:t<i
      . rw[ut ya,ur ya,ut c]
      by_cases e:t=i
      . rw[ut ya,ut e,ur c,e,Nat.sub_self];rfl
      rw[ur ya,ur c]
      have:t-i=(t-(i+1))+1:=ya
      rw[this];rfl
    rw[<-e2];exact this
theorem zbJ.spec {ext:Nat->Prop}:∀{As:List AV} {vs:List Value},zbJ ext w As vs->As.length=vs.length/\∀(j:Nat) (A:AV) (v:Value),As[j]?=some A->vs[j]?=some v->A.rel ρ0 noN ext noN w v
  | [],[],_=>⟨rfl,fun j A v h=>by simp at h⟩
  | A::As,v::vs,h=>by
    obtain⟨h1,h2⟩:=zbJ.spec h.2;refine⟨by simp[h1],fun j B u hb hu=>?_⟩;cases j with
    | zero=>simp at hb hu;subst hb;subst hu;exact h.1
    | succ j=>exact h2 j B u (by simpa using hb) (by simpa using hu)
  | [],_::_,h=>h.elim
  | _::_,[],h=>h.elim
theorem zcA {P:Program} {fn:Func} {R:Ending->World->Prop} {a:Act} {w:World} {v:Value} (h1:a.defers=[]) (h2:(results fn a.tmps).run P w = .ok v w) (h3:R (.returned v) w):bodyPostM Fence.wide 0 P fn R .ret a w:=by
  show LeavesInM Fence.wide 0 P fn a.tmps R a.defers .returning w;rw[h1];exact⟨v,h2,h3⟩
theorem zg8 {P:Program} {fn:Func} {R:Ending->World->Prop} {a:Act} {w w':World} {D:Nat} (h1:a.defers=[{ target:=.collected D,args:=#[] }]) (h2:(Instr.takeDeferred D).run P w = .ok [] w') (h3:bodyPostM Fence.wide 0 P fn R .ret { a with defers:=[] } w'):bodyPostM Fence.wide 0 P fn R .ret a w:=by
  show LeavesInM Fence.wide 0 P fn a.tmps R a.defers .returning w;rw[h1];exact⟨by simp,.inl ⟨D,w',rfl,h2,h3⟩⟩
theorem ze0 {P:Program} {f:FuncId} {fn:Func} {c:Code} {args:Array Value} {w:World} {R:Ending->World->Prop} (hf:P.funcs[f]?=some fn) (hb:fn.body=some c)
    (h:c.wpIn Fence.wide 0 P (bodyPostM Fence.wide 0 P fn R) { tmps:=args++Array.replicate (fn.ntmps-args.size) undef,defers:=[] } w):Calls P f args w R :=
  callsIn_wide.1 (callsIn_of_wp_marks hf hb trivial h)
def Job.of (P:Program) (fn:Func) (res:AV) (ext:Nat->Prop) (w:World) (h:∀b,ext b->b<w.heap.size):Job :=
  { P,fn,w0:=w,ext,gr:=fun _=>False,kg:=0,ρg:=ρ0,dj:=fun _ _ h=>h,nt:=fn.ntmps,R:=za8 ext (fun _=>False) w res,rd:=none,ds:=[],bg:=[],bn:=0,bgb:=fun p hp=>(nomatch hp),post:=bodyPostM Fence.wide 0 P fn (za8 ext (fun _=>False) w res),nrm:=fun _ _ _ h=>h,fin:=fun _ _ _ _ h1 h2 _ h3=>zcA h1 h2 h3,mark:=fun _ _ _ _ _ h1 h2 h3=>zg8 h1 h2 h3,lt:=h }
theorem zc {P:Program} {f:FuncId} {fn:Func} {c:Code} {As:List AV} {res:AV} (hf:P.funcs[f]?=some fn) (hb:fn.body=some c) (hn:Nat.ble As.length fn.ntmps=true) (hu:As.all AV.under0=true)
    (H:∀(ext:Nat->Prop) (w:World) (h:∀b,ext b->b<w.heap.size),AW (Job.of P fn res ext w h) 0 (Fr.args 0 As Fr.none) Hp.none [.code c]):Tells P f As res:=by
  intro ext w vs hext ha;obtain⟨hl,hrel⟩:=ha.spec;have hn:As.length<=fn.ntmps:=ycc;have hu:∀A∈As,A.under 0:=fun A hA=>AV.under0_spec (all_eq_true.1 hu A hA)
  refine Calls.mono (R:=za8 ext (fun _=>False) w res) ?_ (fun _ _ h=>za8.pure h);refine ze0 hf hb ?_;have hNN:∀b,Nn (fun _=>undef) Hp.none b->False:=fun b ⟨n,hl,_⟩=>hl
  have k:Keeps ext noN w (Uu (Job.of P fn res ext w hext) ρ0 Hp.none) (Nn ρ0 Hp.none) w:=⟨fun _ h=>h.elim,ug _,fun _ _ _=>rfl,fun b _ h=>h.elim id (fun h=>(hNN b h).elim),fun b _ h=>(hNN b h).elim⟩
  have hfr:=zeF (P:=fun _ A v=>A.rel ρ0 (Job.of P fn res ext w hext).B (Uu (Job.of P fn res ext w hext) ρ0 Hp.none) (Nn ρ0 Hp.none) w v/\A.under 0) (fun _ _=>⟨trivial,trivial⟩) (i:=0) (f:=Fr.none) (g:=fun _=>undef) hl
    (fun j A v h1 h2 _=>by
      have hu':=hu A (ud h1);exact⟨AV.rel_mono k hu' (AV.rel_B hu' (hrel j A v h1 h2)),hu'⟩) (fun t=>⟨trivial,trivial⟩) (fun _ _=>rfl)
  refine H ext w hext _ w ⟨ρ0,{ kle:=ug _,ble:=uf _,brel:=fun q hq=>(nomatch hq),named:=fun _ _=>rfl,below:=BelowX.refl _ _,hrel:=fun _=>trivial,hun:=fun _=>trivial,hnx:=fun _ _=>rfl,new:=fun n b hl _=>hl.elim,inj:=fun n m b hl=>hl.elim,size:=?_,defers:=rfl,frel:=fun t=>?_,fnx:=fun t=>(hfr t).2 }⟩
  . show(vs.toArray++_).size=fn.ntmps
    simp;omega
  have e : (vs.toArray ++ Array.replicate (fn.ntmps - vs.toArray.size) undef).getD t undef = (vs[t]?).getD undef := by
    rw[Array.getD_eq_getD_getElem?,Array.getElem?_append];by_cases c:t<vs.toArray.size
    . rw[ut c];simp
    rw[ur c];have hv:vs[t]?=none:=ybP;rw[hv,Array.getElem?_replicate]
    split<;>rfl
  rw[e];have h1:=(hfr t).1;rw[ur (Nat.not_lt_zero t),Nat.sub_zero] at h1;exact h1
def zfC (J:Job) (hp:Hp) (X A:AV):Prop:=∀nx ρ w v,SimH J nx ρ hp w->X.rel ρ J.B (Uu J ρ hp) (Nn ρ hp) w v->A.rel ρ0 J.B J.ext J.ext w v
theorem zkK (s:SimH J nx ρ hp w):Keeps (Uu J ρ hp) (Uu J ρ hp) w J.ext J.ext w:=⟨fun _ h=>h,ug _,fun _ _ _=>rfl,fun _ _ h=>.inl h,fun _ _ h=>.inl h⟩
theorem zdf [Strict T] {X:AV} {x:α} (h:X = .val T x):zfC J hp X (.val T x):=fun _ _ _ _ s hx=>by
  subst h;exact GoT.val_mono (zkK s) (GoT.val_strict hx)
theorem za [Strict T] {X:AV} {x y:α} (h:X = .val T x) (e:x=y):zfC J hp X (.val T y):=e▸zdf h
theorem zid {X:AV} {v:Value} (h:X = .lit v):zfC J hp X (.lit v):=fun _ _ _ _ s hx=>by
  subst h;exact hx
theorem zd5 [Strict T] {X:AV} {n e:Nat} {l:List α} (h:X = .own n) (hn:hp n = .row e T l):zfC J hp X (.fresh e T l):=fun nx ρ w v s hx=>by
  subst h;have hh:=s.hrel n;rw[hn] at hh;obtain⟨xs,ho,hr⟩:=hh;have hx:_=_:=hx;rw[hx];refine⟨xs,ho,fun b hb=>?_,(hr.strict (N':=Uu J ρ hp)).mono ⟨fun _ h=>h,ug _,fun _ _ _=>rfl,fun b _ h=>h.imp id (fun h=>⟨n,by rw[hn];trivial,h⟩),fun b _ h=>h.imp id (fun h=>⟨n,by rw[hn];trivial,h⟩)⟩⟩;exact s.new n b (by rw[hn];trivial) hb
theorem zf [Strict T] {X:AV} {n e:Nat} {l l':List α} (h:X = .own n) (hn:hp n = .row e T l) (hl:l=l'):zfC J hp X (.fresh e T l'):=hl▸zd5 h hn
theorem zs {X:AV} {e:Nat} (h:X = .lit (.slice none 0 0)):zfC J hp X (.fresh e T []):=fun _ _ _ _ s hx=>by
  subst h;have hx:_=_:=hx;rw[hx];exact⟨[],⟨by simp,.inl ⟨rfl,rfl⟩⟩,fun b hb=>by simp[zaH] at hb,rfl⟩
theorem zic [Strict T] {X:AV} {n e:Nat} {l:List α} (h:X = .own n) (hn:hp n = .row e T l):zfC J hp X (.val (sl T) l):=fun nx ρ w v s hx=>by
  subst h;have hh:=s.hrel n;rw[hn] at hh;obtain⟨xs,ho,hr⟩:=hh;have hx:_=_:=hx;rw[hx];refine zfL (b:=false) ho rfl ((hr.strict (N':=Uu J _ hp)).mono (zkK s)) (fun g hg he=>?_);have h1:=J.lt g he;rcases (s.new n g (by rw[hn];trivial) hg).1 with h2|h2
  . omega
  exact J.dj g he h2
theorem zdH {X:AV} (h:X = .lit (.slice none 0 0)):zfC J hp X (.val (sl T) []):=fun _ _ _ _ s hx=>by
  subst h;have hx:_=_:=hx;rw[hx];exact⟨_,⟨none,0,rfl,ug _,by unfold maxLen;omega,fun h=>absurd rfl h⟩,.inr ⟨rfl,rfl⟩⟩
theorem ar_ret1 {t:Tmp} {A:AV} (hR:J.R=za8 J.ext J.gr J.w0 A) (hfn:J.fn.results = #[.tmp t]) (h:zfC J hp (fr t) A) (hds:J.ds=[]/\J.rd=none:=by exact⟨rfl,rfl⟩):AR J nx fr hp:=by
  intro a w ⟨ρ,s⟩;refine xa ?_;rw[hR];exact⟨s.below,h _ _ _ _ s.toSimH (s.frel t)⟩
theorem zb {t:Tmp} {A:AV} (hR:J.R=za8 J.ext J.gr J.w0 A) (hfn:J.fn.results = #[.tmp t]) (h:zfC J hp (fr t) A) (hds:J.ds=[]/\J.rd=none:=by exact⟨rfl,rfl⟩):AW J nx fr hp (.code .ret::k):=zaA (ar_ret1 hR hfn h hds)
theorem zj2 {t u:Tmp} {A B:AV} (hR:J.R=za8 J.ext J.gr J.w0 (.tup2 A B)) (hfn:J.fn.results = #[.tmp t,.tmp u]) (h:zfC J hp (fr t) A) (h':zfC J hp (fr u) B) (hds:J.ds=[]/\J.rd=none:=by exact⟨rfl,rfl⟩):AR J nx fr hp:=by
  intro a w ⟨ρ,s⟩;refine J.fin hds.2 _ _ _ (s.defers.trans hds.1) (results_tmp2 hfn _ _ _) s.below ?_;rw[hR];exact⟨s.below,_,_,rfl,h _ _ _ _ s.toSimH (s.frel t),h' _ _ _ _ s.toSimH (s.frel u)⟩
theorem zG {t u:Tmp} {A B:AV} (hR:J.R=za8 J.ext J.gr J.w0 (.tup2 A B)) (hfn:J.fn.results = #[.tmp t,.tmp u]) (h:zfC J hp (fr t) A) (h':zfC J hp (fr u) B) (hds:J.ds=[]/\J.rd=none:=by exact⟨rfl,rfl⟩):AW J nx fr hp (.code .ret::k):=zaA (zj2 hR hfn h h' hds)
theorem ar_ret3 {t u v:Tmp} {A B C:AV} (hR:J.R=za8 J.ext J.gr J.w0 (.tup3 A B C)) (hfn:J.fn.results = #[.tmp t,.tmp u,.tmp v]) (h:zfC J hp (fr t) A) (h':zfC J hp (fr u) B) (h'':zfC J hp (fr v) C) (hds:J.ds=[]/\J.rd=none:=by exact⟨rfl,rfl⟩):AR J nx fr hp:=by
  intro a w ⟨ρ,s⟩;have hres:(results J.fn a.tmps).run J.P w = .ok (.tuple #[a.tmps.getD t undef,a.tmps.getD u undef,a.tmps.getD v undef]) w:=by simp[results,hfn]
  refine J.fin hds.2 _ _ _ (s.defers.trans hds.1) hres s.below ?_;rw[hR];exact⟨s.below,_,_,_,rfl,h _ _ _ _ s.toSimH (s.frel t),h' _ _ _ _ s.toSimH (s.frel u),h'' _ _ _ _ s.toSimH (s.frel v)⟩
theorem zdM {t u v:Tmp} {A B C:AV} (hR:J.R=za8 J.ext J.gr J.w0 (.tup3 A B C)) (hfn:J.fn.results = #[.tmp t,.tmp u,.tmp v]) (h:zfC J hp (fr t) A) (h':zfC J hp (fr u) B) (h'':zfC J hp (fr v) C) (hds:J.ds=[]/\J.rd=none:=by exact⟨rfl,rfl⟩):AW J nx fr hp (.code .ret::k):=zaA (ar_ret3 hR hfn h h' h'' hds)
end
end Go.Ab
namespace Go.Ab
open Go.RowKit
section
variable {J:Job} {hp:Hp} {ops:Array Oper} {md:Region.Mode}
def zcG (ops:Array Oper) (o:Oper) (fr:Fr) (b:Bool):Prop :=
  match o.guard with
  | none=>b=true
  | some (j,want)=>∃oj t,ops[j]?=some oj/\oj.dst=some t/\((∃c,fr t = .val zo c/\b=(c==want))\/(fr t = .lit undef/\b=false))
structure YieldA (J:Job) (hp:Hp) (ops:Array Oper) (o:Oper) (x:AV) (fr:Fr):Prop where
  dst:∃d,o.dst=some d/\d<J.nt/\∀b j t oj,o.guard=some (j,b)->ops[j]?=some oj->oj.dst=some t->t<J.nt
  out:(zcG ops o fr true/\OpG J o fr hp x)\/(zcG ops o fr false/\x = .lit undef)
def Fr.put (fr:Fr) (d:Option Tmp) (x:AV):Fr:=match d with | .some d=>fr.set d x | .none=>fr
def qA (J:Job) (hp:Hp) (ops:Array Oper) (i:Nat) (K:Fr->Prop) (fr:Fr):Prop :=
  match ops[i]? with
  | none=>K fr
  | some o=>∃x,YieldA J hp ops o x fr/\K (fr.put o.dst x)
def anyA (J:Job) (hp:Hp) (md:Region.Mode) (ops:Array Oper) (Q:Fr->Prop):Nat->Array Bool->Fr->Prop
  | 0,listed,fr=>Region.ready md ops listed=[]/\Q fr
  | fuel+1,listed,fr=>(Region.ready md ops listed=[]->Q fr)/\∀i∈Region.ready md ops listed,qA J hp ops i (anyA J hp md ops Q fuel (listed.setIfInBounds i true)) fr
theorem qA_mono {i:Nat} {fr:Fr} {K K':Fr->Prop} (h:∀fr,K fr->K' fr) (hh:qA J hp ops i K fr):qA J hp ops i K' fr:=by
  unfold qA at *
  split
  . rename_i e;rw[e] at hh;exact h _ hh
  rename_i o e;rw[e] at hh;obtain⟨x,hy,hk⟩:=hh;exact⟨x,hy,h _ hk⟩
theorem zdF {nx:Nat} {ρ:Nat->Value} {fr:Fr} {a:Act} {w:World} {o:Oper} {b:Bool} (s:SimR J nx ρ fr hp a w) (h:zcG ops o fr b) (hd:∀c j t oj,o.guard=some (j,c)->ops[j]?=some oj->oj.dst=some t->t<J.nt) :
    Region.wanted o (yielded ops a.tmps)=b:=by
  unfold zcG at h
  split at h
  . rename_i e;simp[Region.wanted,e,h]
  rename_i j want e;obtain⟨oj,t,h1,h2,⟨c,h3,rfl⟩|⟨h3,rfl⟩⟩:=h
  . exact znl s e h1 h2 h3 (by simpa using hd want j t oj e h1 h2)
  exact zno s e h1 h2 h3 (by simpa using hd want j t oj e h1 h2)
theorem znf {Q:Fr->Prop} {Q':Exit->Act->World->Prop} {nx:Nat} (hQ:∀fr a w,Sim J nx fr hp a w->Q fr->Q' .normal a w):∀(fuel:Nat) (listed:Array Bool) (fr:Fr) (a:Act) (w:World),Sim J nx fr hp a w->
    anyA J hp md ops Q fuel listed fr->wpAnyIn J.F 0 J.P md ops Q' fuel listed a w
  | 0,_,_,_,_,s,h=>⟨h.1,hQ _ _ _ s h.2⟩
  | fuel + 1, listed, fr, a, w, s, h => ⟨fun h0 => hQ _ _ _ s (h.1 h0), fun i hi => by
      have h1:=h.2 i hi;unfold qA at h1;unfold wpOpIn
      split
      . rename_i e;rw[e] at h1;exact znf hQ fuel _ fr a w s h1
      rename_i o e;rw[e] at h1;obtain⟨x,hy,hk⟩:=h1;obtain⟨ρ,s'⟩:=s;obtain⟨d,hd,hlt,hgd⟩:=hy.dst;rw[hd] at hk;rcases hy.out with ⟨hw,hg⟩|⟨hw,rfl⟩
      . rw[zdF s' hw hgd,ut rfl]
        refine opIn hg.nd (hg.run s'.toSimH (fun y _=>zak s' y) (fun y _=>zbH s'.fnx y) fun v w' hb hx=>?_);rw[hd];exact znf hQ fuel _ _ _ _ ⟨ρ,(s'.later hb).put hlt hx (hg.und s'.hbelow (fun y _=>zbH s'.fnx y))⟩ hk
      rw[zdF s' hw hgd,ur yw,hd];exact⟨fun _ _=>trivial,znf hQ fuel _ _ _ _ ⟨ρ,s'.put (x:=.lit undef) hlt rfl trivial⟩ hk⟩⟩
theorem ev_put {fr:Fr} {d:Option Tmp} {x:AV} {y:Operand} (h:∀e,d=some e->y≠.tmp e):(fr.put d x).ev y=fr.ev y:=by
  cases d with
  | none=>rfl
  | some e =>
    cases y with
    | tmp t =>
      show(fr.set e x) t=fr t;rw[zan,ur (fun he=>h e rfl (by rw[he]))]
    | _=>rfl
theorem put_comm {fr:Fr} {d e:Option Tmp} {x y:AV} (h:∀t,d=some t->e≠some t):(fr.put d x).put e y=(fr.put e y).put d x:=by
  cases d with
  | none=>rfl
  | some d =>
    cases e with
    | none=>rfl
    | some e =>
      have hne:d≠e:=fun he=>h d rfl (he▸rfl)
      funext t
      show(fr.set d x).set e y t=(fr.set e y).set d x t;rw[zan,zan,zan,zan];by_cases h1:t=e<;>by_cases h2:t=d
      . exact absurd (h2.symm.trans h1) hne
      . rw[ut h1,ur h2,ut h1]
      . rw[ur h1,ut h2,ut h2]
      rw[ur h1,ur h2,ur h2,ur h1]
theorem OpG.congr {o:Oper} {fr fr':Fr} {x:AV} (h:OpG J o fr hp x) (he:∀y∈o.op.operands,fr'.ev y=fr.ev y):OpG J o fr' hp x where
  run s hr hn _ _ hK:=h.run s (fun y hy=>by rw[<-he y hy];exact hr y hy) (fun y hy=>by rw[<-he y hy];exact hn y hy) hK
  und hx hn:=h.und hx (fun y hy=>by rw[<-he y hy];exact hn y hy)
  nd:=h.nd
theorem YieldA.congr {o:Oper} {x:AV} {fr:Fr} {d:Option Tmp} {z:AV} (hl:∀e,d=some e->e∉o.looksAt ops) (h:YieldA J hp ops o x fr):YieldA J hp ops o x (fr.put d z):=by
  have he:∀y∈o.op.operands,(fr.put d z).ev y=fr.ev y:=fun y hy=>ev_put fun e hd hye=>hl e hd (by
    subst hye;exact List.mem_append_left _ (List.mem_filterMap.2 ⟨.tmp e,by simpa using hy,rfl⟩))
  have hw:∀b,zcG ops o fr b->zcG ops o (fr.put d z) b:=fun b hb=>by
    unfold zcG at *
    split
    . rename_i e;rw[e] at hb;exact hb
    rename_i j want e;rw[e] at hb;obtain⟨oj,t,h1,h2,h3⟩:=hb;refine⟨oj,t,h1,h2,?_⟩;cases d with
    | none=>exact h3
    | some d =>
      show(∃c,(fr.set d z) t=_/\_)\/((fr.set d z) t=_/\_);rw[zan,ur (fun e'=>hl d rfl ?_)]
      . exact h3
      refine List.mem_append_right _ ?_;rw[e];simp[h1,h2,e']
  exact⟨h.dst,h.out.imp (fun ⟨a,b⟩=>⟨hw _ a,b.congr he⟩) (fun ⟨a,b⟩=>⟨hw _ a,b⟩)⟩
theorem YieldA.uncongr {o:Oper} {x:AV} {fr:Fr} {d:Option Tmp} {z:AV} (hl:∀e,d=some e->e∉o.looksAt ops) (h:YieldA J hp ops o x (fr.put d z)):YieldA J hp ops o x fr:=by
  cases d with
  | none=>exact h
  | some d =>
    have e:(fr.put (some d) z).put (some d) (fr d)=fr:=by
      funext t
      show((fr.set d z).set d (fr d)) t=fr t;rw[zan,zan];by_cases c:t=d
      . rw[ut c,c]
      rw[ur c,ur c]
    have:=h.congr (d:=some d) (z:=fr d) hl
    rwa [e] at this
theorem qA_put {j:Nat} {oi oj:Oper} {v:AV} (hj:ops[j]?=some oj) (hap:oi.apart ops oj=true) {K:Fr->Prop} {fr:Fr}
    (hy:YieldA J hp ops oi v fr) (h:qA J hp ops j K (fr.put oi.dst v)):qA J hp ops j (fun fr'=>YieldA J hp ops oi v fr'/\K (fr'.put oi.dst v)) fr:=by
  obtain⟨h1,h2,h3⟩:=Oper.apart_spec hap;unfold qA at *;rw[hj] at h ⊢;obtain⟨x,hx,hk⟩:=h;exact⟨x,hx.uncongr h1,hy.congr h3,by rw[<-put_comm h2];exact hk⟩
theorem anyA_first {Q:Fr->Prop} {i:Nat} {oi:Oper} {v:AV} (hi:ops[i]?=some oi) :
    ∀(fuel:Nat) (listed:Array Bool) (fr:Fr),
      (∀j oj,ops[j]?=some oj->j≠i->listed.getD j true=false->(∀e∈oj.after,Region.binds md e=true->e.on≠i)->oi.apart ops oj=true)->
      i∈Region.ready md ops listed->YieldA J hp ops oi v fr->anyA J hp md ops Q fuel (listed.setIfInBounds i true) (fr.put oi.dst v)->anyA J hp md ops Q (fuel+1) listed fr:=by
  intro fuel
  induction fuel with
  | zero =>
    intro listed fr _ hr hy H;refine⟨fun h=>(by rw[h] at hr;cases hr),fun j hj=>?_⟩;by_cases hji:j=i
    . subst hji;unfold qA;rw[hi];exact⟨v,hy,H⟩
    have:=ready_mono hj hji
    rw[H.1] at this;cases this
  | succ fuel ih =>
    intro listed fr hfree hr hy H;refine⟨fun h=>(by rw[h] at hr;cases hr),fun j hj=>?_⟩;by_cases hji:j=i
    . subst hji;unfold qA;rw[hi];exact⟨v,hy,H⟩
    have h1:=H.2 j (ready_mono hj hji);obtain⟨hjun,oj,hoj,hall⟩:=mem_ready.1 hj;have hnot:∀e∈oj.after,Region.binds md e=true->e.on≠i:=fun e he hb heq=>by
      have h1:=hall e he hb;have h0:=(mem_ready.1 hr).1;rw[heq] at h1;rcases Nat.lt_or_ge i listed.size with h'|h'
      . simp[h'] at h0 h1;rw[h0] at h1;cases h1
      simp[Array.getElem?_eq_none h'] at h1
    have h2:=qA_put hoj (hfree j oj hoj hji hjun hnot) hy h1
    have hfree' : ∀ k ok, ops[k]? = some ok -> k ≠ i -> (listed.setIfInBounds j true).getD k true = false ->
        (∀e∈ok.after,Region.binds md e=true->e.on≠i)->oi.apart ops ok=true:=fun k ok hk hki hun hno=>by
      refine hfree k ok hk hki ?_ hno;by_cases hjk:j=k
      . subst hjk;exact hjun
      rw[getD_set_ne true hjk] at hun;exact hun
    refine qA_mono (fun fr' h3=>ih (listed.setIfInBounds j true) fr' hfree' (ready_mono hr (Ne.symm hji)) h3.1 ?_) h2;rw[Array.setIfInBounds_comm _ _ hji];exact h3.2
inductive GRun (J:Job) (hp:Hp) (ops:Array Oper):List Oper->Fr->Fr->Prop
  | nil {fr}:GRun J hp ops [] fr fr
  | cons {o rest fr fr' x} (h:YieldA J hp ops o x fr) (H:GRun J hp ops rest (fr.put o.dst x) fr'):GRun J hp ops (o::rest) fr fr'
theorem zw1 {Q:Fr->Prop} {fr':Fr} (hQ:Q fr'):∀(l:List Oper) (k:Nat) (listed:Array Bool) (fr:Fr),(∀j,l[j]?=ops[k+j]?)->
    Region.lexFrom md ops l.length k listed=true->GRun J hp ops l fr fr'->anyA J hp md ops Q l.length listed fr
  | [],_,_,_,_,hB,h=>by cases h;exact⟨by simpa [Region.lexFrom] using hB,hQ⟩
  | o::l,k,listed,fr,hl,hB,h=>by
    have h0:ops[k]?=some o:=by simpa using (hl 0).symm
    simp only[length_cons,Region.lexFrom,uk] at hB;obtain⟨⟨hr,hf⟩,hB'⟩:=hB;cases h with
    | cons hy H =>
      exact anyA_first h0 l.length listed fr (Region.free_spec h0 hf) (by simpa using hr) hy
        (zw1 hQ l (k+1) _ _ (fun j=>by have:=hl (j+1);simpa [add_assoc,add_comm 1 j] using this) hB' H)
theorem aw_draw0 {nx:Nat} {fr fr':Fr} {k:List It} {id:Nat} {l:List Oper} (hm:J.P.follows .mixedOrders=true) (hB:Region.lexB .any l.toArray=true) (h:GRun J hp l.toArray l fr fr') (H:AW J nx fr' hp k) :
    AW J nx fr hp (.code (.region id l.toArray true)::k):=by
  intro a w ⟨ρ,s⟩;simp only[Region.lexB,uk] at hB;have s':SimR J nx ρ fr hp a { w with drawn:=w.drawn+1 }:=s.later ⟨⟨rfl,rfl,rfl,ug _,fun _ _=>rfl⟩,le_succ _⟩;refine wpIn_region_any hm (znf (J:=J) (hp:=hp) (nx:=nx) (Q:=fun f=>f=fr') (fun f a w s e=>by subst e;exact H a w s) _ _ fr a _ ⟨ρ,s'⟩ ?_)
  have:=zw1 (J:=J) (hp:=hp) (md:=.any) (Q:=fun f=>f=fr') rfl l 0 (Array.replicate l.toArray.size false) fr yw (by simpa using hB.2) h
  simpa using this
def GK (J:Job) (nx:Nat) (hp:Hp) (ops:Array Oper) (k:List It) (l:List Oper) (fr:Fr):Prop:=∃fr',GRun J hp ops l fr fr'/\AW J nx fr' hp k
theorem aw_draw {nx:Nat} {fr:Fr} {k:List It} {id:Nat} {l:List Oper} (hm:J.P.follows .mixedOrders=true) (hB:Region.lexB .any l.toArray=true) (h:GK J nx hp l.toArray k l fr) :
    AW J nx fr hp (.code (.region id l.toArray true)::k):=let ⟨_,h1,h2⟩:=h;aw_draw0 hm hB h1 h2
theorem GRun.g {o:Oper} {rest:List Oper} {fr fr':Fr} {x:AV} {d:Nat} (h:OpG J o fr hp x) (hd:o.dst=some d) (hg:o.guard=none) (hlt:Nat.blt d J.nt=true) (H:GRun J hp ops rest (fr.set d x) fr'):GRun J hp ops (o::rest) fr fr' :=
  .cons (x:=x) ⟨⟨d,hd,by simpa using hlt,fun b j t oj e=>by rw[hg] at e;cases e⟩,.inl ⟨by unfold zcG;rw[hg],h⟩⟩ yaO
theorem GRun.gi {o oj:Oper} {rest:List Oper} {fr fr':Fr} {x:AV} {d j t:Nat} {b want:Bool} (h:OpG J o fr hp x) (hd:o.dst=some d) (hg:o.guard=some (j,want)) (ho:ops[j]?=some oj) (hj:oj.dst=some t) (hv:fr t = .val zo b)
    (ht:Nat.blt t J.nt=true) (hw:b=want) (hlt:Nat.blt d J.nt=true) (H:GRun J hp ops rest (fr.set d x) fr'):GRun J hp ops (o::rest) fr fr' :=
  .cons (x:=x) ⟨⟨d,hd,by simpa using hlt,fun b' j' t' oj' e h1 h2=>by
    rw[hg] at e;cases e;rw[ho] at h1;cases h1;rw[hj] at h2;cases h2;simpa using ht⟩,.inl ⟨by unfold zcG;rw[hg];exact⟨oj,t,ho,hj,.inl ⟨b,hv,by rw[hw];cases want<;>rfl⟩⟩,h⟩⟩ yaO
theorem GRun.gn {o oj:Oper} {rest:List Oper} {fr fr':Fr} {d j t:Nat} {b want:Bool} (hd:o.dst=some d) (hg:o.guard=some (j,want)) (ho:ops[j]?=some oj) (hj:oj.dst=some t) (hv:fr t = .val zo b)
    (ht:Nat.blt t J.nt=true) (hw:(b==want)=false) (hlt:Nat.blt d J.nt=true) (H:GRun J hp ops rest (fr.set d (.lit undef)) fr'):GRun J hp ops (o::rest) fr fr' :=
  .cons (x:=.lit undef) ⟨⟨d,hd,by simpa using hlt,fun b' j' t' oj' e h1 h2=>by
    rw[hg] at e;cases e;rw[ho] at h1;cases h1;rw[hj] at h2;cases h2;simpa using ht⟩,.inr ⟨by unfold zcG;rw[hg];exact⟨oj,t,ho,hj,.inl ⟨b,hv,hw.symm⟩⟩,rfl⟩⟩ yaO
theorem GRun.gu {o oj:Oper} {rest:List Oper} {fr fr':Fr} {d j t:Nat} {want:Bool} (hd:o.dst=some d) (hg:o.guard=some (j,want)) (ho:ops[j]?=some oj) (hj:oj.dst=some t) (hv:fr t = .lit undef)
    (ht:Nat.blt t J.nt=true) (hlt:Nat.blt d J.nt=true) (H:GRun J hp ops rest (fr.set d (.lit undef)) fr'):GRun J hp ops (o::rest) fr fr' :=
  .cons (x:=.lit undef) ⟨⟨d,hd,by simpa using hlt,fun b' j' t' oj' e h1 h2=>by
    rw[hg] at e;cases e;rw[ho] at h1;cases h1;rw[hj] at h2;cases h2;simpa using ht⟩,.inr ⟨by unfold zcG;rw[hg];exact⟨oj,t,ho,hj,.inr ⟨hv,rfl⟩⟩,rfl⟩⟩ yaO
theorem GK.gu {nx:Nat} {k:List It} {o oj:Oper} {rest:List Oper} {fr:Fr} {d j t:Nat} {want:Bool} (hd:o.dst=some d) (hg:o.guard=some (j,want)) (ho:ops[j]?=some oj) (hj:oj.dst=some t) (hv:fr t = .lit undef)
    (ht:Nat.blt t J.nt=true) (hlt:Nat.blt d J.nt=true) (H:GK J nx hp ops k rest (fr.set d (.lit undef))):GK J nx hp ops k (o::rest) fr :=
  let ⟨f,h1,h2⟩:=H;⟨f,GRun.gu hd hg ho hj hv ht hlt h1,h2⟩
theorem GK.nil {nx:Nat} {k:List It} {fr:Fr} (h:AW J nx fr hp k):GK J nx hp ops k [] fr:=⟨fr,.nil,h⟩
theorem GK.g {nx:Nat} {k:List It} {o:Oper} {rest:List Oper} {fr:Fr} {x:AV} {d:Nat} (h:OpG J o fr hp x) (hd:o.dst=some d) (hg:o.guard=none) (hlt:Nat.blt d J.nt=true) (H:GK J nx hp ops k rest (fr.set d x)):GK J nx hp ops k (o::rest) fr :=
  let ⟨f,h1,h2⟩:=H;⟨f,GRun.g h hd hg hlt h1,h2⟩
theorem GK.gi {nx:Nat} {k:List It} {o oj:Oper} {rest:List Oper} {fr:Fr} {x:AV} {d j t:Nat} {b want:Bool} (h:OpG J o fr hp x) (hd:o.dst=some d) (hg:o.guard=some (j,want)) (ho:ops[j]?=some oj) (hj:oj.dst=some t) (hv:fr t = .val zo b)
    (ht:Nat.blt t J.nt=true) (hw:b=want) (hlt:Nat.blt d J.nt=true) (H:GK J nx hp ops k rest (fr.set d x)):GK J nx hp ops k (o::rest) fr :=
  let ⟨f,h1,h2⟩:=H;⟨f,GRun.gi h hd hg ho hj hv ht hw hlt h1,h2⟩
theorem GK.gn {nx:Nat} {k:List It} {o oj:Oper} {rest:List Oper} {fr:Fr} {d j t:Nat} {b want:Bool} (hd:o.dst=some d) (hg:o.guard=some (j,want)) (ho:ops[j]?=some oj) (hj:oj.dst=some t) (hv:fr t = .val zo b)
    (ht:Nat.blt t J.nt=true) (hw:(b==want)=false) (hlt:Nat.blt d J.nt=true) (H:GK J nx hp ops k rest (fr.set d (.lit undef))):GK J nx hp ops k (o::rest) fr :=
  let ⟨f,h1,h2⟩:=H;⟨f,GRun.gn hd hg ho hj hv ht hw hlt h1,h2⟩
end
end Go.Ab
namespace Go.Ab
open Go.RowKit
section
variable {J:Job} {nx:Nat} {fr:Fr} {hp:Hp} {k:List It} {ops:Array Oper} {rest:List Oper} {o:Oper}
variable {α Z:Type} {T:GoT α} {S:GoT Z} {get:α->Z} {set:α->Z->α}
def Next {ι:Type} (J:Job) (nx:Nat) (F:ι->Fr) (H:ι->Hp) (Inv:ι->Prop) (M:ι->Nat) (i:ι) (a:Act) (w:World):Prop:=∃j,Inv j/\M j<M i/\Sim J nx (F j) (H j) a w
theorem aw_loopI {c:Code} {ι:Type} (nxI:Nat) (hk:Nat.ble (max J.kg J.bn) nxI=true) (F:ι->Fr) (H:ι->Hp) (Inv:ι->Prop) (M:ι->Nat) (i0:ι) (h0:Inv i0) (hf:Fr.le (F i0) fr) (hh:Hp.le (H i0) hp) (bf:Fr.below_ nxI (F i0)) (bh:Hp.below_ nxI (H i0))
    (round:∀i,Inv i->AW J nxI (F i) (H i) (.code c :: .again (Next J nxI F H Inv M i)::k)):AW J nx fr hp (.code (.loop c)::k) :=
  aw_loop (n0:=M i0) (fun n a w=>∃i,Inv i/\M i=n/\Sim J nxI (F i) (H i) a w) (fun a w ⟨ρ,s⟩=>⟨i0,h0,rfl,ρ,s.weaken hk hf hh bf bh⟩)
    fun n a w ⟨i,hi,hm,s⟩=>by
      subst hm
      have:=round i hi a w s
      have e:(fun a w=>∃m,m<M i/\∃i,Inv i/\M i=m/\Sim J nxI (F i) (H i) a w)=Next J nxI F H Inv M i:=by
        funext a w
        exact propext ⟨fun ⟨m,h1,j,h2,h3,h4⟩=>⟨j,h2,by omega,h4⟩,fun ⟨j,h2,h3,h4⟩=>⟨M j,h3,j,h2,rfl,h4⟩⟩
      rw[e];exact this
theorem aw_next {ι:Type} {nxI:Nat} {F:ι->Fr} {H:ι->Hp} {Inv:ι->Prop} {M:ι->Nat} {i:ι} (j:ι) (h0:Inv j) (hm:M j<M i) (hk:Nat.ble (max J.kg J.bn) nxI=true) (hf:Fr.le (F j) fr) (hh:Hp.le (H j) hp) (bf:Fr.below_ nxI (F j)) (bh:Hp.below_ nxI (H j)) :
    AW J nx fr hp (.again (Next J nxI F H Inv M i)::k):=fun _ _ ⟨ρ,s⟩=>⟨j,h0,hm,ρ,s.weaken hk hf hh bf bh⟩
def Reach {ι:Type} (J:Job) (nx:Nat) (F:ι->Fr) (H:ι->Hp) (Inv:ι->Prop) (a:Act) (w:World):Prop:=∃j,Inv j/\Sim J nx (F j) (H j) a w
def znD:List It->Option (Nat×(Act->World->Prop))
  | []=>none
  | .inScope l T::_=>some (l,T)
  | _::k=>znD k
theorem Kont.goto (J:Job) {l:Nat} {T:Act->World->Prop}:∀{k:List It} {a:Act} {w:World},znD k=some (l,T)->T a w->Kont J k (.goto l) a w
  | [],_,_,h,_=>by simp[znD] at h
  | .code _::k,_,_,h,h'=>Kont.goto J (k:=k) h h'
  | .ops ..::k,_,_,h,h'=>Kont.goto J (k:=k) h h'
  | .again _::k,_,_,h,h'=>Kont.goto J (k:=k) h h'
  | .inBlock _::k,_,_,h,h'=>Kont.goto J (k:=k) h h'
  | .inScope _ _::k,_,_,h,h'=>by simp only[znD,Option.some.injEq,Prod.mk.injEq] at h;exact⟨h.1.symm,by rw[h.2];exact h'⟩
theorem zwO {c R:Code} {ι:Type} (nxI l:Nat) (hrd:J.rd=none) (hf:findLabel c l=some (.seq .skip R)) (hk:Nat.ble (max J.kg J.bn) nxI=true) (F:ι->Fr) (H:ι->Hp) (Inv:ι->Prop) (M:ι->Nat)
    (pass:∀i,Inv i->AW J nxI (F i) (H i) (.code R :: .inScope l (Next J nxI F H Inv M i)::k))
    (first:(∀i,Inv i->AW J nxI (F i) (H i) (.code R :: .inScope l (Reach J nxI F H Inv)::k))->AW J nx fr hp (.code c :: .inScope l (Reach J nxI F H Inv)::k)):AW J nx fr hp (.code (.scope c)::k):=by
  have hF:J.F=Fence.wide:=by unfold Job.F;rw[hrd];rfl
  have mono:∀{T T':Act->World->Prop},(∀a w,T a w->T' a w)->∀e a w,Kont J (.inScope l T::k) e a w->Kont J (.inScope l T'::k) e a w:=fun hT e a w h=>by
    cases e with
    | goto l'=>exact⟨h.1,hT a w h.2⟩
    | _=>exact h
  have toReach:∀i a w,Next J nxI F H Inv M i a w->Reach J nxI F H Inv a w:=fun i a w ⟨j,h1,_,h3⟩=>⟨j,h1,h3⟩
  intro a w s;show(Code.scope c).wpIn J.F 0 J.P (Kont J k) a w;rw[hF];refine wpIn_wide.2 ?_
  classical
  let I:Nat->Act->World->Prop:=fun n a w=>∃i,Inv i/\M i=n/\Sim J nxI (F i) (H i) a w
  let μ:Act->World->Nat:=fun a w=>if h:∃n,I n a w then (least h).choose else 0
  have hμ:∀n a w,I n a w->μ a w<=n/\I (μ a w) a w:=fun n a w h=>by
    have hex:∃n,I n a w:=⟨n,h⟩;have e:μ a w=(least hex).choose:=dif_pos hex;rw[e];exact⟨(least hex).choose_spec.2 n h,(least hex).choose_spec.1⟩
  refine wp_scope_jumps l (fun a w=>Reach J nxI F H Inv a w) μ hf ?_ ?_
  . have:=first (fun i hi a w s=>wpIn_mono (pass i hi a w s) (mono (toReach i))) a w s
    have:c.wpIn J.F 0 J.P (Exit.jump l (Reach J nxI F H Inv) (Kont J k)) a w:=this
    rw[hF] at this;exact wpIn_wide.1 this
  intro a w ⟨i0,h0,s0⟩;obtain⟨i,hi,hm,s1⟩:=(hμ (M i0) a w ⟨i0,h0,rfl,s0⟩).2
  have:(Code.seq .skip R).wpIn J.F 0 J.P (Exit.jump l (Next J nxI F H Inv M i) (Kont J k)) a w:=zgr (zlT (pass i hi)) a w s1
  rw[hF] at this;refine wpIn_wide.1 (wpIn_mono this fun e a' w' hq=>?_);cases e with
  | goto l' =>
    obtain⟨e1,j,hj,hlt,s2⟩:=hq;exact⟨e1,⟨j,hj,s2⟩,by have:=(hμ (M j) a' w' ⟨j,hj,rfl,s2⟩).1;omega⟩
  | _=>exact hq
theorem aw_goto {ι:Type} {nxI l:Nat} {F:ι->Fr} {H:ι->Hp} {Inv:ι->Prop} {M:ι->Nat} {i:ι} (j:ι) (hs:znD k=some (l,Next J nxI F H Inv M i)) (h0:Inv j) (hm:M j<M i) (hk:Nat.ble (max J.kg J.bn) nxI=true) (hf:Fr.le (F j) fr) (hh:Hp.le (H j) hp) (bf:Fr.below_ nxI (F j)) (bh:Hp.below_ nxI (H j)) :
    AW J nx fr hp (.code (.goto l)::k):=fun _ _ ⟨ρ,s⟩=>wpIn_goto (Kont.goto J hs ⟨j,h0,hm,ρ,s.weaken hk hf hh bf bh⟩)
theorem zwQ {R:Code} {ι:Type} {nxI l:Nat} {F:ι->Fr} {H:ι->Hp} {Inv:ι->Prop} {k':List It} (hp':∀i,Inv i->AW J nxI (F i) (H i) k') (j:ι) (hk':k' = .code R :: .inScope l (Reach J nxI F H Inv)::k) (h0:Inv j) (hk:Nat.ble (max J.kg J.bn) nxI=true) (hf:Fr.le (F j) fr) (hh:Hp.le (H j) hp) (bf:Fr.below_ nxI (F j)) (bh:Hp.below_ nxI (H j)) :
    AW J nx fr hp (.code (.label l) :: .code R :: .inScope l (Reach J nxI F H Inv)::k):=aw_label (by subst hk';exact zoQ (hp' j h0) hk hf hh bf bh)
theorem zct {t e:TypeId} {x y:Operand} {b:Bool} {l:List α} {i:Nat} {c:α} (ho:o.op = .indexAddr t x y) (hx:fr.ev x = .val (slT b T) l) (hy:fr.ev y = .val i64T (i:Int)) (hs:sliceB J.P t e T.size=true) (hc:l[i]?=some c):OpG J o fr hp (.rptr T c) :=
  g_ia_r ho hx hy hs ya (by simpa using hc)
theorem zl {c:Operand} {x y:Code} {b:Bool} {p:Prop} [Decidable p] (hc:fr.ev c = .val zo b) (hp':b=decide p) (ht:p->AW J nx fr hp (.code x::k)) (hf:¬p->AW J nx fr hp (.code y::k)):AW J nx fr hp (.code (.cond c x y)::k) :=
  aw_if hc (fun e=>ht (by rw[hp'] at e;exact of_decide_eq_true e)) (fun e=>hf (by rw[hp'] at e;exact of_decide_eq_false e))
end
end Go.Ab
namespace Go.Ab
open Go.RowKit
theorem zjR {fr:Fr} {d:Nat} {x:AV} (h:fr d=x):fr.set d x=fr:=by
  funext t
  rw[zan];by_cases e:t=d
  . rw[ut e,e,h]
  rw[ur e]
theorem split_ {Q:Fr->Prop} {fr:Fr} {d:Nat} {b:Bool} (h:fr d = .val zo b) (ht:b=true->Q (fr.set d (.val zo true))) (hf:b=false->Q (fr.set d (.val zo false))):Q fr:=by
  cases b with
  | true=>have:=ht rfl;rwa [zjR h] at this
  | false=>have:=hf rfl;rwa [zjR h] at this
section
variable {J:Job} {nx:Nat} {fr:Fr} {hp:Hp} {k:List It} {ops:Array Oper} {l:List Oper} {d:Nat} {b:Bool}
theorem zrJ (h:fr d = .val zo b) (ht:b=true->AW J nx (fr.set d (.val zo true)) hp k) (hf:b=false->AW J nx (fr.set d (.val zo false)) hp k):AW J nx fr hp k:=split_ (Q:=fun fr=>AW J nx fr hp k) h ht hf
theorem GK_split (h:fr d = .val zo b) (ht:b=true->GK J nx hp ops k l (fr.set d (.val zo true))) (hf:b=false->GK J nx hp ops k l (fr.set d (.val zo false))):GK J nx hp ops k l fr:=split_ h ht hf
theorem zX {p:Prop} [Decidable p] (h:fr d = .val zo b) (e:b=decide p) (ht:p->AW J nx (fr.set d (.val zo true)) hp k) (hf:¬p->AW J nx (fr.set d (.val zo false)) hp k):AW J nx fr hp k :=
  zrJ h (fun e'=>ht (by rw[e] at e';exact of_decide_eq_true e')) (fun e'=>hf (by rw[e] at e';exact of_decide_eq_false e'))
theorem zaj {p:Prop} [Decidable p] (h:fr d = .val zo b) (e:b=decide p) (ht:p->GK J nx hp ops k l (fr.set d (.val zo true))) (hf:¬p->GK J nx hp ops k l (fr.set d (.val zo false))):GK J nx hp ops k l fr :=
  GK_split h (fun e'=>ht (by rw[e] at e';exact of_decide_eq_true e')) (fun e'=>hf (by rw[e] at e';exact of_decide_eq_false e'))
theorem zf5 (h:fr d = .val zo b) (e:b=true) (ht:AW J nx (fr.set d (.val zo true)) hp k):AW J nx fr hp k:=zrJ h (fun _=>ht) (fun e'=>by rw[e] at e';cases e')
theorem zlc (h:fr d = .val zo b) (e:b=false) (ht:AW J nx (fr.set d (.val zo false)) hp k):AW J nx fr hp k:=zrJ h (fun e'=>by rw[e] at e';cases e') (fun _=>ht)
theorem zj {α:Type} {T:GoT α} {x y:α} (h:fr d = .val T x) (e:x=y) (H:AW J nx (fr.set d (.val T y)) hp k):AW J nx fr hp k:=by
  subst e;rwa [zjR h] at H
theorem zt {α:Type} {T:GoT α} {x y:α} {n ty:Nat} (h:hp n = .box ty T x) (e:x=y) (H:AW J nx fr (hp.set n (.box ty T y)) k):AW J nx fr hp k:=by
  subst e
  have:hp.set n (.box ty T x)=hp:=by
    funext t
    rw[zn];by_cases c:t=n
    . rw[ut c,c,h]
    rw[ur c]
  rwa [this] at H
theorem zq {α:Type} {T:GoT α} {x y:List α} {n ty:Nat} (h:hp n = .row ty T x) (e:x=y) (H:AW J nx fr (hp.set n (.row ty T y)) k):AW J nx fr hp k:=by
  subst e
  have:hp.set n (.row ty T x)=hp:=by
    funext t
    rw[zn];by_cases c:t=n
    . rw[ut c,c,h]
    rw[ur c]
  rwa [this] at H
theorem zx {α:Type} {T:GoT α} {t e:TypeId} {x y:Operand} {o:Oper} {b:Bool} {l:List α} {j:Int} {i:Nat} {c:α} (ho:o.op = .indexAddr t x y) (hx:fr.ev x = .val (slT b T) l) (hy:fr.ev y = .val i64T j) (hj:j=(i:Int)) (hs:sliceB J.P t e T.size=true) (hc:l[i]?=some c):OpG J o fr hp (.rptr T c) :=
  zct ho hx (hy.trans (by rw[hj])) hs hc
end
end Go.Ab
namespace Go.Ab
open Go.RowKit
structure XS where
  nx:Nat
  hp:Hp
section
variable {J:Job} {ops:Array Oper}
theorem OpG.agree {o:Oper} {hp:Hp} {fr fr':Fr} {x:AV} (h:OpG J o fr hp x) (ha:∀t∈o.looksAt ops,fr' t=fr t):OpG J o fr' hp x :=
  h.congr fun y hy=>by
    cases y with
    | tmp t=>exact ha t (List.mem_append_left _ (List.mem_filterMap.2 ⟨.tmp t,by simpa using hy,rfl⟩))
    | _=>rfl
theorem YieldA.agree {o:Oper} {hp:Hp} {fr fr':Fr} {x:AV} (h:YieldA J hp ops o x fr) (ha:∀t∈o.looksAt ops,fr' t=fr t):YieldA J hp ops o x fr':=by
  have hw:∀b,zcG ops o fr b->zcG ops o fr' b:=fun b hb=>by
    unfold zcG at *
    split
    . rename_i e;rw[e] at hb;exact hb
    rename_i j want e;rw[e] at hb;obtain⟨oj,t,h1,h2,h3⟩:=hb;refine⟨oj,t,h1,h2,?_⟩;rw[ha t (List.mem_append_right _ (by rw[e];simp[h1,h2]))];exact h3
  exact⟨h.dst,h.out.imp (fun ⟨a,b⟩=>⟨hw _ a,b.agree ha⟩) (fun ⟨a,b⟩=>⟨hw _ a,b⟩)⟩
def EffA (J:Job) (ops:Array Oper) (nx:Nat) (hp:Hp) (nx':Nat) (hp':Hp) (o:Oper) (x:AV) (fr:Fr):Prop :=
  ∀fr',(∀t∈o.looksAt ops,fr' t=fr t)->∀k,AW J nx' (fr'.put o.dst x) hp' k->AW J nx fr' hp (.ops ops [o]::k)
def win (m:Nat):Nat:=if 2000000<=m then (m-2000000)%1000 else if 1000000<=m then m-1000000 else m
def stAt (S':List XS) (c:Nat):XS:=(S'.reverse[c]?).getD ⟨0,Hp.none⟩
inductive XRun (J:Job) (ops:Array Oper):List (Option Nat)->List Oper->List XS->Fr->List AV->List Fr->List XS->Fr->Prop
  | nil {S fr}:XRun J ops [] [] S fr [] [] S fr
  | g {info o rest S fr xs fs S' fr' x m} (h:∀s∈S.take (win m),YieldA J s.hp ops o x fr) (hf:1000000<=m->∀c,S.length<=c->c<S'.length->(2000000<=m->c<S.length+(m-2000000)/1000)->YieldA J (stAt S' c).hp ops o x fr) (H:XRun J ops info rest S (fr.put o.dst x) xs fs S' fr'):XRun J ops (some m::info) (o::rest) S fr (x::xs) (fr::fs) S' fr'
  | e {info o rest s S fr xs fs S' fr' x nx' hp'} (h:EffA J ops s.nx s.hp nx' hp' o x fr) (H:XRun J ops info rest (⟨nx',hp'⟩::s::S) (fr.put o.dst x) xs fs S' fr'):XRun J ops (none::info) (o::rest) (s::S) fr (x::xs) (fr::fs) S' fr'
def effs (info:List (Option Nat)) (i:Nat):Nat:=((info.take i).filter (·.isNone)).length
def zcs (md:Region.Mode) (ops:Array Oper):Nat->Nat->Nat->Bool
  | 0,_,_=>false
  | f+1,j,i=>match ops[j]? with
    | none=>false
    | some o=>o.after.any fun e=>Region.binds md e&&(e.on==i||zcs md ops f e.on i)
def zmi (md:Region.Mode) (ops:Array Oper) (info:List (Option Nat)):Bool :=
  let n:=ops.size
  info.length==n &&
  (List.range n).all fun i=>match ops[i]?,info[i]? with
    | some o,some inf =>
      (inf.all fun m=>win m != 0)&&(o.after.all fun e=>!Region.binds md e||Nat.blt e.on i) &&
      (List.range i).all fun j=>match ops[j]?,info[j]? with
        | some oj,some infj=>zcs md ops n i j||(oj.apart ops o&&(match infj,inf with
          | some _,some _=>true
          | none,some m=>decide (effs info i<effs info j+win m)
          | some m,none=>Nat.ble 1000000 m&&(Nat.blt m 2000000||Nat.blt (effs info i) (effs info j+(m-2000000)/1000))
          | none,none=>false))
        | _,_=>false
    | _,_=>false
theorem XRun.len {info:List (Option Nat)} {l S fr xs fs S' fr'} (h:XRun J ops info l S fr xs fs S' fr'):xs.length=l.length/\fs.length=l.length/\info.length=l.length:=by
  induction h with
  | nil=>exact⟨rfl,rfl,rfl⟩
  | g _ _ _ ih=>simp[ih.1,ih.2.1,ih.2.2]
  | e _ _ ih=>simp[ih.1,ih.2.1,ih.2.2]
theorem zfY (info:List (Option Nat)):effs info 0=0:=rfl
theorem zgG (info:List (Option Nat)) (m i:Nat):effs (some m::info) (i+1)=effs info i:=by simp[effs]
theorem zjw (info:List (Option Nat)) (i:Nat):effs (none::info) (i+1)=effs info i+1:=by simp[effs]
theorem XRun.suffix {info:List (Option Nat)} {l S fr xs fs S' fr'} (h:XRun J ops info l S fr xs fs S' fr'):∃T,S'=T++S/\T.length=effs info info.length:=by
  induction h with
  | nil=>exact⟨[],rfl,rfl⟩
  | g _ _ _ ih=>obtain⟨T,h1,h2⟩:=ih;exact⟨T,h1,by rw[h2];simp[effs]⟩
  | e _ _ ih=>obtain⟨T,h1,h2⟩:=ih;exact⟨T++[⟨_,_⟩],by rw[h1,append_assoc];rfl,by simp[h2,effs]⟩
theorem st_mem {S':List XS} {n c:Nat} (h1:n<=c) (h2:c<S'.length):stAt S' c∈S'.take (S'.length-n):=by
  unfold stAt;rw[List.getElem?_reverse h2,ub ya];exact List.mem_take_iff_getElem.2 ⟨S'.length-1-c,by omega,rfl⟩
theorem zbP (T S:List XS) (c:Nat) (h:c<S.length):stAt (T++S) c=stAt S c:=by
  unfold stAt;rw[List.reverse_append,List.getElem?_append_left (by simpa using h)]
theorem zgN (s:XS) (S:List XS):stAt (s::S) S.length=s:=by
  unfold stAt;rw[List.reverse_cons,List.getElem?_append_right yw];simp
theorem XRun.at {info:List (Option Nat)} {l S fr xs fs S' fr'} (h:XRun J ops info l S fr xs fs S' fr') (hS:0<S.length):∀i o,l[i]?=some o->∃x f,xs[i]?=some x/\fs[i]?=some f/\
    ((∃m,info[i]?=some (some m)/\(∀c,c<S.length+effs info i->S.length+effs info i<=c+win m->YieldA J (stAt S' c).hp ops o x f)/\(1000000<=m->∀c,S.length+effs info i<=c->c<S'.length->(2000000<=m->c<S.length+effs info i+(m-2000000)/1000)->YieldA J (stAt S' c).hp ops o x f))\/
     (info[i]?=some none/\EffA J ops (stAt S' (S.length+effs info i-1)).nx (stAt S' (S.length+effs info i-1)).hp (stAt S' (S.length+effs info i)).nx (stAt S' (S.length+effs info i)).hp o x f)):=by
  induction h with
  | nil=>intro i o h;simp at h
  | g h hf H ih =>
    rename_i info o rest S fr xs fs S' fr' x m;intro i o' hi;cases i with
    | zero =>
      simp at hi;subst hi;refine⟨x,fr,rfl,rfl,.inl ⟨m,rfl,fun c h1 h2=>?_,fun hm c h1 h2 h3=>?_⟩⟩
      rotate_left
      . rw[zfY,Nat.add_zero] at h1 h3
        exact hf hm c h1 h2 h3
      rw[zfY,Nat.add_zero] at h1 h2;obtain⟨T,hT,_⟩:=H.suffix;rw[hT,zbP T S c h1];refine h _ ?_;unfold stAt;rw[List.getElem?_reverse h1];have hlt:S.length-1-c<S.length:=ya;rw[ub hlt];exact List.mem_take_iff_getElem.2 ⟨S.length-1-c,by omega,rfl⟩
    | succ i =>
      obtain⟨x',f',h1,h2,h3⟩:=ih hS i o' ybs;refine⟨x',f',by simpa using h1,by simpa using h2,?_⟩;rw[zgG];simpa using h3
  | e h H ih =>
    rename_i info o rest s S fr xs fs S' fr' x nx' hp';intro i o' hi;obtain⟨T,hT,_⟩:=H.suffix;cases i with
    | zero =>
      simp at hi;subst hi;refine⟨x,fr,rfl,rfl,.inr ⟨rfl,?_⟩⟩;rw[zfY,Nat.add_zero];have e1:stAt S' ((s::S).length-1)=s:=by
        rw[hT,zbP _ _ _ ybb];rw[show(⟨nx',hp'⟩:XS)::s::S=[⟨nx',hp'⟩]++(s::S) from rfl,zbP _ _ _ yw]
        have:=zgN s S
        simpa using this
      have e2:stAt S' (s::S).length=⟨nx',hp'⟩:=by
        rw[hT,zbP _ _ _ ybb];exact zgN _ _
      rw[e1,e2];exact h
    | succ i =>
      obtain⟨x',f',h1,h2,h3⟩:=ih yw i o' ybs;refine⟨x',f',by simpa using h1,by simpa using h2,?_⟩;rw[zjw];have e:(s::S).length+(effs info i+1)=((⟨nx',hp'⟩:XS)::s::S).length+effs info i:=yB;rw[e];simpa using h3
def Wr (ops:Array Oper) (i t:Nat):Prop:=∃o,ops[i]?=some o/\o.dst=some t
def InvF (ops:Array Oper) (X:Nat->AV) (f0:Fr) (L:Nat->Prop) (fr:Fr):Prop :=
  ∀t,(∃i,L i/\Wr ops i t/\(∀k,L k->Wr ops k t->k<=i)/\fr t=X i)\/((∀k,L k->¬Wr ops k t)/\fr t=f0 t)
theorem InvF.agree {X:Nat->AV} {f0 fr fr':Fr} {L L':Nat->Prop} {t:Nat} (h:InvF ops X f0 L fr) (h':InvF ops X f0 L' fr') (hl:∀k,Wr ops k t->(L k↔L' k)):fr t=fr' t:=by
  rcases h t with ⟨i,h1,h2,h3,h4⟩|⟨h1,h2⟩
  . rcases h' t with ⟨j,g1,g2,g3,g4⟩|⟨g1,_⟩
    . have:i=j:=Nat.le_antisymm (g3 i ((hl i h2).1 h1) h2) (h3 j ((hl j g2).2 g1) g2)
      rw[h4,g4,this]
    exact absurd h2 (g1 i ((hl i h2).1 h1))
  rcases h' t with ⟨j,g1,g2,_⟩|⟨_,g2⟩
  . exact absurd g2 (h1 j ((hl j g2).2 g1))
  rw[h2,g2]
theorem InvF.put {X:Nat->AV} {f0 fr:Fr} {L:Nat->Prop} {i:Nat} {o:Oper} (h:InvF ops X f0 L fr) (ho:ops[i]?=some o) (hm:∀t k,o.dst=some t->L k->Wr ops k t->k<=i):InvF ops X f0 (fun k=>L k\/k=i) (fr.put o.dst (X i)):=fun t=>by
  by_cases e:o.dst=some t
  . refine .inl ⟨i,.inr rfl,⟨o,ho,e⟩,fun k hk hw=>hk.elim (fun hk=>hm t k e hk hw) (fun hk=>by omega),?_⟩
    rw[e];show(fr.set t (X i)) t=X i;rw[zan,ut rfl]
  have ef : fr.put o.dst (X i) t = fr t := by
    cases hd:o.dst with
    | none=>rfl
    | some d =>
      show(fr.set d (X i)) t=fr t;rw[zan,ur (fun e'=>e (by rw[hd,e']))]
  have hn:∀k,k=i->¬Wr ops k t:=fun k hk ⟨o',h1,h2⟩=>by
    subst hk;rw[ho] at h1;injection h1 with h1;subst h1;exact e h2
  rw[ef];rcases h t with ⟨j,h1,h2,h3,h4⟩|⟨h1,h2⟩
  . exact .inl ⟨j,.inl h1,h2,fun k hk hw=>hk.elim (fun hk=>h3 k hk hw) (fun hk=>absurd hw (hn k hk)),h4⟩
  exact .inr ⟨fun k hk=>hk.elim (fun hk=>h1 k hk) (hn k),h2⟩
theorem XRun.frames {info:List (Option Nat)} {l S fr xs fs S' fr'} (h:XRun J ops info l S fr xs fs S' fr'):∀(k:Nat) (X:Nat->AV) (f0:Fr),(∀j,l[j]?=ops[k+j]?)->(∀j x,xs[j]?=some x->X (k+j)=x)->InvF ops X f0 (· < k) fr->
    (∀j f,fs[j]?=some f->InvF ops X f0 (· < k+j) f)/\InvF ops X f0 (· < k+l.length) fr':=by
  have key:∀{o:Oper} {rest:List Oper} {x:AV} {xs:List AV} {fr:Fr} (k:Nat) (X:Nat->AV) (f0:Fr),(∀j,(o::rest)[j]?=ops[k+j]?)->(∀j y,(x::xs)[j]?=some y->X (k+j)=y)->InvF ops X f0 (· < k) fr->InvF ops X f0 (· < k+1) (fr.put o.dst x):=by
    intro o rest x xs fr k X f0 hl hX hI;have h0:ops[k]?=some o:=by simpa using (hl 0).symm
    have hx:X k=x:=by simpa using hX 0 x rfl
    have:=hI.put h0 (fun t j _ hj _=>Nat.le_of_lt hj)
    rw[hx] at this;have e:(fun j=>j<k\/j=k)=(· < k+1):=ycd;rw[e] at this;exact this
  induction h with
  | nil=>intro k X f0 _ _ hI;exact⟨fun j f hj=>by simp at hj,hI⟩
  | g h _ H ih =>
    intro k X f0 hl hX hI;have h2:=key k X f0 hl hX hI;obtain⟨h3,h4⟩:=ih (k+1) X f0 (fun j=>by have:=hl (j+1);simpa [add_assoc,add_comm 1 j] using this) (fun j x hx=>by have:=hX (j+1) x (by simpa using hx);rw[<-this];congr 1;omega) h2;refine⟨fun j f hj=>?_,by simpa [add_assoc,add_comm 1] using h4⟩;cases j with
    | zero=>simp at hj;subst hj;exact hI
    | succ j=>have:=h3 j f (by simpa using hj);simpa [add_assoc,add_comm 1 j] using this
  | e h H ih =>
    intro k X f0 hl hX hI;have h2:=key k X f0 hl hX hI;obtain⟨h3,h4⟩:=ih (k+1) X f0 (fun j=>by have:=hl (j+1);simpa [add_assoc,add_comm 1 j] using this) (fun j x hx=>by have:=hX (j+1) x (by simpa using hx);rw[<-this];congr 1;omega) h2;refine⟨fun j f hj=>?_,by simpa [add_assoc,add_comm 1] using h4⟩;cases j with
    | zero=>simp at hj;subst hj;exact hI
    | succ j=>have:=h3 j f (by simpa using hj);simpa [add_assoc,add_comm 1 j] using this
def Closed (md:Region.Mode) (ops:Array Oper) (L:Nat->Bool):Prop:=∀i o,ops[i]?=some o->L i=true->∀e∈o.after,Region.binds md e=true->L e.on=true
theorem zeY {md:Region.Mode} {L:Nat->Bool} (hc:Closed md ops L):∀(f j i:Nat) (o:Oper),ops[j]?=some o->(∀e∈o.after,Region.binds md e=true->L e.on=true)->zcs md ops f j i=true->L i=true
  | 0,_,_,_,_,_,h=>by simp[zcs] at h
  | f+1,j,i,o,ho,hd,h=>by
    unfold zcs at h;rw[ho] at h;simp only[Array.any_eq_true] at h;obtain⟨x,hx,h⟩:=h;have hm:o.after[x]∈o.after:=Array.getElem_mem hx;simp only[uk,Bool.or_eq_true,beq_iff_eq] at h;obtain⟨hb,h|h⟩:=h
    . rw[<-h];exact hd _ hm hb
    have hl:=hd _ hm hb;cases ho':ops[(o.after[x]).on]? with
    | none =>
      cases f with
      | zero=>simp[zcs] at h
      | succ f=>unfold zcs at h;rw[ho'] at h;simp at h
    | some o'=>exact zeY hc f _ i o' ho' (hc _ o' ho' hl) h
theorem zoJ {md:Region.Mode} {info:List (Option Nat)} (h:zmi md ops info=true):info.length=ops.size/\∀i o,ops[i]?=some o->∃inf,info[i]?=some inf/\(∀m,inf=some m->win m≠0)/\
    (∀e∈o.after,Region.binds md e=true->e.on<i)/\
    ∀j oj infj,j<i->ops[j]?=some oj->info[j]?=some infj->zcs md ops ops.size i j=true\/(oj.apart ops o=true/\((∃m,inf=some m/\(infj=none->effs info i<effs info j+win m))\/(inf=none/\∃m,infj=some m/\1000000<=m))):=by
  unfold zmi at h;simp only[uk,beq_iff_eq,all_eq_true,mem_range] at h;refine⟨h.1,fun i o ho=>?_⟩;have hi:i<ops.size:=(Array.getElem?_eq_some_iff.1 ho).1;have h2:=h.2 i hi;obtain⟨inf,hinf⟩:∃inf,info[i]?=some inf:=yr;rw[ho,hinf] at h2;simp only[uk,Array.all_eq_true_iff_forall_mem,Bool.or_eq_true,Bool.not_eq_true',all_eq_true,mem_range] at h2;refine⟨inf,hinf,fun m hm=>by have:=h2.1.1;rw[hm] at this;simpa using this,fun e he hb=>?_,fun j oj infj hj hoj hij=>?_⟩
  . have:=(h2.1.2 e he).resolve_left (by simp[hb])
    simpa using this
  have h3:=h2.2 j hj;rw[hoj,hij] at h3;simp only[Bool.or_eq_true,uk] at h3;refine h3.imp id fun ⟨h4,h6⟩=>⟨h4,?_⟩
  cases inf with
  | none =>
    cases infj with
    | none=>cases h6
    | some m=>exact .inr ⟨rfl,m,rfl,Nat.le_of_ble_eq_true (Bool.and_eq_true_iff.1 h6).1⟩
  | some m =>
    refine .inl ⟨m,rfl,fun e=>?_⟩;subst e;simpa using h6
def Arr (listed:Array Bool) (i:Nat):Bool:=listed.getD i false
theorem zwd {listed:Array Bool} {i k:Nat} (hi:i<listed.size) (d:Bool):(listed.setIfInBounds i true).getD k d=if k=i then true else listed.getD k d:=by
  by_cases e:k=i
  . subst e;rw[ut rfl];simp[Array.getD,hi]
  rw[ur e]
  have:i≠k:=fun h=>e h.symm
  simp[Array.getD_eq_getD_getElem?,Array.getElem?_setIfInBounds,this]
theorem zhF {info:List (Option Nat)} {i j:Nat} (h:i<=j):effs info i<=effs info j:=by
  unfold effs;exact(List.Sublist.filter _ ((List.take_prefix_take_left h).sublist)).length_le
theorem zdq {info:List (Option Nat)} {i:Nat} {x:Option Nat} (h:info[i]?=some x):effs info (i+1)=effs info i+(if x.isNone then 1 else 0):=by
  unfold effs;rw[un,h];simp only[Option.toList_some,List.filter_append,ue,List.filter_cons,List.filter_nil]
  split<;>rfl
theorem zfe {info:List (Option Nat)}:∀{i q:Nat},q<effs info i->∃e,e<i/\info[e]?=some none/\effs info e=q
  | 0,q,h=>by rw[zfY] at h;omega
  | i+1,q,h=>by
    cases hx:info[i]? with
    | none =>
      have hl:info.length<=i:=by simpa using hx
      have:effs info (i+1)=effs info i:=by unfold effs;rw[uc ya,uc hl]
      rw[this] at h;obtain⟨e,h1,h2⟩:=zfe h;exact⟨e,by omega,h2⟩
    | some x =>
      rw[zdq hx] at h;by_cases c:q<effs info i
      . obtain⟨e,h1,h2⟩:=zfe c
        exact⟨e,by omega,h2⟩
      cases x with
      | none=>exact⟨i,by omega,hx,by simp at h;omega⟩
      | some m=>simp at h;omega
def cntU (L:Nat->Bool):Nat->Nat
  | 0=>0
  | n+1=>cntU L n+(if L n then 0 else 1)
theorem zts {L L':Nat->Bool}:∀{n:Nat},(∀k,k<n->L k=L' k)->cntU L n=cntU L' n
  | 0,_=>rfl
  | n+1,h=>by unfold cntU;rw[zts (fun k hk=>h k ya),h n ya]
theorem zrD {L L':Nat->Bool} {i:Nat} (h0:L i=false) (h1:L' i=true) (he:∀k,k≠i->L' k=L k):∀{n:Nat},i<n->cntU L' n+1=cntU L n
  | 0,h=>by omega
  | n+1,h=>by
    unfold cntU;by_cases c:i=n
    . subst c
      rw[h0,h1,zts (fun k hk=>he k ya)];simp
    have:=zrD h0 h1 he (n:=n) ya
    rw[he n ya];omega
theorem zoH {L:Nat->Bool}:∀{n:Nat},cntU L n=0->∀k,k<n->L k=true
  | 0,_,k,hk=>by omega
  | n+1,h,k,hk=>by
    unfold cntU at h;by_cases c:k=n
    . subst c
      cases e:L k with
      | true=>rfl
      | false=>rw[e] at h;simp at h
    exact zoH (L:=L) (n:=n) ya k ya
theorem zlo {o:Oper} {i:Nat} {k:List It} {T:Act->World->Prop} {a:Act} {w:World} (ho:ops[i]?=some o) (h:wpListIn J.F 0 J.P ops (Kont J (.again T::k)) [o] a w):wpOpIn J.F 0 J.P ops (Kont J k) i T a w:=by
  unfold wpOpIn;rw[ho];unfold wpListIn at h;have hs:∀{a w},wpListIn J.F 0 J.P ops (Kont J (.again T::k)) [] a w=T a w:=rfl;show if _ then _ else _
  split
  . rename_i hw
    rw[ut hw] at h;refine⟨h.1,?_⟩;have h:=h.2;generalize (Oper.semAt J.F.round a.eval o).run J.P w=r at h ⊢;cases r with
    | ok n w' =>
      cases n<;>simp only[Oper.uponIn] at h ⊢ <;>
        first
          | exact h
          | exact⟨h.1,CallsIn.mono h.2 (fun e w'' he=>by cases e<;>exact he)⟩
          | exact⟨h.1,RoundIn.mono h.2 (fun e w'' he=>by cases e<;>exact he)⟩
    | halt x w'=>cases x<;>simp only[Oper.uponIn] at h ⊢<;>exact h
  rename_i hw;rw[ur hw] at h;exact h
theorem zuQ {md:Region.Mode} {info:List (Option Nat)} (h:zmi md ops info=true) {i j m:Nat} {o oj:Oper} (hji:j<i) (ho:ops[i]?=some o) (hoj:ops[j]?=some oj) (hi:info[i]?=some none) (hj:info[j]?=some (some m)) (hm:2000000<=m):zcs md ops ops.size i j=true\/effs info i<effs info j+(m-2000000)/1000:=by
  unfold zmi at h;simp only[uk,beq_iff_eq,all_eq_true,mem_range] at h;have h2:=h.2 i (Array.getElem?_eq_some_iff.1 ho).1;rw[ho,hi] at h2;simp only[uk,Bool.or_eq_true,all_eq_true,mem_range] at h2;have h3:=h2.2 j hji;rw[hoj,hj] at h3;simp only[Bool.or_eq_true,uk] at h3;refine h3.imp id fun h4=>?_
  rcases h4.2.2 with h5|h5
  . have:m<2000000:=by simpa using h5
    omega
  simpa using h5
theorem any_conc2 {md:Region.Mode} {info:List (Option Nat)} {s0:XS} {f0 fr':Fr} {xs:List AV} {fs:List Fr} {S':List XS} {k:List It} (hc:zmi md ops info=true) (hr:XRun J ops info ops.toList [s0] f0 xs fs S' fr')
    (hQ:AW J (stAt S' (effs info info.length)).nx fr' (stAt S' (effs info info.length)).hp k) :
    ∀(fuel:Nat) (listed:Array Bool) (fr:Fr) (c:Nat) (a:Act) (w:World),listed.size=ops.size->Closed md ops (Arr listed)->InvF ops (fun i=>(xs[i]?).getD .idk) f0 (fun i=>Arr listed i=true) fr->
      (∀e,info[e]?=some none->(Arr listed e=true↔effs info e<c))->c<=effs info ops.size->cntU (Arr listed) ops.size<=fuel->Sim J (stAt S' c).nx fr (stAt S' c).hp a w->wpAnyIn J.F 0 J.P md ops (Kont J k) fuel listed a w:=by
  obtain⟨hlen,hck⟩:=zoJ hc;have hxl:=hr.len;obtain⟨hfs,hfin⟩:=hr.frames 0 (fun i=>(xs[i]?).getD .idk) f0 (fun j=>by simp) (fun j x hx=>by simp[hx]) (fun t=>.inr ⟨fun k hk=>by omega,rfl⟩)
  have hend : ∀ (listed : Array Bool) (fr : Fr) (c : Nat) (a : Act) (w : World), InvF ops (fun i => (xs[i]?).getD .idk) f0 (fun i => Arr listed i = true) fr -> (∀ e, info[e]? = some none -> (Arr listed e = true ↔ effs info e < c)) -> c <= effs info ops.size ->
      (∀k,k<ops.size->Arr listed k=true)->Sim J (stAt S' c).nx fr (stAt S' c).hp a w->Kont J k .normal a w:=fun listed fr c a w hi he hcn hall s=>by
    have e1:fr=fr':=funext fun t=>hi.agree hfin fun k ⟨o,ho,_⟩=>by
      have hk:k<ops.size:=(Array.getElem?_eq_some_iff.1 ho).1;exact⟨fun _=>by simpa using hk,fun _=>hall k hk⟩
    have e2:c=effs info info.length:=by
      rw[hlen];refine Nat.le_antisymm hcn (le_of_not_lt fun hlt=>?_);obtain⟨e,h1,h2,h3⟩:=zfe hlt
      have:=(he e h2).1 (hall e h1)
      omega
    subst e1;subst e2;exact hQ a w s
  have hready:∀(listed:Array Bool),listed.size=ops.size->Region.ready md ops listed=[]->∀k,k<ops.size->Arr listed k=true:=fun listed hsz h0 k=>by
    induction k using Nat.strongRecOn with
    | _ k ih =>
      intro hk;cases e:Arr listed k with
      | true=>rfl
      | false =>
        have hu:listed.getD k true=false:=by
          unfold Arr at e;simp[Array.getD,hsz,hk] at e ⊢;exact e
        obtain⟨o,ho⟩:∃o,ops[k]?=some o:=⟨_,Array.getElem?_eq_getElem hk⟩;obtain⟨inf,_,_,hb,_⟩:=hck k o ho
        have:k∈Region.ready md ops listed:=mem_ready.2 ⟨hu,o,ho,fun e he hbe=>ih e.on (hb e he hbe) (by have:=hb e he hbe;omega)⟩
        rw[h0] at this;cases this
  intro fuel
  induction fuel with
  | zero =>
    intro listed fr c a w hsz hcl hi he hcn hcnt s;have hall:=zoH (Nat.le_zero.1 hcnt);refine⟨List.eq_nil_iff_forall_not_mem.2 fun i hi'=>?_,hend listed fr c a w hi he hcn hall s⟩;obtain⟨h1,o,ho,_⟩:=mem_ready.1 hi';have hk:i<ops.size:=(Array.getElem?_eq_some_iff.1 ho).1;have h2:=hall i hk;unfold Arr at h2;simp[Array.getD,hsz,hk] at h1 h2;rw[h1] at h2;cases h2
  | succ fuel ih =>
    intro listed fr c a w hsz hcl hi he hcn hcnt s;refine⟨fun h0=>hend listed fr c a w hi he hcn (hready listed hsz h0) s,fun i hir=>?_⟩;obtain⟨hun,o,ho,hdeps⟩:=mem_ready.1 hir;have hin:i<ops.size:=(Array.getElem?_eq_some_iff.1 ho).1;have hun':Arr listed i=false:=by
      unfold Arr;simp[Array.getD,hsz,hin] at hun ⊢;exact hun
    obtain⟨inf,hinf,hinf0,hback,hpair⟩:=hck i o ho;have hneed:∀j,zcs md ops ops.size i j=true->Arr listed j=true:=fun j hj=>zeY hcl _ i j o ho hdeps hj
    have hneed':∀k o',ops[k]?=some o'->Arr listed k=true->zcs md ops ops.size k i=true->False:=fun k o' ho' hk hn=>by
      have:=zeY hcl _ k i o' ho' (hcl k o' ho' hk) hn
      rw[this] at hun';cases hun'
    obtain⟨x,f,hx,hf,hcase⟩:=hr.at yw i o (by simpa using ho);have hff:=hfs i f hf;have hagr:∀t∈o.looksAt ops,fr t=f t:=fun t ht=>hi.agree hff fun k ⟨o',ho',hd'⟩=>by
      have hk:k<ops.size:=(Array.getElem?_eq_some_iff.1 ho').1
      constructor
      . intro hl
        show k<0+i;rw[zero_add];refine lt_of_not_le fun hle=>?_
        have hne:i≠k:=fun e=>by subst e;rw[hl] at hun';cases hun'
        obtain⟨inf',hinf',_,_,hpair'⟩:=hck k o' ho';rcases hpair' i o inf ya ho hinf with h|⟨h,_⟩
        . exact hneed' k o' ho' hl h
        exact(Oper.apart_spec h).2.2 t hd' ht
      intro hl;have hl:k<i:=yaD;obtain⟨infk,hinfk⟩:∃y,info[k]?=some y:=yr;rcases hpair k o' infk hl ho' hinfk with h|⟨h,_⟩
      . exact hneed k h
      exact absurd ht ((Oper.apart_spec h).1 t hd')
    have hX:(xs[i]?).getD AV.idk=x:=by simp[hx]
    have hsz':(listed.setIfInBounds i true).size=ops.size:=by simpa using hsz
    have hArr:∀k,Arr (listed.setIfInBounds i true) k=if k=i then true else Arr listed k:=fun k=>zwd ya false
    have hcl':Closed md ops (Arr (listed.setIfInBounds i true)):=fun k o' ho' hk e he' hb=>by
      rw[hArr] at hk ⊢;by_cases c1:e.on=i
      . rw[ut c1]
      rw[ur c1];by_cases c2:k=i
      . subst c2;rw[ho] at ho';injection ho' with ho';subst ho'
        exact hdeps e he' hb
      rw[ur c2] at hk;exact hcl k o' ho' hk e he' hb
    have hi':InvF ops (fun i=>(xs[i]?).getD .idk) f0 (fun k=>Arr (listed.setIfInBounds i true) k=true) (fr.put o.dst x):=by
      have:=hi.put ho (fun t k hd hk ⟨o',ho',hd'⟩=>by
        refine le_of_not_lt fun hlt=>?_
        obtain⟨inf',hinf',_,_,hpair'⟩:=hck k o' ho';rcases hpair' i o inf hlt ho hinf with h|⟨h,_⟩
        . exact hneed' k o' ho' hk h
        exact(Oper.apart_spec h).2.1 t hd hd')
      rw[hX] at this;have e:(fun k=>Arr listed k=true\/k=i)=fun k=>Arr (listed.setIfInBounds i true) k=true:=by
        funext k
        rw[hArr];by_cases c:k=i
        . simp[c]
        simp[c]
      rw[e] at this;exact this
    have hcnt':cntU (Arr (listed.setIfInBounds i true)) ops.size<=fuel:=by
      have:=zrD (L:=Arr listed) (L':=Arr (listed.setIfInBounds i true)) hun' (by rw[hArr,ut rfl]) (fun k hk=>by rw[hArr,ur hk]) hin
      omega
    have hcle:∀e,info[e]?=some none->e<i->effs info e=c->zcs md ops ops.size i e=true->False:=fun e h1 h2 h3 h4=>by
      have:=(he e h1).1 (hneed e h4)
      omega
    have hcge:(∀m,inf=some m->m<1000000)->∀e,info[e]?=some none->i<e->effs info e<c->False:=fun h0 e h1 h2 h3=>by
      have hl:=(he e h1).2 h3;have hen:e<ops.size:=by
        have:=(ul.1 h1).1
        omega
      obtain⟨o',ho'⟩:∃o',ops[e]?=some o':=⟨_,Array.getElem?_eq_getElem hen⟩;obtain⟨inf',hinf',_,_,hpair'⟩:=hck e o' ho';rw[h1] at hinf';injection hinf' with hinf';rcases hpair' i o inf h2 ho hinf with h|⟨_,⟨m,h,_⟩|⟨_,m,h,hm⟩⟩
      . exact hneed' e o' ho' hl h
      . rw[<-hinf'] at h;cases h
      have:=h0 m h;omega
    rcases hcase with ⟨m,hm,hval,hvall⟩|⟨hm,heff⟩
    . 
      have hinf':inf=some m:=yce;have hlenS:S'.length=1+effs info ops.size:=by
        obtain⟨T,h1,h2⟩:=hr.suffix;rw[h1,ue,h2,hlen];simp;omega
      have hy:YieldA J (stAt S' c).hp ops o x fr:=by
        by_cases c1:c<=effs info i
        . have c2 : effs info i < c + win m := by
            by_cases hlt:c<effs info i
            . obtain⟨e,h1,h2,h3⟩:=zfe hlt
              obtain⟨oe,hoe⟩:∃o',ops[e]?=some o':=⟨_,Array.getElem?_eq_getElem ya⟩;rcases hpair e oe none h1 hoe h2 with h|⟨_,⟨m',h4,h5⟩|⟨_,m',h4,_⟩⟩
              . exact(hcle e h2 h1 h3 h).elim
              . rw[hinf'] at h4;injection h4 with h4;subst h4
                have:=h5 rfl
                omega
              cases h4
            have:=hinf0 m hinf'
            omega
          exact(hval c yB yB).agree (fr':=fr) hagr
        by_cases hbig:1000000<=m
        . refine(hvall hbig c yB ya fun h2=>lt_of_not_le fun hge=>?_).agree (fr':=fr) hagr
          simp at hge;obtain⟨e,h3,h4,h5⟩:=zfe (show effs info i+(m-2000000)/1000<effs info ops.size by omega);obtain⟨oe,hoe⟩:∃o',ops[e]?=some o':=⟨_,Array.getElem?_eq_getElem ya⟩;rcases lt_trichotomy e i with h|h|h
          . have:=zhF (info:=info) (show e+1<=i by omega)
            rw[zdq h4] at this;simp at this;omega
          . subst h;rw[h4] at hm;cases hm
          rcases zuQ hc h hoe ho h4 hm h2 with h6|h6
          . exact hneed' e oe hoe ((he e h4).2 ya) h6
          omega
        exfalso;have hsm:∀m',inf=some m'->m'<1000000:=fun m' h=>by rw[hinf'] at h;injection h with h;omega
        obtain⟨e,h1,h2,h3⟩:=zfe (show effs info i<effs info ops.size by omega);rcases lt_trichotomy e i with h|h|h
        . have:=zhF (info:=info) (show e+1<=i by omega)
          rw[zdq h2] at this;simp at this;omega
        . subst h;rw[h2] at hm;cases hm
        exact hcge hsm e h2 h ya
      have hstep:∀(a':Act) (w':World),Sim J (stAt S' c).nx (fr.put o.dst x) (stAt S' c).hp a' w'->wpAnyIn J.F 0 J.P md ops (Kont J k) fuel (listed.setIfInBounds i true) a' w':=fun a' w' s' =>
        ih _ _ c a' w' hsz' hcl' hi' (fun e h1=>by
          rw[hArr,<-he e h1]
          have:e≠i:=fun h=>by subst h;rw[h1] at hm;cases hm
          rw[ur this]) hcn hcnt' s'
      unfold wpOpIn;rw[ho];obtain⟨ρ,s'⟩:=s;obtain⟨d,hd,hlt,hgd⟩:=hy.dst;rw[hd] at hstep;rcases hy.out with ⟨hw,hg⟩|⟨hw,rfl⟩
      . show if _ then _ else _
        rw[zdF s' hw hgd,ut rfl];refine opIn hg.nd (hg.run s'.toSimH (fun y _=>zak s' y) (fun y _=>zbH s'.fnx y) fun v w' hb hxv=>?_);rw[hd];exact hstep _ _ ⟨ρ,(s'.later hb).put hlt hxv (hg.und s'.hbelow (fun y _=>zbH s'.fnx y))⟩
      show if _ then _ else _
      rw[zdF s' hw hgd,ur yw,hd];exact⟨fun _ _=>trivial,hstep _ _ ⟨ρ,s'.put (x:=.lit undef) hlt rfl trivial⟩⟩
    have hinf':inf=none:=yce;have c1:c=effs info i:=by
      rcases lt_trichotomy c (effs info i) with h|h|h
      . obtain⟨e,h1,h2,h3⟩:=zfe h
        obtain⟨oe,hoe⟩:∃o',ops[e]?=some o':=⟨_,Array.getElem?_eq_getElem ya⟩;rcases hpair e oe none h1 hoe h2 with h|⟨_,⟨m',h4,_⟩|⟨_,m',h4,_⟩⟩
        . exact(hcle e h2 h1 h3 h).elim
        . rw[hinf'] at h4;cases h4
        cases h4
      . exact h
      have:=(he i hm).2 h
      rw[this] at hun';cases hun'
    have e1:[s0].length+effs info i-1=c:=yB;have e2:[s0].length+effs info i=c+1:=yB;rw[e1,e2] at heff;refine zlo ho (heff fr hagr (.again (wpAnyIn J.F 0 J.P md ops (Kont J k) fuel (listed.setIfInBounds i true))::k) (fun a' w' s'=>?_) a w s);refine ih _ _ (c+1) a' w' hsz' hcl' hi' (fun e h1=>?_) ?_ hcnt' s'
    . rw[hArr]
      by_cases c2:e=i
      . subst c2;rw[ut rfl];exact⟨fun _=>by omega,fun _=>rfl⟩
      rw[ur c2,he e h1]
      constructor
      . intro h;omega
      intro h
      have:effs info e≠effs info i:=fun hq=>by
        rcases Nat.lt_or_gt_of_ne c2 with h'|h'
        . have:=zhF (info:=info) (show e+1<=i by omega)
          rw[zdq h1] at this;simp at this;omega
        have:=zhF (info:=info) (show i+1<=e by omega)
        rw[zdq hm] at this;simp at this;omega
      omega
    have:=zhF (info:=info) (show i+1<=ops.size by omega)
    rw[zdq hm] at this;simp at this;omega
def zu4 (n:Nat) (v:HE):List XS->Nat->Prop
  | s::l,c+1=>s.hp n=v/\zu4 n v l c
  | _,_=>True
theorem zdt {n:Nat} {v:HE}:∀{S:List XS} {c:Nat},zu4 n v S c->∀s∈S.take c,s.hp n=v
  | [],_,_,s,hs=>by simp at hs
  | _::_,0,_,s,hs=>by simp at hs
  | a::l,c+1,h,s,hs=>by
    rw[List.take_succ_cons,mem_cons] at hs;rcases hs with rfl|hs
    . exact h.1
    exact zdt h.2 s hs
def PendOne (n:Nat) (v:HE) (S:List XS):Nat->Prop
  | 0=>(stAt S (n/1000000)).hp (n%1000000)=v
  | c+1=>zu4 n v S (S.length-(c+1))
def zoZ:List (Nat×HE×Nat)->List XS->Prop
  | [],_=>True
  | p::ps,S=>PendOne p.1 p.2.1 S p.2.2/\zoZ ps S
def XK (J:Job) (ops:Array Oper) (k:List It) (info:List (Option Nat)) (l:List Oper) (S:List XS) (fr:Fr) (pd:List (Nat×HE×Nat)):Prop:=∃xs fs s S' fr',XRun J ops info l S fr xs fs (s::S') fr'/\AW J s.nx fr' s.hp k/\zoZ pd (s::S')
theorem zA {nx:Nat} {fr:Fr} {hp:Hp} {k:List It} {id:Nat} {l:List Oper} (info:List (Option Nat)) (hm:J.P.follows .mixedOrders=true) (hB:zmi .any l.toArray info=true) (h:XK J l.toArray k info l [⟨nx,hp⟩] fr []) :
    AW J nx fr hp (.code (.region id l.toArray true)::k):=by
  obtain⟨xs,fs,s1,S',fr',hr,hQ,_⟩:=h;intro a w ⟨ρ,s⟩;have s':SimR J nx ρ fr hp a { w with drawn:=w.drawn+1 }:=s.later ⟨⟨rfl,rfl,rfl,ug _,fun _ _=>rfl⟩,le_succ _⟩;refine wpIn_region_any hm ?_;obtain⟨T,hT,hTl⟩:=hr.suffix;have e0:stAt (s1::S') 0=⟨nx,hp⟩:=by rw[hT,zbP T _ 0 yw];rfl
  have e1:stAt (s1::S') (effs info info.length)=s1:=by
    have:S'.length=effs info info.length:=by
      have:=congrArg List.length hT
      simp at this;omega
    rw[<-this];exact zgN s1 S'
  have h0:∀i,Arr (Array.replicate l.toArray.size false) i=false:=fun i=>by
    unfold Arr;simp[Array.getD]
  refine any_conc2 hB (s0:=⟨nx,hp⟩) hr (by rw[e1];exact hQ) _ _ fr 0 a _ yw (fun i o _ hi=>by rw[h0] at hi;cases hi) (fun t=>.inr ⟨fun k hk=>absurd (show Arr _ k=true from hk) (by rw[h0];simp),rfl⟩) (fun e _=>by rw[h0];simp) (uf _) ?_ (by rw[e0];exact⟨ρ,s'⟩)
  have:∀(L:Nat->Bool) n,cntU L n<=n:=fun L n=>by
    induction n with
    | zero=>exact ug _
    | succ n ih=>unfold cntU;split<;>omega
  exact this _ _
section
variable {k:List It} {info:List (Option Nat)} {o:Oper} {rest:List Oper} {S:List XS} {fr:Fr} {x:AV}
variable {pd:List (Nat×HE×Nat)}
theorem XK.nil {s:XS} (h:AW J s.nx fr s.hp k) (hp:zoZ pd (s::S)):XK J ops k [] [] (s::S) fr pd:=⟨[],[],s,S,fr,.nil,h,hp⟩
theorem XK.nil' {nx:Nat} {hp:Hp} (h:AW J nx fr hp k):XK J ops k [] [] (⟨nx,hp⟩::S) fr []:=XK.nil h trivial
theorem XK.nilp {nx:Nat} {hp:Hp} (hp':zoZ pd (⟨nx,hp⟩::S)) (h:AW J nx fr hp k):XK J ops k [] [] (⟨nx,hp⟩::S) fr pd:=XK.nil h hp'
theorem XK.y {m:Nat} (hm:m<1000000) (h:∀s∈S.take m,YieldA J s.hp ops o x fr) (H:XK J ops k info rest S (fr.put o.dst x) pd):XK J ops k (some m::info) (o::rest) S fr pd :=
  let ⟨_,_,_,_,_,h1,h2⟩:=H;⟨_,_,_,_,_,.g (by unfold win;rw[ur ya,ur ya];exact h) (fun hm'=>by omega) h1,h2⟩
theorem zck {hp:Hp} {d:Nat} (h:OpG J o fr hp x) (hd:o.dst=some d) (hg:o.guard=none) (hlt:Nat.blt d J.nt=true):YieldA J hp ops o x fr :=
  ⟨⟨d,hd,by simpa using hlt,fun b j t oj e=>by rw[hg] at e;cases e⟩,.inl ⟨by unfold zcG;rw[hg],h⟩⟩
theorem XK.g {s:XS} {d:Nat} (h:OpG J o fr s.hp x) (hd:o.dst=some d) (hg:o.guard=none) (hlt:Nat.blt d J.nt=true) (H:XK J ops k info rest (s::S) (fr.set d x) pd):XK J ops k (some 1::info) (o::rest) (s::S) fr pd :=
  XK.y (x:=x) yl (fun s' hs=>by simp at hs;subst hs;exact zck h hd hg hlt) yaO
theorem XK.g2 {s s2:XS} {d:Nat} (h:OpG J o fr s.hp x) (h':OpG J o fr s2.hp x) (hd:o.dst=some d) (hg:o.guard=none) (hlt:Nat.blt d J.nt=true) (H:XK J ops k info rest (s::s2::S) (fr.set d x) pd):XK J ops k (some 2::info) (o::rest) (s::s2::S) fr pd :=
  XK.y (x:=x) yl (fun s' hs=>by simp at hs;rcases hs with hs|hs<;>subst hs<;>first|exact zck h hd hg hlt|exact zck h' hd hg hlt) yaO
theorem XK.ga {m d:Nat} (h:∀hp,OpG J o fr hp x) (hd:o.dst=some d) (hg:o.guard=none) (hlt:Nat.blt d J.nt=true) (H:XK J ops k info rest S (fr.set d x) pd):XK J ops k (some m::info) (o::rest) S fr pd :=
  let ⟨_,_,_,_,_,h1,h2⟩:=show XK J ops k info rest S (fr.put o.dst x) pd by rw[hd];exact H
  ⟨_,_,_,_,_,.g (x:=x) (fun s _=>zck (h s.hp) hd hg hlt) (fun _ _ _ _ _=>zck (h _) hd hg hlt) h1,h2⟩
theorem XK.gf {s:XS} {t n off m d:Nat} {v:HE} (_ht:fr t = .ptr n off) (_hv:s.hp n=v) (h:∀hp,hp n=v->OpG J o fr hp x) (hb:zu4 n v (s::S) (win m)) (hd:o.dst=some d) (hg:o.guard=none) (hlt:Nat.blt d J.nt=true)
    (H:XK J ops k info rest (s::S) (fr.set d x) ((n,v,(s::S).length)::pd)):XK J ops k (some m::info) (o::rest) (s::S) fr pd :=
  let ⟨_,_,_,_,_,h1,h2,h3⟩:=show XK J ops k info rest (s::S) (fr.put o.dst x) ((n,v,(s::S).length)::pd) by rw[hd];exact H
  ⟨_,_,_,_,_,.g (x:=x) (fun s' hs=>zck (h s'.hp (zdt hb s' hs)) hd hg hlt) (fun _ c h1' h2' _=>zck (h _ (zdt h3.1 _ (st_mem h1' h2'))) hd hg hlt) h1,h2,h3.2⟩
theorem XK.gb {s:XS} {t n off m d:Nat} {v:HE} (_ht:fr t = .ptr n off) (_hv:s.hp n=v) (h:∀hp,hp n=v->OpG J o fr hp x) (hm:Nat.blt m 1000000=true) (hb:zu4 n v (s::S) m) (hd:o.dst=some d) (hg:o.guard=none) (hlt:Nat.blt d J.nt=true)
    (H:XK J ops k info rest (s::S) (fr.set d x) pd):XK J ops k (some m::info) (o::rest) (s::S) fr pd :=
  XK.y (x:=x) (by simpa using hm) (fun s' hs=>zck (h s'.hp (zdt hb s' hs)) hd hg hlt) yaO
theorem XK.e {s:XS} {nx':Nat} {hp':Hp} (h:EffA J ops s.nx s.hp nx' hp' o x fr) (H:XK J ops k info rest (⟨nx',hp'⟩::s::S) (fr.put o.dst x) pd):XK J ops k (none::info) (o::rest) (s::S) fr pd :=
  let ⟨_,_,_,_,_,h1,h2⟩:=H;⟨_,_,_,_,_,.e h h1,h2⟩
end
end
end Go.Ab
namespace Go.Ab
open Go.RowKit
def AV.avB (r:Nat):AV->Bool
  | .ptr n _ | .eptr n _ _ _ | .own n | .vw n _ _ | .osub n _ _ _ | .bnd _ n=>!(Nat.beq n r)
  | .clo _ caps=>caps.all fun c=>!(Nat.beq c r)
  | .fresh ..=>false
  | .tup2 a b=>a.avB r&&b.avB r
  | .cat a b=>a.avB r&&b.avB r
  | .ifc _ a=>a.avB r
  | .tup3 a b c=>a.avB r&&(b.avB r&&c.avB r)
  | _=>true
def HE.avB (r:Nat):HE->Bool
  | .parts _ xs=>xs.all (AV.avB r)
  | _=>true
theorem zoP {n r:Nat} (h:(!(Nat.beq n r))=true):n≠r:=fun e=>by subst e;simp at h
theorem zoO {n r:Nat} (h:n<r):(!(Nat.beq n r))=true:=by
  have:Nat.beq n r=false:=by
    cases e:Nat.beq n r
    . rfl
    have:=Nat.eq_of_beq_eq_true e;omega
  rw[this];rfl
section
variable {ρ:Nat->Value} {B U N:Nat->Prop} {w w':World} {r:Nat} {p:Value}
theorem znP {n:Nat} (h:n≠r):ren ρ r p n=ρ n:=by unfold ren;rw[ur h]
theorem AV.rel_at:∀{x:AV} {v:Value},x.avB r=true->x.rel ρ B U N w v->x.rel (ren ρ r p) B U N w v
  | .idk,_,_,h=>trivial
  | .lit _,_,_,h=>h
  | .val ..,_,_,h=>h
  | .ptr ..,_,hu,⟨g,e1,e2⟩=>⟨g,(znP (zoP hu)).trans e1,e2⟩
  | .bnd ..,_,hu,⟨g,e1,e2⟩=>⟨g,(znP (zoP hu)).trans e1,e2⟩
  | .eptr ..,_,hu,⟨g,l,c,e1,e2⟩=>⟨g,l,c,(znP (zoP hu)).trans e1,e2⟩
  | .rptr ..,_,_,h=>h
  | .own n,v,hu,h=>Eq.trans (b:=ρ n) h (znP (zoP hu)).symm
  | .fresh ..,_,hu,_=>by cases hu
  | .clo f caps,v,hu,h=>by
    have e:caps.map (ren ρ r p)=caps.map ρ:=List.map_congr_left fun c hc=>znP (zoP (all_eq_true.1 hu c hc))
    show v = .func (.func f) #[] (caps.map (ren ρ r p)).toArray;rw[e];exact h
  | .vw ..,_,hu,⟨g,c,e1,e2⟩=>⟨g,c,(znP (zoP hu)).trans e1,e2⟩
  | .osub ..,_,hu,⟨g,l,c,e1,e2⟩=>⟨g,l,c,(znP (zoP hu)).trans e1,e2⟩
  | .fn1 ..,_,_,h=>h
  | .fn2 ..,_,_,h=>h
  | .tup2 a b,_,hu,⟨x,y,e,h1,h2⟩=>by
    simp only[AV.avB,uk] at hu;exact⟨x,y,e,AV.rel_at hu.1 h1,AV.rel_at hu.2 h2⟩
  | .cat a b,_,hu,⟨x,y,e,h1,h2,h3⟩=>by
    simp only[AV.avB,uk] at hu;exact⟨x,y,e,AV.rel_at hu.1 h1,AV.rel_at hu.2 h2,h3⟩
  | .ifc _ a,_,hu,⟨x,e,h1⟩=>⟨x,e,AV.rel_at (x:=a) hu h1⟩
  | .tup3 a b c,_,hu,⟨x,y,z,e,h1,h2,h3⟩=>by
    simp only[AV.avB,uk] at hu;exact⟨x,y,z,e,AV.rel_at hu.1 h1,AV.rel_at hu.2.1 h2,AV.rel_at hu.2.2 h3⟩
theorem AV.relL_at:∀{xs:List AV} {vs:List Value},xs.all (AV.avB r)=true->AV.relL ρ B U N w xs vs->AV.relL (ren ρ r p) B U N w xs vs
  | [],_,_,h=>h
  | x::xs,_,hu,⟨v,us,e,h1,h2,h3,h4⟩=>by
    simp only[List.all_cons,uk] at hu;exact⟨v,us,e,AV.rel_at hu.1 h1,h2,h3,AV.relL_at hu.2 h4⟩
theorem HE.rel_at {q:Value}:∀{x:HE},x.avB r=true->x.rel ρ B U N w q->x.rel (ren ρ r p) B U N w q
  | .none_,_,h=>h
  | .box ..,_,h=>h
  | .row ..,_,h=>h
  | .objAt ..,_,h=>h
  | .parts ..,hu,⟨g,vs,e,hg,hr⟩=>⟨g,vs,e,hg,AV.relL_at hu hr⟩
theorem AV.av_under:∀{x:AV},x.under r->x.avB r=true
  | .idk,_=>rfl
  | .lit _,_=>rfl
  | .val ..,_=>rfl
  | .rptr ..,_=>rfl
  | .fn1 ..,_=>rfl
  | .fn2 ..,_=>rfl
  | .ptr n _,h=>zoO h
  | .eptr n _ _ _,h=>zoO h
  | .own n,h=>zoO h
  | .bnd _ n,h=>zoO h
  | .vw n _ _,h=>zoO h
  | .osub n _ _ _,h=>zoO h
  | .clo _ caps,h=>by
    simp only[AV.avB,all_eq_true];intro c hc;exact zoO (h c hc)
  | .fresh ..,h=>h.elim
  | .tup2 ..,h=>by simp only[AV.avB,AV.av_under h.1,AV.av_under h.2,Bool.and_self]
  | .cat ..,h=>by simp only[AV.avB,AV.av_under h.1,AV.av_under h.2,Bool.and_self]
  | .ifc _ a,h=>AV.av_under (x:=a) h
  | .tup3 ..,h=>by simp only[AV.avB,AV.av_under h.1,AV.av_under h.2.1,AV.av_under h.2.2,Bool.and_self]
theorem HE.av_under:∀{x:HE},x.under r->x.avB r=true
  | .none_,_=>rfl
  | .box ..,_=>rfl
  | .row ..,_=>rfl
  | .objAt ..,_=>rfl
  | .parts _ xs,h=>by
    simp only[HE.avB,all_eq_true];exact fun x hx=>AV.av_under (h x hx)
end
section
variable {J:Job} {nx r:Nat} {ρ:Nat->Value} {fr:Fr} {hp:Hp} {a:Act} {w w':World}
theorem SimR.bindAt (h:SimR J nx ρ fr hp a w) {p:Value} {x:HE} (hr:r<nx) (hk:J.kg<=r) (hbn:J.bn<=r) (hz:hp r = .none_) (hfr:∀t,(fr t).avB r=true) (hhp:∀n,(hp n).avB r=true)
    (hb:Below w.heap.size w w') (hf:∀b,zaH p=some b->w.heap.size<=b/\b<w'.heap.size)
    (hx:Keeps (Uu J ρ hp) (Nn ρ hp) w (Uu J (ren ρ r p) (hp.set r x)) (Nn (ren ρ r p) (hp.set r x)) w'->x.rel (ren ρ r p) J.B (Uu J (ren ρ r p) (hp.set r x)) (Nn (ren ρ r p) (hp.set r x)) w' p) (hu:x.under nx:=by exact trivial) :
    SimR J nx (ren ρ r p) fr (hp.set r x) a w':=by
  have hN:∀b,b<w.heap.size->Nn (ren ρ r p) (hp.set r x) b->Nn ρ hp b:=fun b hlt ⟨m,hl,e⟩=>by
    rw[zn] at hl;unfold ren at e;by_cases c:m=r
    . rw[ut c] at e
      have:=(hf b e).1
      omega
    rw[ur c] at hl e;exact⟨m,hl,e⟩
  have k:Keeps (Uu J ρ hp) (Nn ρ hp) w (Uu J (ren ρ r p) (hp.set r x)) (Nn (ren ρ r p) (hp.set r x)) w' :=
    ⟨h.sub,hb.size,fun b hlt _=>hb.block b hlt,fun b hlt hu=>hu.imp id (hN b hlt),hN⟩
  exact
  { kle:=h.kle
    ble:=h.ble
    named:=fun m hm=>by unfold ren;rw[ur ya];exact h.named m hm
    below:=h.below.later hb
    hrel:=fun m=>by
      rw[zn];have er:ren ρ r p m=if m=r then p else ρ m:=rfl
      rw[er];by_cases c:m=r
      . rw[ut c,ut c];exact hx k
      rw[ur c,ur c];exact HE.rel_at (hhp m) (HE.rel_mono k (h.hun m) (fun hl g hg=>hb.block g (h.new m g hl hg).2) (h.hrel m))
    hun:=fun m=>by
      rw[zn];by_cases c:m=r
      . rw[ut c];exact hu
      rw[ur c];exact h.hun m
    hnx:=fun m hm=>by rw[zn,ur ya];exact h.hnx m ya
    new:=fun m b hl e=>by
      rw[zn] at hl;unfold ren at e;by_cases c:m=r
      . rw[ut c] at e
        exact⟨.inl (Nat.le_trans h.below.size (hf b e).1),(hf b e).2⟩
      rw[ur c] at hl e;exact⟨(h.new m b hl e).1,lt_of_lt_of_le (h.new m b hl e).2 hb.size⟩
    inj:=fun m1 m2 b l1 l2 e1 e2=>by
      rw[zn] at l1 l2;unfold ren at e1 e2;by_cases c1:m1=r<;>by_cases c2:m2=r
      . rw[c1,c2]
      . rw[ut c1] at e1;rw[ur c2] at l2 e2
        have:=(hf b e1).1;have:=(h.new m2 b l2 e2).2;omega
      . rw[ur c1] at l1 e1;rw[ut c2] at e2
        have:=(hf b e2).1;have:=(h.new m1 b l1 e1).2;omega
      rw[ur c1] at l1 e1;rw[ur c2] at l2 e2;exact h.inj m1 m2 b l1 l2 e1 e2
    size:=h.size
    defers:=h.defers
    frel:=fun t=>AV.rel_at (hfr t) (AV.rel_mono k (h.fnx t) (h.frel t))
    fnx:=h.fnx
    brel:=fun q hq t=>AV.rel_at (AV.av_under (AV.under_mono hbn (J.bgb q hq t))) (AV.rel_mono k (J.bgb q hq t) (h.brel q hq t)) }
end
structure StOk (r:Nat) (s:XS):Prop where
  lt:r<s.nx
  av:∀n,n≠r->(s.hp n).avB r=true
section
variable {J:Job} {ops:Array Oper}
def FloA (J:Job) (ops:Array Oper) (r:Nat) (b:HE) (o:Oper) (x:AV):Prop :=
  ∀nx hp fr' k,r<nx->hp r = .none_->(∀n,(hp n).avB r=true)->J.kg<=r->J.bn<=r->(∀t,(fr' t).avB r=true)->AW J nx (fr'.put o.dst x) (hp.set r b) k->AW J nx fr' hp (.ops ops [o]::k)
theorem floA_alloc {α:Type} {T:GoT α} {ty d r:Nat} {x:α} {o:Oper} (hz:zaw J.P ty T x) (ho:o.op = .alloc ty) (hd:o.dst=some d) (hg:o.guard=none) (hlt:Nat.blt d J.nt=true):FloA J ops r (.box ty T x) o (.ptr r 0):=by
  intro nx hp fr k hlt' hno hav hk hbn hfr H;intro a w ⟨ρ,s⟩;refine zU hg yq fun K hK=>?_
  obtain⟨z,h1,h3⟩:=hz;obtain⟨i,h1,h2⟩:=Option.bind_eq_some_iff.1 h1;have hrun:(execOp a.eval o).run J.P w = .ok (.value (.pointer (some ⟨w.heap.size,0,none⟩))) (w.alloc (.cells z.cells ty)):=by
    unfold execOp;rw[ho];simp[Instr.alloc,zeroValue,typeInfo,Sem.run_bind,h1,h2,newVar,newRow,newObj,Sem.run]
  unfold Oper.wp;rw[hrun,Oper.upon_value,hd];rw[hd] at H
  have s':=s.bindAt (p:=.pointer (some ⟨w.heap.size,0,none⟩)) (x:=.box ty T x) hlt' hk hbn hno hfr hav (zbl w (.cells z.cells ty))
    (fun b e=>by simp only[zaH,Option.some.injEq] at e;subst e;exact⟨ug _,by simp⟩)
    (fun k=>⟨w.heap.size,z.cells.toList,rfl,by simpa using heap_alloc_new w (.cells z.cells ty),h3 _ _ _⟩)
  refine hK _ _ (H _ _ ⟨_,s'.put yK ⟨w.heap.size,by unfold ren;simp,rfl⟩ hlt'⟩)
inductive XRunF (J:Job) (ops:Array Oper) (q r:Nat) (b:HE):Nat->List (Option Nat)->List Oper->List XS->Fr->List AV->List Fr->List XS->Fr->Prop
  | nil {i S fr}:XRunF J ops q r b i [] [] S fr [] [] S fr
  | g {i info o rest S fr xs fs S' fr' x m} (hi : i ≠ q) (h : ∀ s ∈ S.take (win m), YieldA J s.hp ops o x fr) (hf : 1000000 <= m -> ∀ s ∈ S'.take (S'.length - S.length), YieldA J s.hp ops o x fr)
      (h0:zcs .any ops ops.size i q=false->x.avB r=true/\(∀s∈S.take (win m),YieldA J (s.hp.set r .none_) ops o x fr)/\(1000000<=m->∀s∈S'.take (S'.length-S.length),YieldA J (s.hp.set r .none_) ops o x fr))
      (H:XRunF J ops q r b (i+1) info rest S (fr.put o.dst x) xs fs S' fr'):XRunF J ops q r b i (some m::info) (o::rest) S fr (x::xs) (fr::fs) S' fr'
  | e {i info o rest s S fr xs fs S' fr' x nx' hp'} (hi : i ≠ q) (hs : StOk r ⟨nx', hp'⟩) (h : EffA J ops s.nx s.hp nx' hp' o x fr) (h0 : zcs .any ops ops.size i q = false -> x.avB r = true /\ hp' r = s.hp r /\ EffA J ops s.nx (s.hp.set r .none_) nx' (hp'.set r .none_) o x fr)
      (H:XRunF J ops q r b (i+1) info rest (⟨nx',hp'⟩::s::S) (fr.put o.dst x) xs fs S' fr'):XRunF J ops q r b i (none::info) (o::rest) (s::S) fr (x::xs) (fr::fs) S' fr'
  | f {i info o rest S fr xs fs S' fr' x m} (hi:i=q) (h:FloA J ops r b o x) (hm:1000000<=m) (H:XRunF J ops q r b (i+1) info rest S (fr.put o.dst x) xs fs S' fr'):XRunF J ops q r b i (some m::info) (o::rest) S fr (x::xs) (fr::fs) S' fr'
variable {q r:Nat} {b:HE}
theorem XRunF.len {i:Nat} {info:List (Option Nat)} {l S fr xs fs S' fr'} (h:XRunF J ops q r b i info l S fr xs fs S' fr'):xs.length=l.length/\fs.length=l.length/\info.length=l.length:=by
  induction h with
  | nil=>exact⟨rfl,rfl,rfl⟩
  | g _ _ _ _ _ ih=>simp[ih.1,ih.2.1,ih.2.2]
  | e _ _ _ _ _ ih=>simp[ih.1,ih.2.1,ih.2.2]
  | f _ _ _ _ ih=>simp[ih.1,ih.2.1,ih.2.2]
theorem XRunF.suffix {i:Nat} {info:List (Option Nat)} {l S fr xs fs S' fr'} (h:XRunF J ops q r b i info l S fr xs fs S' fr'):∃T,S'=T++S/\T.length=effs info info.length/\((∀s∈S,StOk r s)->∀s∈S',StOk r s):=by
  induction h with
  | nil=>exact⟨[],rfl,rfl,fun h=>h⟩
  | g _ _ _ _ _ ih=>obtain⟨T,h1,h2,h3⟩:=ih;exact⟨T,h1,by rw[h2];simp[effs],h3⟩
  | f _ _ _ _ ih=>obtain⟨T,h1,h2,h3⟩:=ih;exact⟨T,h1,by rw[h2];simp[effs],h3⟩
  | e _ hs _ _ _ ih =>
    obtain⟨T,h1,h2,h3⟩:=ih;refine⟨T++[⟨_,_⟩],by rw[h1,append_assoc];rfl,by simp[h2,effs],fun h=>h3 fun s hm=>?_⟩;rcases mem_cons.1 hm with rfl|hm
    . exact hs
    exact h s hm
theorem XRunF.at {i0:Nat} {info:List (Option Nat)} {l S fr xs fs S' fr'} (h:XRunF J ops q r b i0 info l S fr xs fs S' fr') (hS:0<S.length):∀i o,l[i]?=some o->∃x f,xs[i]?=some x/\fs[i]?=some f/\
    ((∃ m, info[i]? = some (some m) /\ i0 + i ≠ q /\ (∀ c, c < S.length + effs info i -> S.length + effs info i <= c + win m -> YieldA J (stAt S' c).hp ops o x f) /\ (1000000 <= m -> ∀ c, S.length + effs info i <= c -> c < S'.length -> YieldA J (stAt S' c).hp ops o x f) /\
        (zcs .any ops ops.size (i0+i) q=false->x.avB r=true/\(∀c,c<S.length+effs info i->S.length+effs info i<=c+win m->YieldA J ((stAt S' c).hp.set r .none_) ops o x f)/\(1000000<=m->∀c,S.length+effs info i<=c->c<S'.length->YieldA J ((stAt S' c).hp.set r .none_) ops o x f)))\/
     (info[i]?=some none/\i0+i≠q/\EffA J ops (stAt S' (S.length+effs info i-1)).nx (stAt S' (S.length+effs info i-1)).hp (stAt S' (S.length+effs info i)).nx (stAt S' (S.length+effs info i)).hp o x f/\
        (zcs .any ops ops.size (i0+i) q=false->x.avB r=true/\(stAt S' (S.length+effs info i)).hp r=(stAt S' (S.length+effs info i-1)).hp r/\EffA J ops (stAt S' (S.length+effs info i-1)).nx ((stAt S' (S.length+effs info i-1)).hp.set r .none_) (stAt S' (S.length+effs info i)).nx ((stAt S' (S.length+effs info i)).hp.set r .none_) o x f))\/
     (i0+i=q/\(∃m,info[i]?=some (some m)/\1000000<=m)/\FloA J ops r b o x)):=by
  induction h with
  | nil=>intro i o h;simp at h
  | g hi h hf h0 H ih =>
    rename_i i1 info o rest S fr xs fs S' fr' x m;intro i o' hio;cases i with
    | zero =>
      simp at hio;subst hio;obtain⟨T,hT,_⟩:=H.suffix;have hb:∀(Y:XS->Prop),(∀s∈S.take (win m),Y s)->∀c,c<S.length+effs (some m::info) 0->S.length+effs (some m::info) 0<=c+win m->Y (stAt S' c):=fun Y hY c h1 h2=>by
        rw[zfY,Nat.add_zero] at h1 h2;rw[hT,zbP T S c h1];refine hY _ ?_;unfold stAt;rw[List.getElem?_reverse h1];have hlt:S.length-1-c<S.length:=ya;rw[ub hlt];exact List.mem_take_iff_getElem.2 ⟨S.length-1-c,by omega,rfl⟩
      have ha:∀(Y:XS->Prop),(∀s∈S'.take (S'.length-S.length),Y s)->∀c,S.length+effs (some m::info) 0<=c->c<S'.length->Y (stAt S' c):=fun Y hY c h1 h2=>by
        rw[zfY,Nat.add_zero] at h1;refine hY _ ?_;unfold stAt;rw[List.getElem?_reverse h2,ub ya];exact List.mem_take_iff_getElem.2 ⟨S'.length-1-c,by omega,rfl⟩
      exact⟨x,fr,rfl,rfl,.inl ⟨m,rfl,hi,hb _ h,fun hm=>ha _ (hf hm),fun hn=>⟨(h0 hn).1,hb _ (h0 hn).2.1,fun hm=>ha _ ((h0 hn).2.2 hm)⟩⟩⟩
    | succ i =>
      obtain⟨x',f',h1,h2,h3⟩:=ih hS i o' (by simpa using hio);refine⟨x',f',by simpa using h1,by simpa using h2,?_⟩;rw[zgG,show i1+(i+1)=i1+1+i by omega];simpa using h3
  | f hi h hm H ih =>
    rename_i i1 info o rest S fr xs fs S' fr' x m;intro i o' hio;cases i with
    | zero =>
      simp at hio;subst hio;exact⟨x,fr,rfl,rfl,.inr (.inr ⟨hi,⟨m,rfl,hm⟩,h⟩)⟩
    | succ i =>
      obtain⟨x',f',h1,h2,h3⟩:=ih hS i o' (by simpa using hio);refine⟨x',f',by simpa using h1,by simpa using h2,?_⟩;rw[zgG,show i1+(i+1)=i1+1+i by omega];simpa using h3
  | e hi hs h h0 H ih =>
    rename_i i1 info o rest s S fr xs fs S' fr' x nx' hp';intro i o' hio;obtain⟨T,hT,_⟩:=H.suffix;cases i with
    | zero =>
      simp at hio;subst hio;refine⟨x,fr,rfl,rfl,.inr (.inl ⟨rfl,hi,?_⟩)⟩;rw[zfY,Nat.add_zero];have e1:stAt S' ((s::S).length-1)=s:=by
        rw[hT,zbP _ _ _ ybb];rw[show(⟨nx',hp'⟩:XS)::s::S=[⟨nx',hp'⟩]++(s::S) from rfl,zbP _ _ _ yw]
        have:=zgN s S
        simpa using this
      have e2:stAt S' (s::S).length=⟨nx',hp'⟩:=by
        rw[hT,zbP _ _ _ ybb];exact zgN _ _
      rw[e1,e2];exact⟨h,h0⟩
    | succ i =>
      obtain⟨x',f',h1,h2,h3⟩:=ih yw i o' (by simpa using hio);refine⟨x',f',by simpa using h1,by simpa using h2,?_⟩;rw[zjw,show i1+(i+1)=i1+1+i by omega];have e:(s::S).length+(effs info i+1)=((⟨nx',hp'⟩:XS)::s::S).length+effs info i:=yB;rw[e];simpa using h3
theorem XRunF.frames {i0:Nat} {info:List (Option Nat)} {l S fr xs fs S' fr'} (h:XRunF J ops q r b i0 info l S fr xs fs S' fr'):∀(k:Nat) (X:Nat->AV) (f0:Fr),(∀j,l[j]?=ops[k+j]?)->(∀j x,xs[j]?=some x->X (k+j)=x)->InvF ops X f0 (· < k) fr->
    (∀j f,fs[j]?=some f->InvF ops X f0 (· < k+j) f)/\InvF ops X f0 (· < k+l.length) fr':=by
  have key:∀{o:Oper} {rest:List Oper} {x:AV} {xs:List AV} {fr:Fr} (k:Nat) (X:Nat->AV) (f0:Fr),(∀j,(o::rest)[j]?=ops[k+j]?)->(∀j y,(x::xs)[j]?=some y->X (k+j)=y)->InvF ops X f0 (· < k) fr->InvF ops X f0 (· < k+1) (fr.put o.dst x):=by
    intro o rest x xs fr k X f0 hl hX hI;have h0:ops[k]?=some o:=by simpa using (hl 0).symm
    have hx:X k=x:=by simpa using hX 0 x rfl
    have:=hI.put h0 (fun t j _ hj _=>Nat.le_of_lt hj)
    rw[hx] at this;have e:(fun j=>j<k\/j=k)=(· < k+1):=ycd;rw[e] at this;exact this
  have step : ∀ {o : Oper} {rest : List Oper} {x : AV} {xs : List AV} {fs : List Fr} {fr fr' : Fr}, (∀ (k : Nat) (X : Nat -> AV) (f0 : Fr), (∀ j, rest[j]? = ops[k + j]?) -> (∀ j y, xs[j]? = some y -> X (k + j) = y) -> InvF ops X f0 (· < k) (fr.put o.dst x) ->
      (∀j f,fs[j]?=some f->InvF ops X f0 (· < k+j) f)/\InvF ops X f0 (· < k+rest.length) fr')->∀(k:Nat) (X:Nat->AV) (f0:Fr),(∀j,(o::rest)[j]?=ops[k+j]?)->(∀j y,(x::xs)[j]?=some y->X (k+j)=y)->InvF ops X f0 (· < k) fr->
      (∀j f,(fr::fs)[j]?=some f->InvF ops X f0 (· < k+j) f)/\InvF ops X f0 (· < k+(o::rest).length) fr':=by
    intro o rest x xs fs fr fr' ih k X f0 hl hX hI;have h2:=key k X f0 hl hX hI;obtain⟨h3,h4⟩:=ih (k+1) X f0 (fun j=>by have:=hl (j+1);simpa [add_assoc,add_comm 1 j] using this) (fun j x hx=>by have:=hX (j+1) x (by simpa using hx);rw[<-this];congr 1;omega) h2;refine⟨fun j f hj=>?_,by simpa [add_assoc,add_comm 1] using h4⟩;cases j with
    | zero=>simp at hj;subst hj;exact hI
    | succ j=>have:=h3 j f (by simpa using hj);simpa [add_assoc,add_comm 1 j] using this
  induction h with
  | nil=>intro k X f0 _ _ hI;exact⟨fun j f hj=>by simp at hj,hI⟩
  | g _ _ _ _ _ ih=>exact step ih
  | e _ _ _ _ _ ih=>exact step ih
  | f _ _ _ _ ih=>exact step ih
def hpW (r:Nat) (hp:Hp) (β:Bool):Hp:=if β then hp else hp.set r .none_
theorem hpW_t {hp:Hp}:hpW r hp true=hp:=rfl
theorem hpW_f {hp:Hp}:hpW r hp false=hp.set r .none_:=rfl
theorem hp_back {hp:Hp} {b:HE} (h:hp r=b):(hp.set r .none_).set r b=hp:=by
  funext n
  rw[zn,zn];by_cases e:n=r
  . rw[ut e,e,h]
  rw[ur e,ur e]
theorem hp_gone {hp:Hp} {b:HE} (h:hp r = .none_):(hp.set r b).set r .none_=hp:=by
  funext n
  rw[zn,zn];by_cases e:n=r
  . rw[ut e,e,h]
  rw[ur e,ur e]
theorem any_conc3 {info:List (Option Nat)} {s0:XS} {f0 fr':Fr} {xs:List AV} {fs:List Fr} {S':List XS} {k:List It} (hc:zmi .any ops info=true) (hr:XRunF J ops q r b 0 info ops.toList [s0] f0 xs fs S' fr') (hq:q<ops.size) (hok:∀s∈S',StOk r s) (hkg:J.kg<=r) (hbn:J.bn<=r) (hf0:∀t,(f0 t).avB r=true) (hb0:s0.hp r=b)
    (hQ:AW J (stAt S' (effs info info.length)).nx fr' (stAt S' (effs info info.length)).hp k) :
    ∀(fuel:Nat) (listed:Array Bool) (fr:Fr) (c:Nat) (a:Act) (w:World),listed.size=ops.size->Closed .any ops (Arr listed)->InvF ops (fun i=>(xs[i]?).getD .idk) f0 (fun i=>Arr listed i=true) fr->
      (∀e,info[e]?=some none->(Arr listed e=true↔effs info e<c))->c<=effs info ops.size->cntU (Arr listed) ops.size<=fuel->Sim J (stAt S' c).nx fr (hpW r (stAt S' c).hp (Arr listed q)) a w->wpAnyIn J.F 0 J.P .any ops (Kont J k) fuel listed a w:=by
  obtain⟨hlen,hck⟩:=zoJ hc;have hxl:=hr.len;have hlenS:S'.length=1+effs info ops.size:=by
    obtain⟨T,h1,h2,_⟩:=hr.suffix;rw[h1,ue,h2,hlen];simp;omega
  have hst:∀c,c<S'.length->StOk r (stAt S' c):=fun c hc=>by
    refine hok _ ?_;unfold stAt;rw[List.getElem?_reverse hc,ub ya];exact List.getElem_mem _
  obtain⟨hfs,hfin⟩:=hr.frames 0 (fun i=>(xs[i]?).getD .idk) f0 (fun j=>by simp) (fun j x hx=>by simp[hx]) (fun t=>.inr ⟨fun k hk=>by omega,rfl⟩)
  have hend : ∀ (listed : Array Bool) (fr : Fr) (c : Nat) (a : Act) (w : World), InvF ops (fun i => (xs[i]?).getD .idk) f0 (fun i => Arr listed i = true) fr -> (∀ e, info[e]? = some none -> (Arr listed e = true ↔ effs info e < c)) -> c <= effs info ops.size ->
      (∀k,k<ops.size->Arr listed k=true)->Sim J (stAt S' c).nx fr (hpW r (stAt S' c).hp (Arr listed q)) a w->Kont J k .normal a w:=fun listed fr c a w hi he hcn hall s=>by
    have e1:fr=fr':=funext fun t=>hi.agree hfin fun k ⟨o,ho,_⟩=>by
      have hk:k<ops.size:=(Array.getElem?_eq_some_iff.1 ho).1;exact⟨fun _=>by simpa using hk,fun _=>hall k hk⟩
    have e2:c=effs info info.length:=by
      rw[hlen];refine Nat.le_antisymm hcn (le_of_not_lt fun hlt=>?_);obtain⟨e,h1,h2,h3⟩:=zfe hlt
      have:=(he e h2).1 (hall e h1)
      omega
    rw[hall q hq,hpW_t] at s;subst e1;subst e2;exact hQ a w s
  have hready:∀(listed:Array Bool),listed.size=ops.size->Region.ready .any ops listed=[]->∀k,k<ops.size->Arr listed k=true:=fun listed hsz h0 k=>by
    induction k using Nat.strongRecOn with
    | _ k ih =>
      intro hk;cases e:Arr listed k with
      | true=>rfl
      | false =>
        have hu:listed.getD k true=false:=by
          unfold Arr at e;simp[Array.getD,hsz,hk] at e ⊢;exact e
        obtain⟨o,ho⟩:∃o,ops[k]?=some o:=⟨_,Array.getElem?_eq_getElem hk⟩;obtain⟨inf,_,_,hb,_⟩:=hck k o ho
        have:k∈Region.ready .any ops listed:=mem_ready.2 ⟨hu,o,ho,fun e he hbe=>ih e.on (hb e he hbe) (by have:=hb e he hbe;omega)⟩
        rw[h0] at this;cases this
  intro fuel
  induction fuel with
  | zero =>
    intro listed fr c a w hsz hcl hi he hcn hcnt s;have hall:=zoH (Nat.le_zero.1 hcnt);refine⟨List.eq_nil_iff_forall_not_mem.2 fun i hi'=>?_,hend listed fr c a w hi he hcn hall s⟩;obtain⟨h1,o,ho,_⟩:=mem_ready.1 hi';have hk:i<ops.size:=(Array.getElem?_eq_some_iff.1 ho).1;have h2:=hall i hk;unfold Arr at h2;simp[Array.getD,hsz,hk] at h1 h2;rw[h1] at h2;cases h2
  | succ fuel ih =>
    intro listed fr c a w hsz hcl hi he hcn hcnt s;refine⟨fun h0=>hend listed fr c a w hi he hcn (hready listed hsz h0) s,fun i hir=>?_⟩;obtain⟨hun,o,ho,hdeps⟩:=mem_ready.1 hir;have hin:i<ops.size:=(Array.getElem?_eq_some_iff.1 ho).1;have hun':Arr listed i=false:=by
      unfold Arr;simp[Array.getD,hsz,hin] at hun ⊢;exact hun
    obtain⟨inf,hinf,hinf0,hback,hpair⟩:=hck i o ho;have hneed:∀j,zcs .any ops ops.size i j=true->Arr listed j=true:=fun j hj=>zeY hcl _ i j o ho hdeps hj
    have hneed':∀k o',ops[k]?=some o'->Arr listed k=true->zcs .any ops ops.size k i=true->False:=fun k o' ho' hk hn=>by
      have:=zeY hcl _ k i o' ho' (hcl k o' ho' hk) hn
      rw[this] at hun';cases hun'
    obtain⟨x,f,hx,hf,hcase⟩:=hr.at yw i o (by simpa using ho);rw[zero_add] at hcase;have hff:=hfs i f hf;have hagr:∀t∈o.looksAt ops,fr t=f t:=fun t ht=>hi.agree hff fun k ⟨o',ho',hd'⟩=>by
      have hk:k<ops.size:=(Array.getElem?_eq_some_iff.1 ho').1
      constructor
      . intro hl
        show k<0+i;rw[zero_add];refine lt_of_not_le fun hle=>?_
        have hne:i≠k:=fun e=>by subst e;rw[hl] at hun';cases hun'
        obtain⟨inf',hinf',_,_,hpair'⟩:=hck k o' ho';rcases hpair' i o inf ya ho hinf with h|⟨h,_⟩
        . exact hneed' k o' ho' hl h
        exact(Oper.apart_spec h).2.2 t hd' ht
      intro hl;have hl:k<i:=yaD;obtain⟨infk,hinfk⟩:∃y,info[k]?=some y:=yr;rcases hpair k o' infk hl ho' hinfk with h|⟨h,_⟩
      . exact hneed k h
      exact absurd ht ((Oper.apart_spec h).1 t hd')
    have hX:(xs[i]?).getD AV.idk=x:=by simp[hx]
    have hsz':(listed.setIfInBounds i true).size=ops.size:=by simpa using hsz
    have hArr:∀k,Arr (listed.setIfInBounds i true) k=if k=i then true else Arr listed k:=fun k=>zwd ya false
    have hcl':Closed .any ops (Arr (listed.setIfInBounds i true)):=fun k o' ho' hk e he' hb=>by
      rw[hArr] at hk ⊢;by_cases c1:e.on=i
      . rw[ut c1]
      rw[ur c1];by_cases c2:k=i
      . subst c2;rw[ho] at ho';injection ho' with ho';subst ho'
        exact hdeps e he' hb
      rw[ur c2] at hk;exact hcl k o' ho' hk e he' hb
    have hi':InvF ops (fun i=>(xs[i]?).getD .idk) f0 (fun k=>Arr (listed.setIfInBounds i true) k=true) (fr.put o.dst x):=by
      have:=hi.put ho (fun t k hd hk ⟨o',ho',hd'⟩=>by
        refine le_of_not_lt fun hlt=>?_
        obtain⟨inf',hinf',_,_,hpair'⟩:=hck k o' ho';rcases hpair' i o inf hlt ho hinf with h|⟨h,_⟩
        . exact hneed' k o' ho' hk h
        exact(Oper.apart_spec h).2.1 t hd hd')
      rw[hX] at this;have e:(fun k=>Arr listed k=true\/k=i)=fun k=>Arr (listed.setIfInBounds i true) k=true:=by
        funext k
        rw[hArr];by_cases c:k=i
        . simp[c]
        simp[c]
      rw[e] at this;exact this
    have hcnt':cntU (Arr (listed.setIfInBounds i true)) ops.size<=fuel:=by
      have:=zrD (L:=Arr listed) (L':=Arr (listed.setIfInBounds i true)) hun' (by rw[hArr,ut rfl]) (fun k hk=>by rw[hArr,ur hk]) hin
      omega
    have hcle:∀e,info[e]?=some none->e<i->effs info e=c->zcs .any ops ops.size i e=true->False:=fun e h1 h2 h3 h4=>by
      have:=(he e h1).1 (hneed e h4)
      omega
    have hcge:(∀m,inf=some m->m<1000000)->∀e,info[e]?=some none->i<e->effs info e<c->False:=fun h0 e h1 h2 h3=>by
      have hl:=(he e h1).2 h3;have hen:e<ops.size:=by
        have:=(ul.1 h1).1
        omega
      obtain⟨o',ho'⟩:∃o',ops[e]?=some o':=⟨_,Array.getElem?_eq_getElem hen⟩;obtain⟨inf',hinf',_,_,hpair'⟩:=hck e o' ho';rw[h1] at hinf';injection hinf' with hinf';rcases hpair' i o inf h2 ho hinf with h|⟨_,⟨m,h,_⟩|⟨_,m,h,hm⟩⟩
      . exact hneed' e o' ho' hl h
      . rw[<-hinf'] at h;cases h
      have:=h0 m h;omega
    have hwait:Arr listed q=false->zcs .any ops ops.size i q=false:=fun h=>by
      cases e:zcs .any ops ops.size i q with
      | false=>rfl
      | true=>rw[hneed q e] at h;cases h
    rcases hcase with ⟨m,hm,hiq,hval,hvall,h0⟩|⟨hm,hiq,heff,h0⟩|⟨hiq,⟨m,hm,hbig⟩,hflo⟩
    . 
      have hinf':inf=some m:=yce;have hq':Arr (listed.setIfInBounds i true) q=Arr listed q:=by rw[hArr,ur (fun h=>hiq h.symm)]
      have hy:YieldA J (hpW r (stAt S' c).hp (Arr listed q)) ops o x fr:=by
        have main:∀(Y:XS->Prop),(∀c,c < [s0].length+effs info i->[s0].length+effs info i<=c+win m->Y (stAt S' c))->(1000000<=m->∀c,[s0].length+effs info i<=c->c<S'.length->Y (stAt S' c))->Y (stAt S' c):=fun Y hval hvall=>by
          by_cases c1:c<=effs info i
          . have c2 : effs info i < c + win m := by
              by_cases hlt:c<effs info i
              . obtain⟨e,h1,h2,h3⟩:=zfe hlt
                obtain⟨oe,hoe⟩:∃o',ops[e]?=some o':=⟨_,Array.getElem?_eq_getElem ya⟩;rcases hpair e oe none h1 hoe h2 with h|⟨_,⟨m',h4,h5⟩|⟨_,m',h4,_⟩⟩
                . exact(hcle e h2 h1 h3 h).elim
                . rw[hinf'] at h4;injection h4 with h4;subst h4
                  have:=h5 rfl
                  omega
                cases h4
              have:=hinf0 m hinf'
              omega
            exact hval c yB yB
          by_cases hbig:1000000<=m
          . exact hvall hbig c yB ya
          exfalso;have hsm:∀m',inf=some m'->m'<1000000:=fun m' h=>by rw[hinf'] at h;injection h with h;omega
          obtain⟨e,h1,h2,h3⟩:=zfe (show effs info i<effs info ops.size by omega);rcases lt_trichotomy e i with h|h|h
          . have:=zhF (info:=info) (show e+1<=i by omega)
            rw[zdq h2] at this;simp at this;omega
          . subst h;rw[h2] at hm;cases hm
          exact hcge hsm e h2 h ya
        cases hβ:Arr listed q with
        | true=>exact(main (fun s=>YieldA J s.hp ops o x f) hval hvall).agree (fr':=fr) hagr
        | false =>
          obtain⟨_,g1,g2⟩:=h0 (hwait hβ);exact(main (fun s=>YieldA J (s.hp.set r .none_) ops o x f) g1 g2).agree (fr':=fr) hagr
      have hstep:∀(a':Act) (w':World),Sim J (stAt S' c).nx (fr.put o.dst x) (hpW r (stAt S' c).hp (Arr listed q)) a' w'->wpAnyIn J.F 0 J.P .any ops (Kont J k) fuel (listed.setIfInBounds i true) a' w':=fun a' w' s' =>
        ih _ _ c a' w' hsz' hcl' hi' (fun e h1=>by
          rw[hArr,<-he e h1]
          have:e≠i:=fun h=>by subst h;rw[h1] at hm;cases hm
          rw[ur this]) hcn hcnt' (by rw[hq'];exact s')
      unfold wpOpIn;rw[ho];obtain⟨ρ,s'⟩:=s;obtain⟨d,hd,hlt,hgd⟩:=hy.dst;rw[hd] at hstep;rcases hy.out with ⟨hw,hg⟩|⟨hw,rfl⟩
      . show if _ then _ else _
        rw[zdF s' hw hgd,ut rfl];refine opIn hg.nd (hg.run s'.toSimH (fun y _=>zak s' y) (fun y _=>zbH s'.fnx y) fun v w' hb hxv=>?_);rw[hd];exact hstep _ _ ⟨ρ,(s'.later hb).put hlt hxv (hg.und s'.hbelow (fun y _=>zbH s'.fnx y))⟩
      show if _ then _ else _
      rw[zdF s' hw hgd,ur yw,hd];exact⟨fun _ _=>trivial,hstep _ _ ⟨ρ,s'.put (x:=.lit undef) hlt rfl trivial⟩⟩
    . 
      have hinf':inf=none:=yce;have hq':Arr (listed.setIfInBounds i true) q=Arr listed q:=by rw[hArr,ur (fun h=>hiq h.symm)]
      have c1:c=effs info i:=by
        rcases lt_trichotomy c (effs info i) with h|h|h
        . obtain⟨e,h1,h2,h3⟩:=zfe h
          obtain⟨oe,hoe⟩:∃o',ops[e]?=some o':=⟨_,Array.getElem?_eq_getElem ya⟩;rcases hpair e oe none h1 hoe h2 with h|⟨_,⟨m',h4,_⟩|⟨_,m',h4,_⟩⟩
          . exact(hcle e h2 h1 h3 h).elim
          . rw[hinf'] at h4;cases h4
          cases h4
        . exact h
        have:=(he i hm).2 h
        rw[this] at hun';cases hun'
      have e1:[s0].length+effs info i-1=c:=yB;have e2:[s0].length+effs info i=c+1:=yB;rw[e1,e2] at heff h0;have heff':EffA J ops (stAt S' c).nx (hpW r (stAt S' c).hp (Arr listed q)) (stAt S' (c+1)).nx (hpW r (stAt S' (c+1)).hp (Arr listed q)) o x f:=by
        cases hβ:Arr listed q with
        | true=>exact heff
        | false=>exact(h0 (hwait hβ)).2.2
      refine zlo ho (heff' fr hagr (.again (wpAnyIn J.F 0 J.P .any ops (Kont J k) fuel (listed.setIfInBounds i true))::k) (fun a' w' s'=>?_) a w s);refine ih _ _ (c+1) a' w' hsz' hcl' hi' (fun e h1=>?_) ?_ hcnt' (by rw[hq'];exact s')
      . rw[hArr]
        by_cases c2:e=i
        . subst c2;rw[ut rfl];exact⟨fun _=>by omega,fun _=>rfl⟩
        rw[ur c2,he e h1]
        constructor
        . intro h;omega
        intro h
        have:effs info e≠effs info i:=fun hq=>by
          rcases Nat.lt_or_gt_of_ne c2 with h'|h'
          . have:=zhF (info:=info) (show e+1<=i by omega)
            rw[zdq h1] at this;simp at this;omega
          have:=zhF (info:=info) (show i+1<=e by omega)
          rw[zdq hm] at this;simp at this;omega
        omega
      have:=zhF (info:=info) (show i+1<=ops.size by omega)
      rw[zdq hm] at this;simp at this;omega
    subst hiq;rw[hun',hpW_f] at s;have hav:∀t,(fr t).avB r=true:=fun t=>by
      rcases hi t with ⟨j,h1,⟨oj,h2,_⟩,_,h4⟩|⟨_,h2⟩
      . rw[h4]
        obtain⟨x',f',hx',hf',hcase'⟩:=hr.at yw j oj (by simpa using h2);rw[zero_add] at hcase';have hn:zcs .any ops ops.size j i=false:=by
          cases e:zcs .any ops ops.size j i with
          | false=>rfl
          | true=>exact(hneed' j oj h2 h1 e).elim
        have ex:(xs[j]?).getD AV.idk=x':=by simp[hx']
        show((xs[j]?).getD AV.idk).avB r=true;rw[ex];rcases hcase' with ⟨_,_,_,_,_,h0⟩|⟨_,_,_,h0⟩|⟨hji,_,_⟩
        . exact(h0 hn).1
        . exact(h0 hn).1
        subst hji;rw[h1] at hun';cases hun'
      rw[h2];exact hf0 t
    have hbc:∀c',c'<=c->(stAt S' c').hp r=b:=fun c'=>by
      induction c' with
      | zero =>
        intro _;obtain⟨T,hT,_⟩:=hr.suffix
        have:stAt S' 0=s0:=by rw[hT,zbP T _ 0 yw];rfl
        rw[this];exact hb0
      | succ c' ihc =>
        intro hle;obtain⟨e,h1,h2,h3⟩:=zfe (show c'<effs info ops.size by omega);obtain⟨oe,hoe⟩:∃o',ops[e]?=some o':=⟨_,Array.getElem?_eq_getElem h1⟩;obtain⟨x',f',_,_,hcase'⟩:=hr.at yw e oe (by simpa using hoe);rw[zero_add] at hcase';have hn:zcs .any ops ops.size e i=false:=by
          cases en:zcs .any ops ops.size e i with
          | false=>rfl
          | true=>exact(hneed' e oe hoe ((he e h2).2 ya) en).elim
        rcases hcase' with ⟨_,hm',_⟩|⟨_,_,_,h0⟩|⟨_,⟨_,hm',_⟩,_⟩
        . rw[h2] at hm';cases hm'
        . have:=(h0 hn).2.1
          rw[show [s0].length+effs info e=c'+1 by simp;omega,Nat.add_sub_cancel] at this;rw[this];exact ihc ya
        rw[h2] at hm';cases hm'
    refine zlo ho (hflo _ _ fr (.again (wpAnyIn J.F 0 J.P .any ops (Kont J k) fuel (listed.setIfInBounds i true))::k) (hst c ya).lt (by rw[zn,ut rfl]) (fun n=>?_) hkg hbn hav (fun a' w' s'=>?_) a w s)
    . rw[zn]
      by_cases e:n=r
      . rw[ut e];rfl
      rw[ur e];exact(hst c ya).av n e
    refine ih _ _ c a' w' hsz' hcl' hi' (fun e h1=>?_) hcn hcnt' ?_
    . rw[hArr,<-he e h1]
      have:e≠i:=fun h=>by subst h;rw[h1] at hm;cases hm
      rw[ur this]
    rw[hArr,ut rfl,hpW_t];rw[hp_back (hbc c (ug _))] at s';exact s'
def XKF (J:Job) (ops:Array Oper) (k:List It) (q r:Nat) (b:HE) (i:Nat) (info:List (Option Nat)) (l:List Oper) (S:List XS) (fr:Fr) (pd:List (Nat×HE×Nat)):Prop:=∃xs fs s S' fr',XRunF J ops q r b i info l S fr xs fs (s::S') fr'/\AW J s.nx fr' s.hp k/\zoZ pd (s::S')
theorem Sim.stOk {nx:Nat} {fr:Fr} {hp:Hp} {a:Act} {w:World} (h:Sim J nx fr hp a w):hp nx = .none_/\(∀n,(hp n).avB nx=true)/\(∀t,(fr t).avB nx=true)/\J.kg<=nx/\J.bn<=nx:=by
  obtain⟨ρ,s⟩:=h;exact⟨s.hnx nx (ug _),fun n=>HE.av_under (s.hun n),fun t=>AV.av_under (s.fnx t),s.kle,s.ble⟩
theorem SimR.more {nx:Nat} {ρ:Nat->Value} {fr:Fr} {hp:Hp} {a:Act} {w:World} (h:SimR J nx ρ fr hp a w):SimR J (nx+1) ρ fr hp a w :=
  { h with
    kle:=by have:=h.kle;omega
    ble:=by have:=h.ble;omega
    hun:=fun n=>HE.under_mono (le_succ nx) (h.hun n)
    hnx:=fun n hn=>h.hnx n ya
    fnx:=fun t=>AV.under_mono (le_succ nx) (h.fnx t) }
theorem zwS {nx:Nat} {fr:Fr} {hp:Hp} {k:List It} {id:Nat} {l:List Oper} (q:Nat) (b:HE) (info:List (Option Nat)) (hm:J.P.follows .mixedOrders=true) (hB:zmi .any l.toArray info=true) (hq:Nat.blt q l.length=true) (h:XKF J l.toArray k q nx b 0 info l [⟨nx+1,hp.set nx b⟩] fr []) :
    AW J nx fr hp (.code (.region id l.toArray true)::k):=by
  obtain⟨xs,fs,s1,S',fr',hr,hQ,_⟩:=h;intro a w s;obtain⟨hno,hav,hf0,hkg,hbn⟩:=s.stOk;obtain⟨ρ,s⟩:=s;have sd:SimR J nx ρ fr hp a { w with drawn:=w.drawn+1 }:=s.later ⟨⟨rfl,rfl,rfl,ug _,fun _ _=>rfl⟩,le_succ _⟩;have s':=sd.more;refine wpIn_region_any hm ?_;obtain⟨T,hT,hTl,hok⟩:=hr.suffix;have e0:stAt (s1::S') 0=⟨nx+1,hp.set nx b⟩:=by rw[hT,zbP T _ 0 yw];rfl
  have e1:stAt (s1::S') (effs info info.length)=s1:=by
    have:S'.length=effs info info.length:=by
      have:=congrArg List.length hT
      simp at this;omega
    rw[<-this];exact zgN s1 S'
  have h0:∀i,Arr (Array.replicate l.toArray.size false) i=false:=fun i=>by
    unfold Arr;simp[Array.getD]
  have hq':q<l.toArray.size:=by simpa using hq
  refine any_conc3 hB (s0:=⟨nx+1,hp.set nx b⟩) hr hq' (hok fun s hs=>by simp at hs;subst hs;exact⟨Nat.lt_succ_self nx,fun n hn=>by show((hp.set nx b) n).avB nx=true;rw[zn,ur hn];exact hav n⟩) hkg hbn hf0 (by show(hp.set nx b) nx=b;rw[zn,ut rfl]) (by rw[e1];exact hQ) _ _ fr 0 a _ yw (fun i o _ hi=>by rw[h0] at hi;cases hi) (fun t=>.inr ⟨fun k hk=>absurd (show Arr _ k=true from hk) (by rw[h0];simp),rfl⟩) (fun e _=>by rw[h0];simp) (uf _) ?_ (by rw[e0,h0,hpW_f];show Sim J (nx+1) fr ((hp.set nx b).set nx .none_) a _;rw[hp_gone hno];exact⟨ρ,s'⟩)
  have:∀(L:Nat->Bool) n,cntU L n<=n:=fun L n=>by
    induction n with
    | zero=>exact ug _
    | succ n ih=>unfold cntU;split<;>omega
  exact this _ _
theorem zpX {hp:Hp} {r n:Nat} {v:HE} (hb:Nat.beq n r=false):(hp.set r .none_).set n v=(hp.set n v).set r .none_:=by
  have h:n≠r:=fun e=>by subst e;simp at hb
  funext m
  simp only[zn];by_cases e:m=n
  . by_cases e':m=r
    . exact absurd (e.symm.trans e') h
    rw[ut e,ur e',ut e]
  rw[ur e,ur e]
theorem hp_out2 {hp:Hp} {r n m:Nat} {v u:HE} (h:Nat.beq n r=false) (h':Nat.beq m r=false):((hp.set r .none_).set n v).set m u=((hp.set n v).set m u).set r .none_:=by rw[zpX h,zpX h']
theorem hp_out3 {hp:Hp} {r n m k:Nat} {v u t:HE} (h:Nat.beq n r=false) (h':Nat.beq m r=false) (h'':Nat.beq k r=false):(((hp.set r .none_).set n v).set m u).set k t=(((hp.set n v).set m u).set k t).set r .none_:=by rw[zpX h,zpX h',zpX h'']
theorem EffA.conv {nx nx':Nat} {hp hp1 hp2:Hp} {o:Oper} {x:AV} {fr:Fr} (h:EffA J ops nx hp nx' hp1 o x fr) (e:hp1=hp2):EffA J ops nx hp nx' hp2 o x fr:=e▸h
theorem zwV {hp:Hp} {r n:Nat} {v:HE} (h:∀m,m≠r->(hp m).avB r=true) (hv:v.avB r=true):∀m,m≠r->((hp.set n v) m).avB r=true:=fun m hm=>by
  rw[zn]
  split
  . exact hv
  exact h m hm
section
variable {k:List It} {info:List (Option Nat)} {o:Oper} {rest:List Oper} {S:List XS} {fr:Fr} {x:AV} {i:Nat}
variable {pd:List (Nat×HE×Nat)}
theorem XKF.nil {s:XS} (h:AW J s.nx fr s.hp k) (hp:zoZ pd (s::S)):XKF J ops k q r b i [] [] (s::S) fr pd:=⟨[],[],s,S,fr,.nil,h,hp⟩
theorem XKF.nilp {nx:Nat} {hp:Hp} (hp':zoZ pd (⟨nx,hp⟩::S)) (h:AW J nx fr hp k):XKF J ops k q r b i [] [] (⟨nx,hp⟩::S) fr pd:=XKF.nil h hp'
theorem zgi {i q:Nat} (h:Nat.beq i q=false):i≠q:=fun e=>by subst e;simp at h
theorem XKF.g {s:XS} {d:Nat} (hi:Nat.beq i q=false) (h:OpG J o fr s.hp x) (h0:OpG J o fr (s.hp.set r .none_) x) (hav:x.avB r=true) (hd:o.dst=some d) (hg:o.guard=none) (hlt:Nat.blt d J.nt=true) (H:XKF J ops k q r b (i+1) info rest (s::S) (fr.set d x) pd):XKF J ops k q r b i (some 1::info) (o::rest) (s::S) fr pd :=
  let ⟨_,_,_,_,_,h1,h2⟩:=show XKF J ops k q r b (i+1) info rest (s::S) (fr.put o.dst x) pd by rw[hd];exact H
  ⟨_,_,_,_,_,.g (x:=x) (zgi hi) (fun s' hs=>by rw[show win 1=1 from rfl] at hs;simp at hs;subst hs;exact zck h hd hg hlt) (fun hm=>absurd hm yl) (fun _=>⟨hav,fun s' hs=>by rw[show win 1=1 from rfl] at hs;simp at hs;subst hs;exact zck h0 hd hg hlt,fun hm=>absurd hm yl⟩) h1,h2⟩
theorem XKF.ga {m d:Nat} (hi:Nat.beq i q=false) (h:∀hp,OpG J o fr hp x) (hav:x.avB r=true) (hd:o.dst=some d) (hg:o.guard=none) (hlt:Nat.blt d J.nt=true) (H:XKF J ops k q r b (i+1) info rest S (fr.set d x) pd):XKF J ops k q r b i (some m::info) (o::rest) S fr pd :=
  let ⟨_,_,_,_,_,h1,h2⟩:=show XKF J ops k q r b (i+1) info rest S (fr.put o.dst x) pd by rw[hd];exact H
  ⟨_,_,_,_,_,.g (x:=x) (zgi hi) (fun s _=>zck (h s.hp) hd hg hlt) (fun _ s _=>zck (h s.hp) hd hg hlt) (fun _=>⟨hav,fun s _=>zck (h _) hd hg hlt,fun _ s _=>zck (h _) hd hg hlt⟩) h1,h2⟩
theorem XKF.gf {s:XS} {t n off m d:Nat} {v:HE} (hi:Nat.beq i q=false) (_ht:fr t = .ptr n off) (_hv:s.hp n=v) (h:∀hp,hp n=v->OpG J o fr hp x) (hav:x.avB r=true) (hnr:Nat.beq n r=false) (hb:zu4 n v (s::S) (win m)) (hd:o.dst=some d) (hg:o.guard=none) (hlt:Nat.blt d J.nt=true)
    (H:XKF J ops k q r b (i+1) info rest (s::S) (fr.set d x) ((n,v,(s::S).length)::pd)):XKF J ops k q r b i (some m::info) (o::rest) (s::S) fr pd :=
  let ⟨_,_,_,_,_,h1,h2,h3⟩:=show XKF J ops k q r b (i+1) info rest (s::S) (fr.put o.dst x) ((n,v,(s::S).length)::pd) by rw[hd];exact H
  have e:∀hp:Hp,hp n=v->(hp.set r .none_) n=v:=fun hp h=>by rw[zn,ur (zgi hnr)];exact h
  ⟨_,_,_,_,_,.g (x:=x) (zgi hi) (fun s' hs=>zck (h s'.hp (zdt hb s' hs)) hd hg hlt) (fun _ s' hs=>zck (h s'.hp (zdt h3.1 s' hs)) hd hg hlt)
    (fun _=>⟨hav,fun s' hs=>zck (h _ (e _ (zdt hb s' hs))) hd hg hlt,fun _ s' hs=>zck (h _ (e _ (zdt h3.1 s' hs))) hd hg hlt⟩) h1,h2,h3.2⟩
theorem XKF.gb {s:XS} {t n off m d:Nat} {v:HE} (hi:Nat.beq i q=false) (_ht:fr t = .ptr n off) (_hv:s.hp n=v) (h:∀hp,hp n=v->OpG J o fr hp x) (hav:x.avB r=true) (hnr:Nat.beq n r=false) (hm:Nat.blt m 1000000=true) (hb:zu4 n v (s::S) m) (hd:o.dst=some d) (hg:o.guard=none) (hlt:Nat.blt d J.nt=true)
    (H:XKF J ops k q r b (i+1) info rest (s::S) (fr.set d x) pd):XKF J ops k q r b i (some m::info) (o::rest) (s::S) fr pd :=
  let ⟨_,_,_,_,_,h1,h2⟩:=show XKF J ops k q r b (i+1) info rest (s::S) (fr.put o.dst x) pd by rw[hd];exact H
  have hm':m<1000000:=by simpa using hm
  have hw:win m=m:=by unfold win;rw[ur ya,ur ya]
  have e:∀hp:Hp,hp n=v->(hp.set r .none_) n=v:=fun hp h=>by rw[zn,ur (zgi hnr)];exact h
  ⟨_,_,_,_,_,.g (x:=x) (zgi hi) (fun s' hs=>by rw[hw] at hs;exact zck (h s'.hp (zdt hb s' hs)) hd hg hlt) (fun hm2=>by omega)
    (fun _=>⟨hav,fun s' hs=>by rw[hw] at hs;exact zck (h _ (e _ (zdt hb s' hs))) hd hg hlt,fun hm2=>by omega⟩) h1,h2⟩
theorem XKF.e {s:XS} {nx':Nat} {hp':Hp} (hi:Nat.beq i q=false) (h:EffA J ops s.nx s.hp nx' hp' o x fr) (h0:EffA J ops s.nx (s.hp.set r .none_) nx' (hp'.set r .none_) o x fr) (hav:x.avB r=true) (hr:hp' r=s.hp r) (hlt:Nat.blt r nx'=true) (hav':∀n,n≠r->(hp' n).avB r=true)
    (H:XKF J ops k q r b (i+1) info rest (⟨nx',hp'⟩::s::S) (fr.put o.dst x) pd):XKF J ops k q r b i (none::info) (o::rest) (s::S) fr pd :=
  let ⟨_,_,_,_,_,h1,h2⟩:=H;⟨_,_,_,_,_,.e (zgi hi) ⟨by simpa using hlt,hav'⟩ h (fun _=>⟨hav,hr,h0⟩) h1,h2⟩
theorem XKF.ew {s:XS} {nx':Nat} {hp':Hp} (hi:Nat.beq i q=false) (hn:zcs .any ops ops.size i q=true) (h:EffA J ops s.nx s.hp nx' hp' o x fr) (hlt:Nat.blt r nx'=true) (hav':∀n,n≠r->(hp' n).avB r=true)
    (H:XKF J ops k q r b (i+1) info rest (⟨nx',hp'⟩::s::S) (fr.put o.dst x) pd):XKF J ops k q r b i (none::info) (o::rest) (s::S) fr pd :=
  let ⟨_,_,_,_,_,h1,h2⟩:=H;⟨_,_,_,_,_,.e (zgi hi) ⟨by simpa using hlt,hav'⟩ h (fun h=>by rw[hn] at h;cases h) h1,h2⟩
theorem XKF.f {α:Type} {T:GoT α} {ty d m:Nat} {z:α} (hi:Nat.beq i q=true) (hz:zaw J.P ty T z) (hb:b = .box ty T z) (ho:o.op = .alloc ty) (hd:o.dst=some d) (hg:o.guard=none) (hlt:Nat.blt d J.nt=true) (hm:Nat.ble 1000000 m=true)
    (H:XKF J ops k q r b (i+1) info rest S (fr.set d (.ptr r 0)) pd):XKF J ops k q r b i (some m::info) (o::rest) S fr pd :=
  let ⟨_,_,_,_,_,h1,h2⟩:=show XKF J ops k q r b (i+1) info rest S (fr.put o.dst (.ptr r 0)) pd by rw[hd];exact H
  ⟨_,_,_,_,_,.f (x:=.ptr r 0) (Nat.eq_of_beq_eq_true hi) (by rw[hb];exact floA_alloc hz ho hd hg hlt) (Nat.le_of_ble_eq_true hm) h1,h2⟩
end
end
end Go.Ab
