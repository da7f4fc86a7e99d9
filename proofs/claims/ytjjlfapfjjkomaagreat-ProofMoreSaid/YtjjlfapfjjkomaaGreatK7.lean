/- Parts of the proof: the layer that reads Go values as data, and what the functions of the program tell. -/
import Derived.Test.YtjjlfapfjjkomaaGreatK6
set_option linter.unusedVariables false
set_option linter.unusedSimpArgs false
set_option maxRecDepth 20000
namespace Go.Proofs.YtjjlfapfjjkomaaGreat
open Go.Ab Go.RowKit
theorem getU_all {l:List UInt8} {n:Nat} (h:l.length=n) (hn:n≤8):getU l 0 (n:Int)=valU l:=by
  have hg:getOk l 0 (n:Int)=true:=by unfold getOk;rw [decide_eq_true_eq];omega
  rw [getU_yes hg,show (0:Int).toNat=0 from rfl,List.drop_zero,show ((n:Int)).toNat=n by omega,List.take_of_length_le (by omega)]
theorem u32_of {l:List UInt8} (h:l.length≤4):u32OfI (IntL.toI u64T (valU l))=UInt32.ofNat (valU l).toNat:=by
  unfold u32OfI
  have e:IntL.toI u64T (valU l)=((valU l).toNat:Int):=rfl
  have h1:=valU_n l (by omega)
  have h2:=valN_lt l
  have h3:256^l.length≤256^4:=Nat.pow_le_pow_right (by decide) h
  have h4:(256:Nat)^4=4294967296:=rfl
  rw [e]
  congr 1
  omega
theorem dd (b:List UInt8) (i j k:Nat) (h:i+j=k):(b.drop i).drop j=b.drop k:=by rw [List.drop_drop,h]
theorem num4_at {X:List UInt8} (h:4≤X.length):getU (X.take (Int.toNat 4)) 0 4=valU (X.take 4):=getU_all (l:=X.take 4) (n:=4) (by rw [List.length_take];omega) (by decide)
theorem num8_at {X:List UInt8} (h:8≤X.length):getU (X.take (Int.toNat 8)) 0 8=valU (X.take 8):=getU_all (l:=X.take 8) (n:=8) (by rw [List.length_take];omega) (by decide)
theorem zeU {l:List UInt8} (h:l.length≤4):IntKind.i64.wrap (IntL.toI u64T (valU l))=((valU l).toNat:Int):=by
  have e:IntL.toI u64T (valU l)=((valU l).toNat:Int):=rfl
  have h1:=valU_n l (by omega)
  have h2:=valN_lt l
  have h3:256^l.length≤256^4:=Nat.pow_le_pow_right (by decide) h
  have h4:(256:Nat)^4=4294967296:=rfl
  rw [e]
  exact zaa (by omega)
theorem head_mk {x y:Head} (h1:x.height=y.height) (h2:x.prev=y.prev) (h3:x.links=y.links) (h4:x.txs=y.txs) (h5:x.past=y.past) (h6:x.work=y.work) (h7:x.bits=y.bits) (h8:x.nonce=y.nonce):x=y:=by
  cases x;cases y
  simp only at h1 h2 h3 h4 h5 h6 h7 h8
  subst h1 h2 h3 h4 h5 h6 h7 h8
  rfl
def D1 (b:List UInt8):=b.drop (Int.toNat 4)
def D2 (b:List UInt8):=(D1 b).drop (Int.toNat 32)
def D3 (b:List UInt8):=(D2 b).drop (Int.toNat 32)
def D4 (b:List UInt8):=(D3 b).drop (Int.toNat 32)
def D5 (b:List UInt8):=(D4 b).drop (Int.toNat 32)
def D6 (b:List UInt8):=(D5 b).drop (Int.toNat 32)
def D7 (b:List UInt8):=(D6 b).drop (Int.toNat 4)
theorem d2 (b:List UInt8):D2 b=b.drop 36:=dd b 4 32 36 rfl
theorem d3 (b:List UInt8):D3 b=b.drop 68:=by unfold D3;rw [d2];exact dd b 36 32 68 rfl
theorem d4 (b:List UInt8):D4 b=b.drop 100:=by unfold D4;rw [d3];exact dd b 68 32 100 rfl
theorem d5 (b:List UInt8):D5 b=b.drop 132:=by unfold D5;rw [d4];exact dd b 100 32 132 rfl
theorem d6 (b:List UInt8):D6 b=b.drop 164:=by unfold D6;rw [d5];exact dd b 132 32 164 rfl
theorem d7 (b:List UInt8):D7 b=b.drop 168:=by unfold D7;rw [d6];exact dd b 164 4 168 rfl
theorem rd_is {b : List UInt8} (hl : b.length = 176) {x : Head} (h1 : x.height = IntKind.i64.wrap (IntL.toI u64T (getU (b.take (Int.toNat 4)) 0 4))) (h2 : x.prev = (D1 b).take (Int.toNat 32)) (h3 : x.links = (D2 b).take (Int.toNat 32)) (h4 : x.txs = (D3 b).take (Int.toNat 32)) (h5 : x.past = (D4 b).take (Int.toNat 32))
    (h6:x.work=of32W ((D5 b).take (Int.toNat 32))) (h7:x.bits=u32OfI (IntL.toI u64T (getU ((D6 b).take (Int.toNat 4)) 0 4))) (h8:x.nonce=getU ((D7 b).take (Int.toNat 8)) 0 8):x=readHd b:=by
  rw [num4_at (by omega),zeU (by rw [List.length_take];omega)] at h1
  rw [d2] at h3
  rw [d3] at h4
  rw [d4] at h5
  rw [d5] at h6
  rw [d6,num4_at (by rw [List.length_drop];omega),u32_of (by rw [List.length_take];omega)] at h7
  rw [d7,num8_at (by rw [List.length_drop];omega)] at h8
  exact head_mk (h1.trans (by simp only [readHd])) (h2.trans (by simp only [readHd];rfl)) (h3.trans (by simp only [readHd];rfl)) (h4.trans (by simp only [readHd];rfl)) (h5.trans (by simp only [readHd];rfl)) (h6.trans (by simp only [readHd];rfl)) (h7.trans (by simp only [readHd])) (h8.trans (by simp only [readHd]))
theorem readH_no {b:List UInt8} (h:¬readHOk b=true):readH b=zHead:=by unfold readH;rw [if_neg h]
theorem readH_yes {b:List UInt8} (h:readHOk b=true):readH b=readHd b:=by unfold readH;rw [if_pos h]
theorem readHead_ok (b:List UInt8):Tells P 95 [.val (bsl u8T) b] (.tup2 (.val headT (readH b)) (.val boolT (readHOk b))):=by
 refine zc Tryz.func95 rfl rfl rfl (fun ext w hext=>?_)
 refine ze (d:=0) rfl zk (fun hsl0=>?_)
 refine CQR ?_;refine qbU ?_;refine qai ?_;refine qbD ?_;refine qaS ?_;refine zr (p:=¬b.length=176) rfl (by simp [IntL.toI];omega) (fun ht8=>?_) (fun ht8=>?_)
 ·
  have hno:¬readHOk b=true:=by unfold readHOk;rw [Bool.and_eq_true,decide_eq_true_eq];exact fun h=>ht8 h.1
  refine CQR ?_;refine A0 (zC rfl ze_52 bd_52 .nil rfl) ?_;refine qaO ?_;refine qac ?_
  exact zz rfl rfl (zF rfl rfl zav ((readH_no hno).symm)) (zaf (za rfl ((Bool.eq_false_iff.2 hno).symm)))
 ·
  have hl:b.length=176:=Classical.not_not.1 ht8
  refine qbF ?_;refine A0 (zC rfl ze_195 bd_195 (.cons fd_195_0 L_Reader_b zc6 rfl .nil) rfl) ?_;refine aw_box rfl rfl rfl rfl rfl ?_;refine A0 aP ?_;refine CNQR ?_;refine qbU ?_;refine CNQR ?_;refine A0 mP ?_;refine zU rfl rfl rfl rfl Tryz.func148 fn_148 rfl rfl (fun ia1 iok1=>?_)
  refine CQR ?_;refine qar ?_;refine A0 mP ?_;refine qaw ?_;refine zU rfl rfl rfl rfl Tryz.func205 fn_205 rfl rfl (fun ia2 iok2=>?_)
  refine qaX ?_;refine A0 mP ?_;refine A0 (g_nc rfl rfl) ?_;refine qaz ?_;refine A0 (by first|exact zbj rfl rfl rfl (by first|rfl|omega) zar|exact zdG rfl rfl rfl zar (by first|assumption|omega|(simp;omega))) ?_;refine qbR ?_;refine A0 (g_nc rfl rfl) ?_;refine qaz ?_;refine A0 (zen rfl rfl rfl zar (by first|assumption|omega|(simp;omega))) ?_;refine A0 (g_nc rfl rfl) ?_;refine qa0 ?_;refine zaK rfl ?_;refine qaw ?_
  refine A0 (oCl (binGet_ok _ _ _) rfl fn_204 ⟨(by first|exact zB rfl|exact zZ rfl|exact zG rfl rfl|exact zX rfl|exact zx rfl|exact zag rfl rfl|exact zY rfl),(zd rfl),(zd rfl),trivial⟩) ?_;refine A0 mX ?_;refine A0 (by first|exact zN rfl rfl|exact zM rfl rfl) ?_;refine A0 (by first|exact zQ rfl rfl|exact zP rfl rfl) ?_;refine qbw ?_;refine qac ?_;refine zaK rfl ?_;refine A0 (zev rfl (ui_3) (us_47) rfl (by first|exact zaa (by omega)|rfl)) ?_;refine A0 (oFp zbh) ?_;refine zh rfl rfl rfl rfl rfl zae ty_3 rfl ?_
  refine CNQR ?_;refine A0 mP ?_;refine zU rfl rfl rfl rfl Tryz.func149 fn_149 rfl rfl (fun ia3 iok3=>?_)
  refine qby ?_;refine A0 mP ?_;refine zU rfl rfl rfl rfl Tryz.func205 fn_205 rfl rfl (fun ia4 iok4=>?_)
  refine qaX ?_;refine A0 mP ?_;refine A0 (g_nc rfl rfl) ?_;refine qaz ?_;refine A0 (by first|exact zbj rfl rfl rfl (by first|rfl|omega) zar|exact zdG rfl rfl rfl zar (by first|assumption|omega|(simp;omega))) ?_;refine qbR ?_;refine A0 (g_nc rfl rfl) ?_;refine qaz ?_;refine A0 (zen rfl rfl rfl zar (by first|assumption|omega|(simp;omega))) ?_;refine A0 (g_nc rfl rfl) ?_;refine qa0 ?_;refine zaK rfl ?_;refine A0 (g_s2a (T:=u8T) (n:=32) 5 (by decide) rfl rfl (by kernel_rfl) (by simp;omega)) ?_;refine A0 (zg rfl rfl zI) ?_;refine qaq ?_
  refine zdo rfl rfl rfl zI ?_;refine A0 mP ?_;refine zU rfl rfl rfl rfl Tryz.func149 fn_149 rfl rfl (fun ia5 iok5=>?_)
  refine qby ?_;refine A0 mP ?_;refine zU rfl rfl rfl rfl Tryz.func205 fn_205 rfl rfl (fun ia6 iok6=>?_)
  refine qaX ?_;refine A0 mP ?_;refine A0 (g_nc rfl rfl) ?_;refine qaz ?_;refine A0 (by first|exact zbj rfl rfl rfl (by first|rfl|omega) zar|exact zdG rfl rfl rfl zar (by first|assumption|omega|(simp;omega))) ?_;refine qbR ?_;refine A0 (g_nc rfl rfl) ?_;refine qaz ?_;refine A0 (zen rfl rfl rfl zar (by first|assumption|omega|(simp;omega))) ?_;refine A0 (g_nc rfl rfl) ?_;refine qa0 ?_;refine zaK rfl ?_;refine A0 (g_s2a (T:=u8T) (n:=32) 5 (by decide) rfl rfl (by kernel_rfl) (by simp;omega)) ?_;refine A0 (zg rfl rfl zI) ?_;refine qaq ?_
  refine zdo rfl rfl rfl zI ?_;refine A0 mP ?_;refine zU rfl rfl rfl rfl Tryz.func149 fn_149 rfl rfl (fun ia7 iok7=>?_)
  refine qby ?_;refine A0 mP ?_;refine zU rfl rfl rfl rfl Tryz.func205 fn_205 rfl rfl (fun ia8 iok8=>?_)
  refine qaX ?_;refine A0 mP ?_;refine A0 (g_nc rfl rfl) ?_;refine qaz ?_;refine A0 (by first|exact zbj rfl rfl rfl (by first|rfl|omega) zar|exact zdG rfl rfl rfl zar (by first|assumption|omega|(simp;omega))) ?_;refine qbR ?_;refine A0 (g_nc rfl rfl) ?_;refine qaz ?_;refine A0 (zen rfl rfl rfl zar (by first|assumption|omega|(simp;omega))) ?_;refine A0 (g_nc rfl rfl) ?_;refine qa0 ?_;refine zaK rfl ?_;refine A0 (g_s2a (T:=u8T) (n:=32) 5 (by decide) rfl rfl (by kernel_rfl) (by simp;omega)) ?_;refine A0 (zg rfl rfl zI) ?_;refine qaq ?_
  refine zdo rfl rfl rfl zI ?_;refine A0 mP ?_;refine zU rfl rfl rfl rfl Tryz.func149 fn_149 rfl rfl (fun ia9 iok9=>?_)
  refine qby ?_;refine A0 mP ?_;refine zU rfl rfl rfl rfl Tryz.func205 fn_205 rfl rfl (fun ia10 iok10=>?_)
  refine qaX ?_;refine A0 mP ?_;refine A0 (g_nc rfl rfl) ?_;refine qaz ?_;refine A0 (by first|exact zbj rfl rfl rfl (by first|rfl|omega) zar|exact zdG rfl rfl rfl zar (by first|assumption|omega|(simp;omega))) ?_;refine qbR ?_;refine A0 (g_nc rfl rfl) ?_;refine qaz ?_;refine A0 (zen rfl rfl rfl zar (by first|assumption|omega|(simp;omega))) ?_;refine A0 (g_nc rfl rfl) ?_;refine qa0 ?_;refine zaK rfl ?_;refine A0 (g_s2a (T:=u8T) (n:=32) 5 (by decide) rfl rfl (by kernel_rfl) (by simp;omega)) ?_;refine A0 (zg rfl rfl zI) ?_;refine qaq ?_
  refine zdo rfl rfl rfl zI ?_;refine A0 (oFp zdv) ?_;refine zh rfl rfl rfl rfl rfl zc2 zI rfl ?_;refine A0 (oFp zcX) ?_;refine zh rfl rfl rfl rfl rfl zbR zI rfl ?_;refine A0 (oFp zd9) ?_;refine zh rfl rfl rfl rfl rfl zeT zI rfl ?_;refine A0 (oFp zd8) ?_;refine zh rfl rfl rfl rfl rfl zeh zI rfl ?_;refine CNQR ?_;refine A0 mP ?_;refine zU rfl rfl rfl rfl Tryz.func149 fn_149 rfl rfl (fun ia11 iok11=>?_)
  refine qby ?_;refine A0 mP ?_;refine zU rfl rfl rfl rfl Tryz.func205 fn_205 rfl rfl (fun ia12 iok12=>?_)
  refine qaX ?_;refine A0 mP ?_;refine A0 (g_nc rfl rfl) ?_;refine qaz ?_;refine A0 (by first|exact zbj rfl rfl rfl (by first|rfl|omega) zar|exact zdG rfl rfl rfl zar (by first|assumption|omega|(simp;omega))) ?_;refine qbR ?_;refine A0 (g_nc rfl rfl) ?_;refine qaz ?_;refine A0 (zen rfl rfl rfl zar (by first|assumption|omega|(simp;omega))) ?_;refine A0 (g_nc rfl rfl) ?_;refine qa0 ?_;refine zaK rfl ?_;refine A0 (g_s2a (T:=u8T) (n:=32) 5 (by decide) rfl rfl (by kernel_rfl) (by simp;omega)) ?_;refine A0 (zg rfl rfl zI) ?_;refine qaq ?_
  refine zdo rfl rfl rfl zI ?_;refine A0 (oCl (of32W_ok _) rfl fn_150 ⟨(zd rfl),trivial⟩) ?_;refine A0 (oFp zex) ?_;refine zh rfl rfl rfl rfl rfl zfi zam rfl ?_;refine CNQR ?_;refine A0 mP ?_;refine zU rfl rfl rfl rfl Tryz.func148 fn_148 rfl rfl (fun ia13 iok13=>?_)
  refine CQR ?_;refine qar ?_;refine A0 mP ?_;refine qaw ?_;refine zU rfl rfl rfl rfl Tryz.func205 fn_205 rfl rfl (fun ia14 iok14=>?_)
  refine qaX ?_;refine A0 mP ?_;refine A0 (g_nc rfl rfl) ?_;refine qaz ?_;refine A0 (by first|exact zbj rfl rfl rfl (by first|rfl|omega) zar|exact zdG rfl rfl rfl zar (by first|assumption|omega|(simp;omega))) ?_;refine qbR ?_;refine A0 (g_nc rfl rfl) ?_;refine qaz ?_;refine A0 (zen rfl rfl rfl zar (by first|assumption|omega|(simp;omega))) ?_;refine A0 (g_nc rfl rfl) ?_;refine qa0 ?_;refine zaK rfl ?_;refine qaw ?_
  refine A0 (oCl (binGet_ok _ _ _) rfl fn_204 ⟨(by first|exact zB rfl|exact zZ rfl|exact zG rfl rfl|exact zX rfl|exact zx rfl|exact zag rfl rfl|exact zY rfl),(zd rfl),(zd rfl),trivial⟩) ?_;refine A0 mX ?_;refine A0 (by first|exact zN rfl rfl|exact zM rfl rfl) ?_;refine A0 (by first|exact zQ rfl rfl|exact zP rfl rfl) ?_;refine qbw ?_;refine qac ?_;refine zaK rfl ?_;refine A0 (g_cv32 rfl (ui_50) (us_47) rfl) ?_;refine A0 (oFp zbM) ?_;refine zh rfl rfl rfl rfl rfl za2 zbe rfl ?_;refine CNQR ?_;refine A0 mP ?_
  refine zU rfl rfl rfl rfl Tryz.func148 fn_148 rfl rfl (fun ia15 iok15=>?_)
  refine CQR ?_;refine qar ?_;refine A0 mP ?_;refine qaw ?_;refine zU rfl rfl rfl rfl Tryz.func205 fn_205 rfl rfl (fun ia16 iok16=>?_)
  refine qaX ?_;refine A0 mP ?_;refine A0 (g_nc rfl rfl) ?_;refine qaz ?_;refine A0 (by first|exact zbj rfl rfl rfl (by first|rfl|omega) zar|exact zdG rfl rfl rfl zar (by first|assumption|omega|(simp;omega))) ?_;refine qbR ?_;refine A0 (g_nc rfl rfl) ?_;refine qaz ?_;refine A0 (zen rfl rfl rfl zar (by first|assumption|omega|(simp;omega))) ?_;refine A0 (g_nc rfl rfl) ?_;refine qa0 ?_;refine zaK rfl ?_;refine qaw ?_
  refine A0 (oCl (binGet_ok _ _ _) rfl fn_204 ⟨(by first|exact zB rfl|exact zZ rfl|exact zG rfl rfl|exact zX rfl|exact zx rfl|exact zag rfl rfl|exact zY rfl),(zd rfl),(zd rfl),trivial⟩) ?_;refine A0 mX ?_;refine A0 (by first|exact zN rfl rfl|exact zM rfl rfl) ?_;refine A0 (by first|exact zQ rfl rfl|exact zP rfl rfl) ?_;refine qbw ?_;refine qac ?_;refine zaK rfl ?_;refine A0 (oFp zcW) ?_;refine zh rfl rfl rfl rfl rfl zbQ zbi rfl ?_;refine CNQ ?_;refine CQ ?_
  refine zS (n:=2) (y:=readHd b) rfl (rd_is hl (by simp only [D1,D2,D3,D4,D5,D6,D7]) (by simp only [D1,D2,D3,D4,D5,D6,D7]) (by simp only [D1,D2,D3,D4,D5,D6,D7]) (by simp only [D1,D2,D3,D4,D5,D6,D7]) (by simp only [D1,D2,D3,D4,D5,D6,D7]) (by simp only [D1,D2,D3,D4,D5,D6,D7]) (by simp only [D1,D2,D3,D4,D5,D6,D7]) (by simp only [D1,D2,D3,D4,D5,D6,D7])) ?_;refine CR ?_;refine qb3 ?_;refine A0 zaI ?_;refine CN ?_;refine Cf (p:=1048576<(readHd b).height) (fun ht42=>?_) (fun ht42=>?_)
  ·
   have hno:¬readHOk b=true:=fun h=>by have:=(rd_ok (b:=b) (by unfold readHOk at h;rw [Bool.and_eq_true,decide_eq_true_eq,decide_eq_true_eq] at h;exact h.2)).2;omega
   refine CQR ?_;refine A0 (zC rfl ze_52 bd_52 .nil rfl) ?_;refine qaO ?_;refine qac ?_
   exact zz rfl rfl (zF rfl rfl zav ((readH_no hno).symm)) (zaf (za rfl ((Bool.eq_false_iff.2 hno).symm)))
  ·
   have hrh:(readHd b).height=((valU (b.take 4)).toNat:Int):=by simp only [readHd]
   have hyes:readHOk b=true:=by unfold readHOk;rw [Bool.and_eq_true,decide_eq_true_eq,decide_eq_true_eq];exact ⟨hl,by omega⟩
   refine CSQR ?_;refine qb4 ?_;refine qaO ?_;refine qac ?_
   exact zz rfl rfl (zF rfl rfl zav ((readH_yes hyes).symm)) (zaf (za rfl (hyes.symm)))
set_option maxRecDepth 20000
abbrev noV:Value:=.iface 145 (.agg #[])
theorem fine_idle (b:Nat) (w:World):CallsDIn Fence.wide 0 P 86 #[.pointer (some ⟨b,0,none⟩)] .returning w fun e u w'=>e = .returned (.tuple #[])∧u = .returning∧w'=w:=by
  have hn:Tryz.f86.ntmps=7:=rfl
  refine callsDIn_of_wpSIn Tryz.func86 rfl trivial fun c₀ cs hu=>?_
  rw [hn]
  apply wpSIn_seq
  apply wpSIn_region
  simp [wpOpsSIn,go_sem,recoverD,hu,Exit.thenS]
  apply wpSIn_seq
  apply wpSIn_region
  simp [wpOpsSIn,go_sem,recoverD,hu,Exit.thenS]
  refine wpSIn_cond (t:=false) (by simp [Act.eval,Array.replicate]) ?_
  simp only [Bool.false_eq_true,if_false]
  refine wpSIn_of_wpIn rfl (wpIn_skip ?_)
  cases c₀
  simp_all [bodyPostS,results]
theorem fine_caught (b : Nat) (w : World) (x : Bool) (hw : w.heap[b]? = some (.cells #[.bool x] 4 (0, 0))) : CallsDIn Fence.wide 0 P 86 #[.pointer (some ⟨b, 0, none⟩)] (.panicking [{ v := noV, recovered := false }]) w
    fun e u w'=>e = .returned (.tuple #[])∧u = .panicking [{ v:=noV,recovered:=true }]∧w'=w.putObj b (.cells #[.bool false] 4 (0,0)):=by
  have hn:Tryz.f86.ntmps=7:=rfl
  refine callsDIn_of_wpSIn Tryz.func86 rfl trivial fun c₀ cs hu=>?_
  rw [hn]
  apply wpSIn_seq
  apply wpSIn_region
  simp [wpOpsSIn,go_sem,recoverD,hu,Exit.thenS]
  apply wpSIn_seq
  apply wpSIn_region
  simp [wpOpsSIn,go_sem,recoverD,hu,Exit.thenS]
  refine wpSIn_cond (t:=true) (by simp [Act.eval,Array.replicate]) ?_
  simp only [if_true]
  apply wpSIn_seq
  apply wpSIn_region
  simp [wpOpsSIn,go_sem,recoverD,hu,Exit.thenS]
  have hta:∀w,(Instr.typeAssert noV 20 145 false).run P w = .ok (.agg #[]) w:=fun w=>by kernel_rfl
  have hc:w.cell? { block:=b,off:=0 }=some (.bool x):=by simp [World.cell?,hw]
  have hz:w.frozen? { block:=b,off:=0 }=false:=by simp [World.frozen?,hw]
  have hs:w.setCell { block:=b,off:=0 } (.bool false)=w.putObj b (.cells #[.bool false] 4 (0,0)):=by
    unfold World.setCell World.putObj
    congr 1
    apply Array.ext_getElem?
    intro i
    rw [Array.getElem?_modify,Array.getElem?_setIfInBounds]
    by_cases e:b=i
    · subst e
      have hlt:b<w.heap.size:=(Array.getElem?_eq_some_iff.1 hw).1
      rw [if_pos rfl,if_pos rfl,if_pos hlt,hw]
      rfl
    · rw [if_neg e,if_neg e]
  rw [hta]
  simp only [Result.andThen_ok]
  apply wpSIn_region
  simp [wpOpsSIn,go_sem,hc,hz,hs,bodyPostS,results]
theorem zaX:Catches P 86 4 noV:=⟨fn_86,fine_idle,fine_caught⟩
theorem za4 (b:Bool):TellsP P 89 [.val boolT b] (b=true) noV (.lit (.tuple #[])):=by
 refine fnp_of_aw Tryz.func89 rfl rfl rfl (fun ext w hext=>?_)
 refine qa1 ?_;refine qaN ?_;refine zr (p:=¬b=true) rfl (by cases b<;>rfl) (fun ht3=>?_) (fun ht3=>?_)
 ·
  refine CR ?_;refine A0 (g_build0 rfl zu_145 su_145) ?_;refine A0 (g_mkif rfl rfl (by kernel_rfl)) ?_;refine aw_panic rfl rfl rfl ?_
  exact ap_of (ht3)
 ·
  refine CS ?_
  exact aw_fall (ar_ret0P rfl rfl rfl (Classical.not_not.1 ht3))
theorem rows_pok (l:List (List UInt8)):TellsP P 90 [.val (bsl (bsl u8T)) l] (rowsOk l=true) noV (.fresh 5 u8T (rowsL l)):=by
 refine fnp_of_aw Tryz.func90 rfl rfl rfl (fun ext w hext=>?_)
 refine ze (d:=0) rfl zk (fun hsl0=>?_)
 refine qaX ?_;refine qaw ?_;refine aw_callf2 (binRows_ok l) rfl fn_145 ⟨(zd rfl),trivial⟩ flat_bool rfl rfl rfl ?_;refine A0 (by first|exact zdd (.inl rfl) rfl|exact zdc (.inl rfl) rfl) ?_;refine A0 (by first|exact zN rfl rfl|exact zM rfl rfl) ?_;refine A0 (by first|exact zQ rfl rfl|exact zP rfl rfl) ?_;refine A0 aO ?_;refine qbe ?_;refine zaD (za4 (rowsOk l)) rfl zei rfl ⟨(by first|exact zB rfl|exact zZ rfl|exact zG rfl rfl|exact zX rfl|exact zx rfl|exact zag rfl rfl|exact zY rfl),trivial⟩ (fun hm=>?_) (fun hm=>?_)
 ·
  exact ap_of (hm)
 ·
  refine A0 (oCl ((za4 (rowsOk l)).1 hm) rfl zei ⟨(by first|exact zB rfl|exact zZ rfl|exact zG rfl rfl|exact zX rfl|exact zx rfl|exact zag rfl rfl|exact zY rfl),trivial⟩) ?_;refine CNQR ?_;refine A0 mO ?_;refine qbk ?_
  exact aw_ret1P rfl rfl hm (zf rfl rfl (by unfold rowsR;rw [if_pos hm]))
theorem split_pok (b:List UInt8) (hb:b.length≤1000000000):TellsP P 94 [.val (bsl u8T) b] ((splitOf b).2=true) noV (.fresh 26 (sl u8T) (splitOf b).1):=by
 refine fnp_of_aw Tryz.func94 rfl rfl rfl (fun ext w hext=>?_)
 refine ze (d:=0) rfl zk (fun hsl0=>?_)
 refine qaX ?_;refine qaw ?_;refine aw_callf2 (binSplit_ok b hb) rfl fn_147 ⟨(zd rfl),trivial⟩ flat_bool rfl rfl rfl ?_;refine A0 (by first|exact zdd (.inl rfl) rfl|exact zdc (.inl rfl) rfl) ?_;refine A0 (by first|exact zN rfl rfl|exact zM rfl rfl) ?_;refine A0 (by first|exact zQ rfl rfl|exact zP rfl rfl) ?_;refine A0 aO ?_;refine qbe ?_;refine zaD (za4 (splitOf b).2) rfl zei rfl ⟨(by first|exact zB rfl|exact zZ rfl|exact zG rfl rfl|exact zX rfl|exact zx rfl|exact zag rfl rfl|exact zY rfl),trivial⟩ (fun hm=>?_) (fun hm=>?_)
 ·
  exact ap_of (hm)
 ·
  refine A0 (oCl ((za4 (splitOf b).2).1 hm) rfl zei ⟨(by first|exact zB rfl|exact zZ rfl|exact zG rfl rfl|exact zX rfl|exact zx rfl|exact zag rfl rfl|exact zY rfl),trivial⟩) ?_;refine CNQR ?_;refine A0 mO ?_;refine qbk ?_
  exact aw_ret1P rfl rfl hm (zf rfl rfl rfl)
theorem pcheck_ok (p:Proof):TellsP P 87 [.rptr paperT p] (sizeOk p=true) noV (.lit (.tuple #[])):=by
 refine fnp_of_aw Tryz.func87 rfl rfl rfl (fun ext w hext=>?_)
 refine CQR ?_;refine A0 mR ?_;refine A0 (zcB rfl rfl) ?_;refine A0 (oFr zcj zcc) ?_;refine A0 (oFr zcZ zeR) ?_;refine qbM ?_;refine A0 zcU ?_;refine Sp (d:=9) (p:=1≤p.m) (fun g9=>?_) (fun g9=>?_)
 ·
  refine qaw ?_;refine A1 mR ?_;refine A1 (zcB rfl rfl) ?_;refine A1 (oFr zcj zcc) ?_;refine A1 (oFr zcZ zeR) ?_;refine A1 (zg rfl rfl ty_3) ?_;refine A1 zcN ?_;refine Sp (d:=16) (p:=p.m≤20) (fun g16=>?_) (fun g16=>?_)
  ·
   refine qae ?_;refine A1 mR ?_;refine A1 (zcB rfl rfl) ?_;refine A1 (oFr zcj zcc) ?_;refine A1 (oFr zcY zeS) ?_;refine A1 (zg rfl rfl ty_3) ?_;refine A1 zcU ?_;refine Sp (d:=24) (p:=1≤p.k) (fun g24=>?_) (fun g24=>?_)
   ·
    refine qae ?_;refine A1 mR ?_;refine A1 (zcB rfl rfl) ?_;refine A1 (oFr zcj zcc) ?_;refine A1 (oFr zcY zeS) ?_;refine A1 (zg rfl rfl ty_3) ?_;refine A1 zcN ?_;refine Sp (d:=32) (p:=p.k≤20) (fun g32=>?_) (fun g32=>?_)
    ·
     refine qae ?_;refine A1 mR ?_;refine A1 (zcB rfl rfl) ?_;refine A1 (oFr zcj zcc) ?_;refine A1 (oFr zax zaB) ?_;refine A1 (zg rfl rfl zcv) ?_;refine A1 (by first|exact zR rfl rfl zdF|exact zan rfl rfl rfl zdF|exact zaz rfl rfl zdF) ?_;refine A1 zcN ?_;refine A0 oK ?_;refine zaD (za4 (decide ((p.p.length:Int)≤100))) rfl zei rfl ⟨(zd rfl),trivial⟩ (fun hm=>?_) (fun hm=>?_)
     ·
      exact ap_of (fun h=>hm (decide_eq_true (by have:=(zaS h).1;omega)))
     ·
      refine A0 (oCl ((za4 (decide ((p.p.length:Int)≤100))).1 hm) rfl zei ⟨(zd rfl),trivial⟩) ?_;refine CNQR ?_;refine A0 mR ?_;refine A0 (zcB rfl rfl) ?_;refine A0 (oFr zcj zcc) ?_;refine A0 (oFr zax zaB) ?_;refine A0 (zg rfl rfl zcv) ?_;refine A0 (by first|exact zR rfl rfl zdF|exact zan rfl rfl rfl zdF|exact zaz rfl rfl zdF) ?_;refine qa8 ?_
      refine Lp (ι:=Nat) 0 (fun (i:Nat)=>(((Fr.none).set 48 (.val (sl partT) p.p)).set 49 (.val i64T (p.p.length:Int))).set 50 (.val i64T (i:Int))) (fun (i:Nat)=>Hp.none) (fun (i:Nat)=>i≤p.p.length∧∀x∈p.p.take i,x.l.length≤32) (fun (i:Nat)=>p.p.length-i) (0) (⟨Nat.zero_le _,fun x hx=>by simp at hx⟩) ?_
      intro i hinv
      refine qaj ?_;refine Cf (p:=i<p.p.length) (fun ht51=>?_) (fun ht51=>?_)
      ·
       have hlb:(p.p.length:Int)≤100:=of_decide_eq_true hm
       obtain ⟨x,hx⟩:∃x,p.p[i]?=some x:=⟨_,List.getElem?_eq_getElem ht51⟩
       refine CSQBQR ?_;refine A0 (zu (i:=i) rfl rfl rfl (by omega) za9 (by assumption)) ?_;refine qb0 ?_;refine CNR ?_;refine A0 (oFp zck) ?_;refine A0 (oLb zc5 zbI) ?_;refine qbE ?_;refine A0 zcN ?_;refine zaD (za4 (decide ((x.l.length:Int)≤32))) rfl zei rfl ⟨(zd rfl),trivial⟩ (fun hm2=>?_) (fun hm2=>?_)
       ·
        exact ap_of (fun h=>hm2 (decide_eq_true (by have:=(zaS h).2 x (List.mem_of_getElem? hx);omega)))
       ·
        refine A0 (oCl ((za4 (decide ((x.l.length:Int)≤32))).1 hm2) rfl zei ⟨(zd rfl),trivial⟩) ?_;refine qaW ?_
        exact Nx (i+1) (⟨by omega,fun y hy=>by rw [List.take_add_one,hx] at hy;rcases List.mem_append.1 hy with h|h;exact hinv.2 y h;simp at h;rw [h];have:=of_decide_eq_true hm2;omega⟩) (by omega)
      ·
       refine CE ?_
       exact aw_fall (ar_ret0P rfl rfl rfl (by unfold sizeOk;rw [Bool.and_eq_true,decide_eq_true_eq,List.all_eq_true];exact ⟨⟨g9,g16,g24,g32,by have:=of_decide_eq_true hm;omega⟩,fun y hy=>decide_eq_true (hinv.2 y (by rw [List.take_of_length_le (by omega)];exact hy))⟩))
    ·
     refine qaM ?_;refine qab ?_;refine A2 ?_;refine A0 oK ?_;refine zaD (za4 false) rfl zei rfl ⟨(zd rfl),trivial⟩ (fun hm=>?_) (fun h=>absurd h (by decide))
     exact ap_of (fun h=>by have:=(zaS h).1;omega)
   ·
    refine qaM ?_;refine qab ?_;refine qaM ?_;refine qab ?_;refine A2 ?_;refine A0 oK ?_;refine zaD (za4 false) rfl zei rfl ⟨(zd rfl),trivial⟩ (fun hm=>?_) (fun h=>absurd h (by decide))
    exact ap_of (fun h=>by have:=(zaS h).1;omega)
  ·
   refine qaM ?_;refine qab ?_;refine qaM ?_;refine qab ?_;refine qaM ?_;refine qab ?_;refine A2 ?_;refine A0 oK ?_;refine zaD (za4 false) rfl zei rfl ⟨(zd rfl),trivial⟩ (fun hm=>?_) (fun h=>absurd h (by decide))
   exact ap_of (fun h=>by have:=(zaS h).1;omega)
 ·
  refine qbJ ?_;refine qab ?_;refine qaM ?_;refine qab ?_;refine qaM ?_;refine qab ?_;refine qaM ?_;refine qab ?_;refine A2 ?_;refine A0 oK ?_;refine zaD (za4 false) rfl zei rfl ⟨(zd rfl),trivial⟩ (fun hm=>?_) (fun h=>absurd h (by decide))
  exact ap_of (fun h=>by have:=(zaS h).1;omega)
set_option maxRecDepth 20000
theorem hd_rel {U N:Nat→Prop} {w:World} {h:Head} {cs:List Value} (hr:headT.rel U N w h cs):HW h:=by
  obtain ⟨_,_,_,_,_,_,_,h1,_,_,_,h2,_,_,_,h3,_,_,_,h4,_,_,_,h5,_⟩:=hr
  exact ⟨h1.1,h2.1,h3.1,h4.1,h5.1⟩
theorem is_rel {U N:Nat→Prop} {w:World} {b:Bool} {l:List Ab.Id} {cs:List Value} (hr:(slT b idT).rel U N w l cs):∀y∈l,y.length=32:=fun x hx=>by
  obtain ⟨ad,cap,_,_,_,h3⟩:=hr
  obtain ⟨_,ds,_,_,hr,_⟩:=h3 (List.ne_nil_of_mem hx)
  obtain ⟨c,hc⟩:=relAll_mem hr x hx
  exact hc.1
theorem fact_pw {p:Proof} {ρ:Nat→Value} {B:Nat→Prop} {U N:Nat→Prop} {w:World} {v:Value} (h:(AV.val proofT p).rel ρ B U N w v):PW p:=by
  obtain ⟨cs,⟨c1,c2,_,_,c3,c4,_,_,a,cap,_,_,_,h3⟩,_⟩:=h
  intro x hx
  obtain ⟨i,hi⟩:=List.getElem?_of_mem hx
  obtain ⟨ad,ds,_,_,hr,_⟩:=h3 (List.ne_nil_of_mem hx)
  obtain ⟨d1,d2,_,hh,hl⟩:=hr.get hi
  exact ⟨hd_rel hh,is_rel hl⟩
theorem putL_is (p:Proof):putL p=u8OfI (IntL.toI i64T p.m)::u8OfI (IntL.toI i64T p.k)::rowsL (p.p.map partRow):=rfl
theorem wok_of {p:Proof} (hs:sizeOk p=true) (h:∀x∈p.p,hOk x.h=true):wOk p=true:=by unfold wOk;rw [hs,Bool.true_and,List.all_eq_true];exact h
theorem sum_le {α:Type} (f:α→Nat) (c:Nat):∀l:List α,(∀x∈l,f x≤c)→(l.map f).sum≤l.length*c
  | [],_=>by simp
  | x::l,h=>by
    rw [List.map_cons,List.sum_cons,List.length_cons,Nat.add_mul,Nat.one_mul]
    have h1:=sum_le f c l (fun y hy=>h y (List.mem_cons_of_mem _ hy))
    have h2:=h x (List.mem_cons_self ..)
    omega
theorem put_bd {p:Proof} (hw:PW p) (h:wOk p=true):(putL p).length≤126903:=by
  obtain ⟨h1,h2⟩:=zaS (wOk_spec h).1
  rw [put_len hw h]
  have h3:=sum_le (fun x:Part=>181+34*x.l.length) 1269 p.p (fun x hx=>by have:=h2 x hx;omega)
  have h4:p.p.length*1269≤100*1269:=Nat.mul_le_mul_right _ h1.2.2.2.2
  omega
theorem rows_bd {p:Proof} (hw:PW p) (h:wOk p=true):(rowsL (p.p.map partRow)).length≤126901:=by
  have:=put_bd hw h
  rw [putL_is,List.length_cons,List.length_cons] at this
  omega
def pputL (p:Proof):List UInt8:=if wOk p=true then putL p else []
theorem pwrite_ok (p:Proof) (hw:PW p):TellsP P 44 [.rptr paperT p] (wOk p=true) noV (.fresh 5 u8T (putL p)):=by
 refine fnp_of_aw Tryz.func44 rfl rfl rfl (fun ext w hext=>?_)
 refine qaX ?_;refine A0 mR ?_;refine zaD (pcheck_ok p) rfl fn_87 rfl ⟨(zx rfl),trivial⟩ (fun hs=>?_) (fun hs=>?_)
 ·
  exact ap_of (fun h=>hs (wOk_spec h).1)
 ·
  refine A0 (oCl ((pcheck_ok p).1 hs) rfl fn_87 ⟨(zx rfl),trivial⟩) ?_;refine CNQR ?_;refine A0 aL ?_;refine CNQQR ?_;refine A0 mR ?_;refine A0 (zcB rfl rfl) ?_;refine A0 (oFr zcj zcc) ?_;refine A0 (oFr zax zaB) ?_;refine A0 (zg rfl rfl zcv) ?_;refine A0 (by first|exact zR rfl rfl zdF|exact zan rfl rfl rfl zdF|exact zaz rfl rfl zdF) ?_;refine qa8 ?_
  have hlb:=(zaS hs).1
  refine zed (T:=bsl u8T) (d:=3) 26 rfl ?_;refine Lp (ι:=Nat) 1 (fun (i:Nat)=>(((((Fr.none).set 0 (.rptr paperT p)).set 3 (.own 0)).set 17 (.val (sl partT) p.p)).set 18 (.val i64T (p.p.length:Int))).set 19 (.val i64T (i:Int))) (fun (i:Nat)=>(Hp.none).set 0 (.row 26 (bsl u8T) ((p.p.take i).map partRow))) (fun (i:Nat)=>i≤p.p.length∧∀x∈p.p.take i,hOk x.h=true) (fun (i:Nat)=>p.p.length-i) (0) (⟨Nat.zero_le _,fun x hx=>by simp at hx⟩) ?_
  intro i hinv
  refine qaj ?_;refine Cf (p:=i<p.p.length) (fun ht20=>?_) (fun ht20=>?_)
  ·
   obtain ⟨x,hx⟩:∃x,p.p[i]?=some x:=⟨_,List.getElem?_eq_getElem ht20⟩
   refine CSQBQR ?_;refine A0 (zu (i:=i) rfl rfl rfl (by omega) za9 (by assumption)) ?_;refine qb0 ?_;refine CNQR ?_;refine A0 (oFp zbL) ?_;refine A0 (oLb zb0 zav) ?_;refine A0 (oCl (zbT (hput_ok x.h)) rfl fn_88 ⟨(zd rfl),trivial⟩) ?_;refine A0 mX ?_;refine A0 (by first|exact zN rfl rfl|exact zM rfl rfl) ?_;refine A0 (by first|exact zQ rfl rfl|exact zP rfl rfl) ?_;refine qbw ?_;refine zaD (za4 (hOk x.h)) rfl zei rfl ⟨(zd rfl),trivial⟩ (fun hm=>?_) (fun hm=>?_)
   ·
    exact ap_of (fun h=>hm ((wOk_spec h).2 x (List.mem_of_getElem? hx)))
   ·
    refine A0 (oCl ((za4 (hOk x.h)).1 hm) rfl zei ⟨(zd rfl),trivial⟩) ?_;refine CNQR ?_;refine qaw ?_;refine aw_lend (S:=bsl u8T) (d:=31) rfl ?_;refine zbo (T:=(bsl u8T)) (xs:=[_]) rfl rfl rfl rfl zeF zdB ⟨rfl,rfl,trivial⟩ rfl rfl ?_;refine A0 aO ?_;refine CNQQR ?_;refine A0 (oFp zck) ?_;refine A0 (oLb zc5 zbI) ?_;refine qbE ?_;refine qa8 ?_
    have hxl:=(zaS hs).2 x (List.mem_of_getElem? hx)
    refine Lp (ι:=Nat) 3 (fun (j:Nat)=>(((((((((Fr.none).set 0 (.rptr paperT p)).set 3 (.own 0)).set 8 (.own 2)).set 17 (.val (sl partT) p.p)).set 18 (.val i64T (p.p.length:Int))).set 19 (.val i64T (i:Int))).set 34 (.val (sl idT) x.l)).set 35 (.val i64T (x.l.length:Int))).set 36 (.val i64T (j:Int))) (fun (j:Nat)=>((Hp.none).set 0 (.row 26 (bsl u8T) ((p.p.take i).map partRow))).set 2 (.row 26 (bsl u8T) (headBytes x.h::x.l.take j))) (fun (j:Nat)=>j≤x.l.length) (fun (j:Nat)=>x.l.length-j) (0) (Nat.zero_le _) ?_
    intro j hj
    refine qaj ?_;refine Cf (p:=j<x.l.length) (fun ht37=>?_) (fun ht37=>?_)
    ·
     obtain ⟨y,hy⟩:∃y,x.l[j]?=some y:=⟨_,List.getElem?_eq_getElem ht37⟩
     refine CSQBQR ?_;refine A0 (zu (i:=j) rfl rfl rfl (by omega) zcM (by assumption)) ?_;refine A0 (zg rfl rfl zI) ?_;refine qaD ?_;refine qaq ?_;refine zdm (d:=10) rfl rfl (Lens.self _) ?_;refine CR ?_;refine A0 mO ?_;refine A0 (zbz rfl rfl zdp rfl rfl) ?_;refine A0 (zt (T:=(bsl u8T)) (xs:=[_]) rfl zeF zdB ⟨rfl,rfl,trivial⟩ rfl rfl) ?_;refine zD rfl rfl rfl rfl rfl rfl rfl zdB (by simp [List.length_take];omega) ?_;refine A0 aO ?_;refine qaW ?_;refine zaG 4 2 5 rfl rfl rfl rfl rfl rfl ?_
     refine zA (n:=2) (y:=headBytes x.h::x.l.take (j+1)) rfl (by rw [List.take_add_one,hy];rfl) ?_
     exact Nx (j+1) (by omega) (by omega)
    ·
     refine CE ?_
     have hr1:=row_ok (hw x (List.mem_of_getElem? hx)).1 hm (hw x (List.mem_of_getElem? hx)).2 ((zaS hs).2 x (List.mem_of_getElem? hx))
     refine zA (n:=2) (y:=headBytes x.h::x.l) rfl (by rw [List.take_of_length_le (by omega)]) ?_;refine CR ?_;refine A0 mO ?_;refine A0 mO ?_;refine A0 (oCl (zp ((rows_pok (headBytes x.h::x.l)).1 hr1)) rfl fn_90 ⟨(zG rfl rfl),trivial⟩) ?_;refine aw_lend (S:=bsl u8T) (d:=47) rfl ?_;refine A0 (zt (T:=(bsl u8T)) (xs:=[_]) rfl zeF zdB ⟨rfl,rfl,trivial⟩ rfl rfl) ?_;refine zD rfl rfl rfl rfl rfl rfl rfl zdB (by simp [List.length_take];omega) ?_;refine A0 aO ?_;refine qaW ?_;refine zaG 3 0 4 rfl rfl rfl rfl rfl rfl ?_
     refine zA (n:=0) (y:=(p.p.take (i+1)).map partRow) rfl (by rw [List.take_add_one,hx,List.map_append];rfl) ?_
     exact Nx (i+1) (⟨by omega,fun y hy=>by rw [List.take_add_one,hx] at hy;rcases List.mem_append.1 hy with h|h;exact hinv.2 y h;simp at h;rw [h];exact hm⟩) (by omega)
  ·
   refine CE ?_;refine CQ ?_
   have hwk:=wok_of hs (fun y hy=>hinv.2 y (by rw [List.take_of_length_le (by omega)];exact hy))
   have hbd:=rows_bd hw hwk
   refine zA (n:=0) (y:=p.p.map partRow) rfl (by rw [List.take_of_length_le (by omega)]) ?_;refine zE [some 1,some 1,some 1,some 1,some 1,some 1,some 1,some 1,some 1,some 1,some 1,some 1,none,some 2,some 2,none,some 1] mixed (by decide +kernel) ?_;refine X0 mR ?_;refine X0 (zcB rfl rfl) ?_;refine X0 (oFr zcj zcc) ?_;refine X0 (oFr zcZ zeR) ?_;refine X0 (zg rfl rfl ty_3) ?_;refine X0 (zew rfl (ui_5) (us_3) rfl) ?_;refine X0 mR ?_;refine X0 (zcB rfl rfl) ?_;refine X0 (oFr zcj zcc) ?_;refine X0 (oFr zcY zeS) ?_
   refine X0 (zg rfl rfl ty_3) ?_;refine X0 (zew rfl (ui_5) (us_3) rfl) ?_;refine XK.e (fun fr' hfr kk H=>by exact zbo (T:=u8T) (xs:=[_,_]) rfl rfl rfl rfl zar zaZ ⟨rfl,((hfr 56 (by decide +kernel)).trans rfl),rfl,((hfr 62 (by decide +kernel)).trans rfl),trivial⟩ rfl rfl (zK H)) ?_;refine XK.g2 (g_mo (.inl rfl) rfl) (g_mo (.inl rfl) rfl) rfl rfl rfl ?_
   refine XK.g2 (zeo (zp ((rows_pok (p.p.map partRow)).1 (parts_ok hw hwk))) rfl fn_90 ⟨(zG rfl rfl),trivial⟩ rfl) (zeo (zp ((rows_pok (p.p.map partRow)).1 (parts_ok hw hwk))) rfl fn_90 ⟨(zG rfl rfl),trivial⟩ rfl) rfl rfl rfl ?_;refine XK.e (fun fr' hfr kk H=>by exact zD rfl rfl rfl rfl ((hfr 63 (by decide +kernel)).trans rfl) rfl ((hfr 65 (by decide +kernel)).trans rfl) zaZ (by simp [List.length_take];omega) (zK H)) ?_;refine X0 aO ?_;refine XK.nil' ?_
   exact aw_ret1P rfl rfl hwk (zf rfl rfl rfl)
theorem ze3 (p:Proof):Tells P 18 [.val proofT p] (.tup2 (.val (sl u8T) (pputL p)) (.val boolT (wOk p))):=by
 refine zc Tryz.func18 rfl rfl rfl (fun ext w hext=>?_)
 refine ze (d:=0) rfl fact_pw (fun hw=>?_)
 refine qaf ?_;refine A0 aL ?_;refine qbd ?_;refine A0 (zC rfl ze_86 bd_86 (.cons zcj zcc zaH rfl .nil) rfl) ?_;refine aw_box rfl rfl rfl rfl rfl ?_;refine aw_alloc_p zp_84 rfl rfl rfl rfl rfl rfl ?_;refine zaj rfl rfl rfl rfl rfl rfl rfl rfl rfl rfl ty_84 ?_;refine CNQR ?_;refine zw ze_26 rfl rfl rfl rfl ?_;refine CNQR ?_;refine A0 (g_mkf (caps:=[_,_]) rfl rfl) ?_;refine zU rfl rfl rfl rfl Tryz.func42 fn_42 rfl rfl (fun ia2 iok2=>?_)
 refine CQR ?_;refine zw ze_4 rfl rfl rfl rfl ?_;refine CNQR ?_;refine A0 (g_mkf (caps:=[_]) rfl rfl) ?_;refine aw_defer rfl rfl rfl rfl rfl rfl rfl (fun bD=>?_)
 refine CNQR ?_;refine A0 mC ?_;refine aw_inlinec rfl rfl rfl rfl rfl Tryz.func43 fn_43 rfl rfl (by intro n hn;simp only [List.mem_cons,List.not_mem_nil,or_false] at hn;rcases hn with rfl|rfl<;>rfl) (fun ia3 iok3=>?_)
 refine CR ?_;refine A0 (by first|exact zo rfl rfl rfl rfl rfl ty_84|exact zaU rfl rfl rfl rfl ty_84) ?_;refine zaD (pwrite_ok p hw) rfl fn_44 rfl ⟨(by first|exact zez rfl rfl (Lens.self _)|exact zdN rfl rfl),trivial⟩ (fun hm=>?_) (fun hm=>?_)
 ·
  refine zef ?_;refine ap_fine (n:=4) zaX rfl rfl rfl ty_4 ?_;refine qar ?_;refine A0 (oLs rfl rfl rfl zc6) ?_;refine qaw ?_;refine qbo ?_
  exact zT rfl rfl (za rfl (by unfold pputL;rw [if_neg hm])) (za rfl (Bool.eq_false_iff.2 hm).symm)
 ·
  refine A0 (oCl (zp ((pwrite_ok p hw).1 hm)) rfl fn_44 ⟨(by first|exact zez rfl rfl (Lens.self _)|exact zdN rfl rfl),trivial⟩) ?_;refine zh rfl rfl rfl rfl rfl (Lens.self _) zc6 rfl ?_;refine CN ?_;refine aw_back0f rfl ?_;refine CNQR ?_;refine aw_store_o rfl rfl rfl rfl rfl ty_4 rfl ?_;refine CN ?_;refine aw_fineret zaX rfl rfl rfl ty_4 ?_;refine qar ?_;refine A0 (oLs rfl rfl rfl zc6) ?_;refine qaw ?_;refine qbo ?_
  exact zT rfl rfl (za rfl (by unfold pputL;rw [if_pos hm])) (za rfl hm.symm)
set_option maxRecDepth 20000
def readR (b:List UInt8):Proof:=if readOk b=true then readP b else zProof
theorem zcy {b:List UInt8} (h:readOk b=false):readR b=zProof:=by unfold readR;rw [h];rfl
theorem readR_yes {b:List UInt8} (h:readOk b=true):readR b=readP b:=by unfold readR;rw [if_pos h]
theorem no_len {b:List UInt8} (h:¬decide ((2:Int)<(b.length:Int))=true):readOk b=false:=by
  unfold readOk
  rw [decide_eq_true_eq] at h
  rw [decide_eq_false (by omega)];rfl
theorem no_split {b:List UInt8} (h:¬(splitOf (b.drop 2)).2=true):readOk b=false:=by
  unfold readOk
  rw [Bool.eq_false_iff.2 h,Bool.and_false];rfl
theorem no_part {b r:List UInt8} (hr:r∈(splitOf (b.drop 2)).1) (h:¬partOk r=true):readOk b=false:=by
  unfold readOk
  have:(splitOf (b.drop 2)).1.all partOk=false:=List.all_eq_false.2 ⟨r,hr,h⟩
  rw [this,Bool.and_false];rfl
theorem no_size {b:List UInt8} (h:¬sizeOk (readP b)=true):readOk b=false:=by
  unfold readOk
  rw [Bool.eq_false_iff.2 h,Bool.and_false]
theorem pno_split {r:List UInt8} (h:¬(splitOf r).2=true):¬partOk r=true:=fun hp=>by
  unfold partOk at hp
  rw [Bool.and_eq_true] at hp
  exact h hp.1
theorem pno_nil {r:List UInt8} (h:¬decide ((0:Int)<((splitOf r).1.length:Int))=true):¬partOk r=true:=fun hp=>by
  unfold partOk at hp
  rw [decide_eq_true_eq] at h
  have:(splitOf r).1=[]:=List.length_eq_zero_iff.1 (by omega)
  rw [this] at hp
  simp at hp
theorem pno_head {r x:List UInt8} (hx:(splitOf r).1[0]?=some x) (h:¬readHOk x=true):¬partOk r=true:=fun hp=>by
  unfold partOk at hp
  cases hl:(splitOf r).1 with
  | nil=>rw [hl] at hx;simp at hx
  | cons z l =>
    rw [hl] at hx hp
    simp at hx
    subst hx
    simp only [Bool.and_eq_true] at hp
    exact h hp.2.1
theorem pno_id {r y:List UInt8} (hy:y∈(splitOf r).1.drop 1) (h:¬decide ((y.length:Int)=32)=true):¬partOk r=true:=fun hp=>by
  unfold partOk at hp
  rw [decide_eq_true_eq] at h
  cases hl:(splitOf r).1 with
  | nil=>rw [hl] at hy;simp at hy
  | cons z l =>
    rw [hl] at hy hp
    simp only [Bool.and_eq_true,List.all_eq_true,decide_eq_true_eq] at hp
    exact h (by have:=hp.2.2 y hy;omega)
theorem part_yes {r x:List UInt8} (h1:(splitOf r).2=true) (hx:(splitOf r).1[0]?=some x) (h2:readHOk x=true) (h3:∀y∈(splitOf r).1.drop 1,y.length=32):partOk r=true∧(⟨readH x,(splitOf r).1.drop 1⟩:Part)=readPart r:=by
  unfold partOk readPart
  cases hl:(splitOf r).1 with
  | nil=>rw [hl] at hx;simp at hx
  | cons z l =>
    rw [hl] at hx h3
    simp at hx
    subst hx
    refine ⟨?_,?_⟩
    · simp only [Bool.and_eq_true,List.all_eq_true,decide_eq_true_eq]
      exact ⟨h1,h2,fun y hy=>h3 y hy⟩
    · rw [readH_yes h2];rfl
theorem mem_sum {α:Type} (f:α→Nat) {x:α}:∀{l:List α},x∈l→f x≤(l.map f).sum
  | y::l,h=>by
    rw [List.map_cons,List.sum_cons]
    rcases List.mem_cons.1 h with e|h
    · rw [e];omega
    · have:=mem_sum f h;omega
theorem row_short {b r:List UInt8} (h:(splitOf b).2=true) (hr:r∈(splitOf b).1):r.length≤b.length:=by
  have e:=(rows_split h).1
  have h1:=rows_len (splitOf b).1
  rw [e] at h1
  have h2:2+r.length≤_:=mem_sum (fun x:List UInt8=>2+x.length) hr
  omega
theorem rows_few {b:List UInt8} (h:(splitOf b).2=true):(splitOf b).1.length≤255:=by
  have:=(rows_split h).2
  unfold rowsOk at this
  rw [Bool.and_eq_true,decide_eq_true_eq] at this
  exact this.1
theorem yes_read {b:List UInt8} (h1:decide ((2:Int)<(b.length:Int))=true) (h2:(splitOf (b.drop 2)).2=true) (h3:∀r∈(splitOf (b.drop 2)).1,partOk r=true) (h4:sizeOk (readP b)=true):readOk b=true:=by
  unfold readOk
  rw [decide_eq_true_eq] at h1
  rw [h2,h4,decide_eq_true (by omega),List.all_eq_true.2 h3];rfl
theorem readP_is {b:List UInt8} {b0 b1:UInt8} (h0:b[0]?=some b0) (h1:b[1]?=some b1):(⟨(b0.toNat:Int),(b1.toNat:Int),(splitOf (b.drop 2)).1.map readPart⟩:Proof)=readP b:=by
  unfold readP
  rw [List.getD_eq_getElem?_getD,List.getD_eq_getElem?_getD,h0,h1];rfl
theorem zn_paper:ZeroAt P 86 proofN (0,0,()):=z8 (zV zbC (zV zbC zero_nil)) (by kernel_rfl)
def partN:GoT (Head×Unit):=pairT headT nilT
theorem zn_part:ZeroAt P 55 partN (zHead,()):=z8 (zV zero_Head zero_nil) (by kernel_rfl)
theorem split_part {h:Head}:SplitOk partN (h,()) [.val headT h,.lit (.slice none 0 0)]:=zbl zbw split_nil
theorem join_part {h:Head} {l:List Ab.Id}:JoinOk partT (⟨h,l⟩:Part) [.val headT h] idT l:=join_via (zd2 join_last)
theorem cvi_u8 (x:UInt8):IntKind.i64.wrap (IntL.toI u8T x)=(x.toNat:Int):=by
  have h:x.toNat<256:=x.toNat_lt
  have e:IntL.toI u8T x=(x.toNat:Int):=rfl
  rw [e]
  exact zaa (by omega)
theorem pread_ok (b:List UInt8) (hb:b.length≤1000000000):Tells P 20 [.val (bsl u8T) b] (.tup2 (.val proofT (readR b)) (.val boolT (readOk b))):=by
 refine zc Tryz.func20 rfl rfl rfl (fun ext w hext=>?_)
 refine ze (d:=0) rfl zk (fun hsl0=>?_)
 refine qaf ?_;refine zw zcL rfl rfl rfl rfl ?_;refine qar ?_;refine A0 (zC rfl zn_paper bd_86 .nil rfl) ?_;refine aw_box rfl rfl rfl rfl rfl ?_;refine aw_alloc_p zp_84 rfl rfl rfl rfl rfl rfl ?_;refine zaj rfl rfl rfl rfl rfl rfl rfl rfl rfl rfl ty_84 ?_;refine CN ?_;refine zdk 2 (x:=(0,0,())) zeX rfl ?_;refine zcl 2 55 partT [.val i64T 0,.val i64T 0] rfl (by intro x hx;simp only [List.mem_cons,List.not_mem_nil,or_false] at hx;rcases hx with rfl|rfl<;>trivial) ?_;refine CQQR ?_;refine A0 (g_mkf (caps:=[_,_]) rfl rfl) ?_
 refine zU rfl rfl rfl rfl Tryz.func42 fn_42 rfl rfl (fun ia3 iok3=>?_)
 refine CQR ?_;refine zw ze_4 rfl rfl rfl rfl ?_;refine CNQR ?_;refine A0 (g_mkf (caps:=[_]) rfl rfl) ?_;refine aw_defer rfl rfl rfl rfl rfl rfl rfl (fun bD=>?_)
 refine CNQR ?_;refine A0 mC ?_;refine aw_inlinec rfl rfl rfl rfl rfl Tryz.func47 fn_47 rfl rfl (by intro n hn;simp only [List.mem_cons,List.not_mem_nil,or_false] at hn;rcases hn with rfl|rfl<;>rfl) (fun ia4 iok4=>?_)
 refine CR ?_;refine A0 (by first|exact zo rfl rfl rfl rfl rfl ty_84|exact zaU rfl rfl rfl rfl ty_84) ?_;refine A0 (oLs rfl rfl rfl zc6) ?_;refine zU rfl rfl rfl rfl Tryz.func48 fn_48 rfl rfl (fun ia5 iok5=>?_)
 refine qa1 ?_;refine qbD ?_;refine A0 zaI ?_;refine zaD (za4 (decide ((2:Int)<(b.length:Int)))) rfl zei rfl ⟨(zd rfl),trivial⟩ (fun hm1=>?_) (fun hm1=>?_)
 ·
  have hno:=no_len hm1
  refine zef ?_;refine zef ?_;refine ap_fine (n:=5) zaX rfl rfl rfl ty_4 ?_;refine qaN ?_;refine Ct ?_;refine CQR ?_;refine A0 (zC rfl zcL zdM .nil rfl) ?_;refine qah ?_;refine qac ?_
  exact zz rfl rfl (zF rfl rfl zaH ((zcy hno).symm)) (zaf (za rfl (hno.symm)))
 ·
  refine A0 (oCl ((za4 (decide ((2:Int)<(b.length:Int)))).1 hm1) rfl zei ⟨(zd rfl),trivial⟩) ?_;refine CNQ ?_
  have hbl:2<b.length:=by have:=of_decide_eq_true hm1;omega
  obtain ⟨b0,hb0⟩:∃x,b[0]?=some x:=⟨_,List.getElem?_eq_getElem (by omega)⟩
  obtain ⟨b1,hb1⟩:∃x,b[1]?=some x:=⟨_,List.getElem?_eq_getElem (by omega)⟩
  have hb08:b0.toNat<256:=b0.toNat_lt
  have hb18:b1.toNat<256:=b1.toNat_lt
  refine zE [some 1,some 1000001,some 1,some 1,some 1,some 1,some 1,some 1,some 1,some 1000001,some 1,some 1,some 1,none,some 1,some 1,some 1,none] mixed (by decide +kernel) ?_;refine X0 mP ?_;refine XK.ga (fun _=>g_mp (.inl rfl) rfl) rfl rfl rfl ?_;refine X0 mV ?_;refine X0 (zu (i:=0) rfl rfl rfl (by omega) zar (by assumption)) ?_;refine X0 (zg rfl rfl ty_5) ?_;refine X0 (zev rfl (ui_3) (us_5) rfl (by exact cvi_u8 _)) ?_;refine X0 mV ?_;refine X0 (zu (i:=1) rfl rfl rfl (by omega) zar (by assumption)) ?_;refine X0 (zg rfl rfl ty_5) ?_
  refine XK.ga (fun _=>zev rfl (ui_3) (us_5) rfl (by exact cvi_u8 _)) rfl rfl rfl ?_;refine X0 (g_nc rfl rfl) ?_;refine X0 (oFp zcj) ?_;refine X0 (oFp zcZ) ?_;refine XK.e (x:=.idk) (fun fr' hfr kk H=>by exact zaj rfl rfl rfl ((hfr 28 (by decide +kernel)).trans rfl) rfl rfl ((hfr 21 (by decide +kernel)).trans rfl) rfl rfl rfl ty_3 (zK H)) ?_;refine X0 (g_nc rfl rfl) ?_;refine X0 (oFp zcj) ?_;refine X0 (oFp zcY) ?_
  refine XK.e (x:=.idk) (fun fr' hfr kk H=>by exact zaj rfl rfl rfl ((hfr 31 (by decide +kernel)).trans rfl) rfl rfl ((hfr 25 (by decide +kernel)).trans rfl) rfl rfl rfl ty_3 (zK H)) ?_;refine XK.nil' ?_;refine qbb ?_;refine A0 (zen rfl rfl rfl zar (by first|assumption|omega|(simp;omega))) ?_;refine zaD (split_pok (b.drop 2) (by simp;omega)) rfl fn_94 rfl ⟨(zd rfl),trivial⟩ (fun hs1=>?_) (fun hs1=>?_)
  ·
   have hno:=no_split hs1
   refine zef ?_;refine zef ?_;refine ap_fine (n:=5) zaX rfl rfl rfl ty_4 ?_;refine qaN ?_;refine Ct ?_;refine CQR ?_;refine A0 (zC rfl zcL zdM .nil rfl) ?_;refine qah ?_;refine qac ?_
   exact zz rfl rfl (zF rfl rfl zaH ((zcy hno).symm)) (zaf (za rfl (hno.symm)))
  ·
   refine A0 (oCl (zp ((split_pok (b.drop 2) (by simp;omega)).1 hs1)) rfl fn_94 ⟨(zd rfl),trivial⟩) ?_
   obtain ⟨R,hR⟩:∃R,R=(splitOf (b.drop 2)).1:=⟨_,rfl⟩
   have hRl:R.length≤255:=hR▸rows_few hs1
   refine zi (d:=34) (y:=R) rfl (by rw [hR]) ?_;refine A0 (zR rfl rfl isl_89) ?_;refine qa8 ?_;refine zaG 4 6 7 rfl rfl rfl rfl rfl rfl ?_
   refine Lp (ι:=Nat) 7 (fun (i:Nat)=>((((Fr.none).set 0 (.ptr 2 0)).set 34 (.val (sl (sl u8T)) R)).set 35 (.val i64T (R.length:Int))).set 36 (.val i64T (i:Int))) (fun (i:Nat)=>(((((Hp.none).set 1 (.box 25 proofT zProof)).set 2 (.parts 86 [.val i64T (b0.toNat:Int),.val i64T (b1.toNat:Int),.own 6])).set 3 (.parts 84 [.ptr 2 0])).set 6 (.row 55 partT ((R.take i).map readPart))).set 5 (.objAt bD (.cells #[.bool false] 4 (0,0)))) (fun (i:Nat)=>i≤R.length∧∀r∈R.take i,partOk r=true) (fun (i:Nat)=>R.length-i) (0) (⟨Nat.zero_le _,fun x hx=>by simp at hx⟩) ?_
   intro i hi
   refine qaj ?_;refine Cf (p:=i<R.length) (fun ht37=>?_) (fun ht37=>?_)
   ·
    obtain ⟨r,hr⟩:∃r,R[i]?=some r:=⟨_,List.getElem?_eq_getElem ht37⟩
    have hrm:r∈(splitOf (b.drop 2)).1:=by rw [←hR];exact List.mem_of_getElem? hr
    have hrl:=row_short hs1 hrm
    rw [List.length_drop] at hrl
    refine CSQBQR ?_;refine A0 (zu (i:=i) rfl rfl rfl (by omega) zeF (by assumption)) ?_;refine A0 (zg rfl rfl zc6) ?_;refine qbe ?_;refine zaD (split_pok r (by omega)) rfl fn_94 rfl ⟨(by first|exact zB rfl|exact zZ rfl|exact zG rfl rfl|exact zX rfl|exact zx rfl|exact zag rfl rfl|exact zY rfl),trivial⟩ (fun hs2=>?_) (fun hs2=>?_)
    ·
     have hno:=no_part hrm (pno_split hs2)
     refine zef ?_;refine zef ?_;refine ap_fine (n:=5) zaX rfl rfl rfl ty_4 ?_;refine qaN ?_;refine Ct ?_;refine CQR ?_;refine A0 (zC rfl zcL zdM .nil rfl) ?_;refine qah ?_;refine qac ?_
     exact zz rfl rfl (zF rfl rfl zaH ((zcy hno).symm)) (zaf (za rfl (hno.symm)))
    ·
     refine A0 (oCl (zp ((split_pok r (by omega)).1 hs2)) rfl fn_94 ⟨(by first|exact zB rfl|exact zZ rfl|exact zG rfl rfl|exact zX rfl|exact zx rfl|exact zag rfl rfl|exact zY rfl),trivial⟩) ?_;refine qad ?_;refine A0 (zR rfl rfl isl_89) ?_;refine A0 zaI ?_;refine zaD (za4 (decide ((0:Int)<((splitOf r).1.length:Int)))) rfl zei rfl ⟨(zd rfl),trivial⟩ (fun hm2=>?_) (fun hm2=>?_)
     ·
      have hno:=no_part hrm (pno_nil hm2)
      refine zef ?_;refine zef ?_;refine ap_fine (n:=5) zaX rfl rfl rfl ty_4 ?_;refine qaN ?_;refine Ct ?_;refine CQR ?_;refine A0 (zC rfl zcL zdM .nil rfl) ?_;refine qah ?_;refine qac ?_
      exact zz rfl rfl (zF rfl rfl zaH ((zcy hno).symm)) (zaf (za rfl (hno.symm)))
     ·
      refine A0 (oCl ((za4 (decide ((0:Int)<((splitOf r).1.length:Int)))).1 hm2) rfl zei ⟨(zd rfl),trivial⟩) ?_
      have hlp:1≤(splitOf r).1.length:=by have:=of_decide_eq_true hm2;omega
      obtain ⟨x,hx⟩:∃x,(splitOf r).1[0]?=some x:=⟨_,List.getElem?_eq_getElem (by have:=of_decide_eq_true hm2;omega)⟩
      refine CNQR ?_;refine qaw ?_;refine A0 (zu (i:=0) rfl rfl rfl (by omega) zeF (by assumption)) ?_;refine A0 (zg rfl rfl zc6) ?_;refine A0 (oCl (readHead_ok x) rfl fn_95 ⟨(by first|exact zB rfl|exact zZ rfl|exact zG rfl rfl|exact zX rfl|exact zx rfl|exact zag rfl rfl|exact zY rfl),trivial⟩) ?_;refine A0 mX ?_;refine A0 (by first|exact zN rfl rfl|exact zM rfl rfl) ?_;refine A0 (by first|exact zQ rfl rfl|exact zP rfl rfl) ?_;refine qbU ?_;refine qaO ?_;refine qad ?_
      refine zaD (za4 (readHOk x)) rfl zei rfl ⟨(zd rfl),trivial⟩ (fun hm3=>?_) (fun hm3=>?_)
      ·
       have hno:=no_part hrm (pno_head hx hm3)
       refine zef ?_;refine zef ?_;refine ap_fine (n:=5) zaX rfl rfl rfl ty_4 ?_;refine qaN ?_;refine Ct ?_;refine CQR ?_;refine A0 (zC rfl zcL zdM .nil rfl) ?_;refine qah ?_;refine qac ?_
       exact zz rfl rfl (zF rfl rfl zaH ((zcy hno).symm)) (zaf (za rfl (hno.symm)))
      ·
       refine A0 (oCl ((za4 (readHOk x)).1 hm3) rfl zei ⟨(zd rfl),trivial⟩) ?_;refine CNQR ?_;refine qb4 ?_;refine A0 (zC rfl zn_part bd_55 (.cons zbL (Lens.fst _ _) zav rfl .nil) rfl) ?_;refine zw zn_part rfl rfl rfl rfl ?_;refine zh rfl rfl rfl rfl rfl (Lens.self _) ty_55 rfl ?_;refine CN ?_;refine zdk 8 (x:=(readH x,())) split_part rfl ?_;refine zcl 8 46 idT [.val headT (readH x)] rfl (by intro x hx;simp only [List.mem_cons,List.not_mem_nil,or_false] at hx;rcases hx with rfl<;>trivial) ?_;refine qbb ?_
       refine A0 (zen rfl rfl rfl zeF (by first|assumption|omega|(simp;omega))) ?_
       obtain ⟨L,hL⟩:∃L,L=(splitOf r).1.drop 1:=⟨_,rfl⟩
       have hLl:L.length≤255:=by rw [hL,List.length_drop];have:=rows_few hs2;omega
       refine zi (d:=58) (y:=L) rfl (by rw [hL];rfl) ?_;refine A0 (zR rfl rfl isl_89) ?_;refine qa8 ?_
       refine Lp (ι:=Nat) 10 (fun (j:Nat)=>((((((((Fr.none).set 0 (.ptr 2 0)).set 9 (.ptr 8 0)).set 34 (.val (sl (sl u8T)) R)).set 35 (.val i64T (R.length:Int))).set 36 (.val i64T (i:Int))).set 58 (.val (sl (sl u8T)) L)).set 59 (.val i64T (L.length:Int))).set 60 (.val i64T (j:Int))) (fun (j:Nat)=>(((((((Hp.none).set 1 (.box 25 proofT zProof)).set 2 (.parts 86 [.val i64T (b0.toNat:Int),.val i64T (b1.toNat:Int),.own 6])).set 3 (.parts 84 [.ptr 2 0])).set 6 (.row 55 partT ((R.take i).map readPart))).set 5 (.objAt bD (.cells #[.bool false] 4 (0,0)))).set 8 (.parts 55 [.val headT (readH x),.own 9])).set 9 (.row 46 idT (L.take j))) (fun (j:Nat)=>j≤L.length∧∀y∈L.take j,y.length=32) (fun (j:Nat)=>L.length-j) (0) (⟨Nat.zero_le _,fun x hx=>by simp at hx⟩) ?_
       intro j hj
       refine qaj ?_;refine Cf (p:=j<L.length) (fun ht61=>?_) (fun ht61=>?_)
       ·
        obtain ⟨y,hy⟩:∃y,L[j]?=some y:=⟨_,List.getElem?_eq_getElem ht61⟩
        refine CSQBQR ?_;refine A0 (zu (i:=j) rfl rfl rfl (by omega) zeF (by assumption)) ?_;refine A0 (zg rfl rfl zc6) ?_;refine qbe ?_;refine A0 (by first|exact zR rfl rfl za3|exact zan rfl rfl rfl za3|exact zaz rfl rfl za3) ?_;refine A0 zbf ?_;refine zaD (za4 (decide ((y.length:Int)=32))) rfl zei rfl ⟨(zd rfl),trivial⟩ (fun hm4=>?_) (fun hm4=>?_)
        ·
         have hno:=no_part hrm (pno_id (hL▸List.mem_of_getElem? hy) hm4)
         refine zef ?_;refine zef ?_;refine ap_fine (n:=5) zaX rfl rfl rfl ty_4 ?_;refine qaN ?_;refine Ct ?_;refine CQR ?_;refine A0 (zC rfl zcL zdM .nil rfl) ?_;refine qah ?_;refine qac ?_
         exact zz rfl rfl (zF rfl rfl zaH ((zcy hno).symm)) (zaf (za rfl (hno.symm)))
        ·
         refine A0 (oCl ((za4 (decide ((y.length:Int)=32))).1 hm4) rfl zei ⟨(zd rfl),trivial⟩) ?_;refine CN ?_;refine zE [some 1,some 1,some 1,some 1,some 1,some 1,none,some 1,none] mixed (by decide +kernel) ?_;refine X0 (oFp zck) ?_;refine X0 (zo rfl rfl rfl rfl rfl zbI) ?_;refine X0 mX ?_;refine X0 (g_s2a (T:=u8T) (n:=32) 5 (by decide) rfl rfl (by kernel_rfl) (by have:=of_decide_eq_true hm4;omega)) ?_;refine X0 (zg rfl rfl zI) ?_;refine X0 (zt (T:=idT) (xs:=[_]) rfl zcM zdC ⟨rfl,rfl,trivial⟩ rfl rfl) ?_
         refine XK.e (fun fr' hfr kk H=>by exact zD rfl rfl rfl rfl ((hfr 69 (by decide +kernel)).trans rfl) rfl ((hfr 73 (by decide +kernel)).trans rfl) zdC (by simp [List.length_take];omega) (zK H)) ?_;refine X0 (oFp zck) ?_;refine XK.e (x:=.idk) (fun fr' hfr kk H=>by exact zaj rfl rfl rfl ((hfr 75 (by decide +kernel)).trans rfl) rfl rfl ((hfr 74 (by decide +kernel)).trans rfl) rfl rfl rfl zbI (zK H)) ?_;refine qaJ ?_;refine zaG 10 9 11 rfl rfl rfl rfl rfl rfl ?_;refine zA (n:=9) (y:=L.take (j+1)) rfl (by rw [List.take_add_one,hy];rfl) ?_
         exact Nx (j+1) (⟨by omega,fun z hz=>by rw [List.take_add_one,hy] at hz;rcases List.mem_append.1 hz with h|h;exact hj.2 z h;simp at h;rw [h];have:=of_decide_eq_true hm4;omega⟩) (by omega)
       ·
        refine CE ?_
        have hLj:L.take j=L:=List.take_of_length_le (by omega)
        have hpy:=part_yes hs2 hx hm3 (by rw [←hL,←hLj];exact hj.2)
        refine zA (n:=9) (y:=L) rfl (by rw [hLj]) ?_;refine aw_joinb 8 9 [.val headT (readH x)] (z:=(⟨readH x,L⟩:Part)) (R:=partT) rfl rfl rfl join_part ?_;refine zS (n:=8) (y:=(⟨readH x,(splitOf r).1.drop 1⟩:Part)) rfl (by rw [hL]) ?_;refine zE [some 1000001,some 1,some 1,some 1,some 1,some 1,some 1,some 1,none,some 1,some 1,some 1,none] mixed (by decide +kernel) ?_;refine XK.ga (fun _=>g_mp (.inl rfl) rfl) rfl rfl rfl ?_;refine X0 mP ?_;refine X0 (g_nc rfl rfl) ?_;refine X0 (oFp zcj) ?_;refine X0 (oFp zax) ?_;refine X0 (zo rfl rfl rfl rfl rfl zcv) ?_
        refine X0 (oLs rfl rfl rfl ty_55) ?_;refine X0 (zt (T:=partT) (xs:=[_]) rfl za9 row_23 ⟨rfl,rfl,trivial⟩ rfl rfl) ?_;refine XK.e (fun fr' hfr kk H=>by exact zD rfl rfl rfl rfl ((hfr 82 (by decide +kernel)).trans rfl) rfl ((hfr 84 (by decide +kernel)).trans rfl) row_23 (by simp [List.length_take];omega) (zK H)) ?_;refine X0 (g_nc rfl rfl) ?_;refine X0 (oFp zcj) ?_;refine X0 (oFp zax) ?_
        refine XK.e (x:=.idk) (fun fr' hfr kk H=>by exact zaj rfl rfl rfl ((hfr 88 (by decide +kernel)).trans rfl) rfl rfl ((hfr 85 (by decide +kernel)).trans rfl) rfl rfl rfl zcv (zK H)) ?_;refine qaJ ?_;refine zaG 10 6 11 rfl rfl rfl rfl rfl rfl ?_;refine zA (n:=6) (y:=(R.take (i+1)).map readPart) rfl (by rw [List.take_add_one,hr,List.map_append,hpy.2];rfl) ?_
        exact Nx (i+1) (⟨by omega,fun y hy=>by rw [List.take_add_one,hr] at hy;rcases List.mem_append.1 hy with h|h;exact hi.2 y h;simp at h;rw [h];exact hpy.1⟩) (by omega)
   ·
    refine CE ?_
    have hRi:R.take i=R:=List.take_of_length_le (by omega)
    refine zA (n:=6) (y:=(splitOf (b.drop 2)).1.map readPart) rfl (by rw [hRi,hR]) ?_;refine aw_joinb 2 6 [.val i64T (b0.toNat:Int),.val i64T (b1.toNat:Int)] (z:=(⟨(b0.toNat:Int),(b1.toNat:Int),(splitOf (b.drop 2)).1.map readPart⟩:Proof)) (R:=proofT) rfl rfl rfl join_proof ?_;refine zS (n:=2) (y:=readP b) rfl (readP_is hb0 hb1) ?_;refine CR ?_;refine A0 mP ?_;refine zaD (pcheck_ok (readP b)) rfl fn_87 rfl ⟨(by first|exact zez rfl rfl (Lens.self _)|exact zdN rfl rfl),trivial⟩ (fun hs3=>?_) (fun hs3=>?_)
    ·
     have hno:=no_size hs3
     refine zef ?_;refine zef ?_;refine ap_fine (n:=5) zaX rfl rfl rfl ty_4 ?_;refine qaN ?_;refine Ct ?_;refine CQR ?_;refine A0 (zC rfl zcL zdM .nil rfl) ?_;refine qah ?_;refine qac ?_
     exact zz rfl rfl (zF rfl rfl zaH ((zcy hno).symm)) (zaf (za rfl (hno.symm)))
    ·
     refine A0 (oCl ((pcheck_ok (readP b)).1 hs3) rfl fn_87 ⟨(by first|exact zez rfl rfl (Lens.self _)|exact zdN rfl rfl),trivial⟩) ?_
     have hok:=yes_read hm1 hs1 (fun r hr=>hi.2 r (by rw [hRi,hR];exact hr)) hs3
     refine CN ?_;refine aw_back0f rfl ?_;refine CN ?_;refine aw_back0f rfl ?_;refine CNQR ?_;refine aw_store_o rfl rfl rfl rfl rfl ty_4 rfl ?_;refine CN ?_;refine aw_fineret zaX rfl rfl rfl ty_4 ?_;refine qaN ?_;refine Cg ?_;refine CSQR ?_;refine A0 (by first|exact zo rfl rfl rfl rfl rfl ty_84|exact zaU rfl rfl rfl rfl ty_84) ?_;refine A0 (g_nc rfl rfl) ?_;refine A0 (oFp zcj) ?_;refine A0 (oLs rfl rfl rfl zaH) ?_;refine qah ?_;refine qac ?_
     exact zz rfl rfl (zF rfl rfl zaH ((readR_yes hok).symm)) (zaf (za rfl (hok.symm)))
set_option maxRecDepth 20000
theorem easy_pw:PW easyP:=by
  intro x hx
  have hx:x=⟨easyH,[]⟩∨x=⟨easyB.h,[id0]⟩:=by simpa [easyP] using hx
  rcases hx with rfl|rfl
  · exact ⟨by refine ⟨?_,?_,?_,?_,?_⟩<;>kernel_rfl,fun y hy=>by cases hy⟩
  · refine ⟨by refine ⟨?_,?_,?_,?_,?_⟩<;>kernel_rfl,fun y hy=>?_⟩
    rw [List.mem_singleton.1 hy];kernel_rfl
theorem easy_wok:wOk easyP=true:=by kernel_rfl
theorem easy_plen:(pputL easyP).length=399:=by
  unfold pputL
  rw [if_pos easy_wok,put_len easy_pw easy_wok];rfl
theorem easy_put:readOk (pputL easyP)=true∧readP (pputL easyP)=easyP:=by
  unfold pputL
  rw [if_pos easy_wok]
  exact proof_back easy_pw easy_wok
theorem easy_places:placesOf [easyB0,easyB] 1 1=[0,1]:=by
  unfold placesOf
  rw [easy_prefix];rfl
theorem easy_wiE:wiE [easyB0,easyB] 1 1 0=0:=by
  unfold wiE
  rw [if_neg (fun h=>h easy_prE),if_neg (by decide)]
theorem easy_wi:wiOf [easyB0,easyB] 1 1 0=easyP:=by
  have h:=build_is easy_prE
  rw [easy_pr] at h
  have hb:=zbZ easy_prE
  unfold wiOf
  rw [if_pos easy_wiE,h]
  unfold zcm wayL
  rw [if_pos ((isIn_iff (zay hb) 0).2 (by rw [easy_places];decide))]
theorem awake17_ok:Tells P 11 [] (.val boolT true):=by
 refine zc Tryz.func11 rfl rfl rfl (fun ext w hext=>?_)
 have hx1:easyP.p[1]?=some (⟨easyB.h,[id0]⟩:Part):=rfl
 refine CQR ?_;refine qar ?_;refine A0 (oCl (two_ok) rfl fn_29 trivial) ?_;refine A0 (oCl (zcn [easyB0,easyB] 1 1 small_easyC) rfl fn_14 ⟨(zd rfl),(zd rfl),(zd rfl),trivial⟩) ?_;refine A0 mX ?_;refine A0 (by first|exact zN rfl rfl|exact zM rfl rfl) ?_;refine zi (d:=12) (y:=easyP) rfl (easy_pr) ?_;refine A0 (by first|exact zQ rfl rfl|exact zP rfl rfl) ?_;refine zi (d:=13) (y:=(0:Int)) rfl (easy_prE) ?_;refine qaI ?_;refine qar ?_;refine A0 (oCl (two_ok) rfl fn_29 trivial) ?_
 refine A0 (oCl (prWith_ok [easyB0,easyB] 1 1 0 small_easyC) rfl fn_16 ⟨(zd rfl),(zd rfl),(zd rfl),(zd rfl),trivial⟩) ?_;refine A0 mX ?_;refine A0 (by first|exact zN rfl rfl|exact zM rfl rfl) ?_;refine zi (d:=17) (y:=easyP) rfl (easy_wi) ?_;refine A0 (by first|exact zQ rfl rfl|exact zP rfl rfl) ?_;refine zi (d:=18) (y:=(0:Int)) rfl (easy_wiE) ?_;refine qaI ?_;refine qbd ?_;refine A0 (oCl (ze3 easyP) rfl fn_18 ⟨(zd rfl),trivial⟩) ?_;refine A0 mX ?_;refine A0 (by first|exact zN rfl rfl|exact zM rfl rfl) ?_
 refine A0 (by first|exact zQ rfl rfl|exact zP rfl rfl) ?_;refine zi (d:=23) (y:=true) rfl (easy_wok) ?_;refine qbw ?_;refine A0 (oCl (pread_ok (pputL easyP) (by rw [easy_plen];decide)) rfl fn_20 ⟨(zd rfl),trivial⟩) ?_;refine A0 mX ?_;refine A0 (by first|exact zN rfl rfl|exact zM rfl rfl) ?_;refine zi (d:=27) (y:=easyP) rfl ((readR_yes easy_put.1).trans easy_put.2) ?_;refine A0 (by first|exact zQ rfl rfl|exact zP rfl rfl) ?_;refine zi (d:=28) (y:=true) rfl (easy_put.1) ?_;refine qaI ?_;refine qad ?_;refine A0 zbf ?_;refine zaJ (d:=30) rfl (rfl) ?_
 refine qbr ?_;refine A1 zbf ?_;refine zaJ (d:=33) rfl (rfl) ?_;refine qae ?_;refine qap ?_;refine A1 zbf ?_;refine zaJ (d:=39) rfl (rfl) ?_;refine qae ?_;refine qap ?_;refine A1 zbf ?_;refine zaJ (d:=45) rfl (rfl) ?_;refine qbs ?_;refine zaJ (d:=48) rfl (rfl) ?_;refine qbs ?_;refine zaJ (d:=51) rfl (rfl) ?_;refine qae ?_;refine A1 (oLs rfl rfl rfl zaH) ?_;refine A1 (oLs rfl rfl rfl zaH) ?_;refine A1 (oCl (sameP_ok easyP easyP) rfl fn_23 ⟨(zd rfl),(zd rfl),trivial⟩) ?_;refine zaJ (d:=56) rfl (by simp) ?_;refine qbs ?_;refine A1 (zR rfl rfl za3) ?_
 refine A1 zaI ?_;refine zaJ (d:=61) rfl (by rw [easy_plen];rfl) ?_;refine qae ?_;refine A1 (oFp zax) ?_;refine A1 (oLb zaB zcv) ?_;refine A1 (zu (i:=1) rfl rfl rfl (by omega) za9 (by assumption)) ?_;refine A1 (oFr zbL zb0) ?_;refine A1 (oFr zbh zae) ?_;refine A1 (zg rfl rfl ty_3) ?_;refine A1 zbf ?_;refine qa3 ?_
 exact zb rfl rfl (za rfl (rfl))
set_option maxRecDepth 20000
section
variable {l:List Block} {m k:Int}
def partsOf (l:List Block) (m k:Int):List Part:=(placesOf l m k).map (prPart l)
theorem zci:(partsOf l m k).length=(placesOf l m k).length:=by unfold partsOf;simp
theorem chain_part (h : BuildOk l m k) {i : Nat} (hi : i < (partsOf l m k).length) : ∃ (p : Int) (b : Block), (placesOf l m k)[i]? = some p ∧ l[p.toNat]? = some b ∧ 0 ≤ p ∧ p < l.length ∧ b.h.height = p ∧ (partsOf l m k)[i]? = some ⟨b.h, b.l⟩ ∧
    ((i<(prefixOf (levelsOf l) m k).1.length∧(prefixOf (levelsOf l) m k).1[i]?=some p)∨((prefixOf (levelsOf l) m k).1.length≤i∧(l.length:Int)-k≤p)):=by
  rw [zci] at hi
  obtain ⟨p,hp⟩:∃p,(placesOf l m k)[i]?=some p:=⟨_,List.getElem?_eq_getElem hi⟩
  obtain ⟨h1,h2⟩:=places_at h hp
  obtain ⟨b,h3,h4,h5⟩:=part_at h hp
  exact ⟨p,b,hp,h3,h1.1,h1.2,h4,h5,h2⟩
theorem chain_first (h:BuildOk l m k):∃b:Block,l[0]?=some b∧(partsOf l m k)[0]?=some ⟨b.h,b.l⟩:=by
  obtain ⟨b,h1,_,h3⟩:=part_at h (places_first h)
  exact ⟨b,h1,h3⟩
theorem chain_last (h:BuildOk l m k):∃b:Block,l[l.length-1]?=some b∧(partsOf l m k)[(partsOf l m k).length-1]?=some ⟨b.h,b.l⟩:=by
  have h1:=places_last h
  have hk:=h.k1;have hl:=h.kl
  obtain ⟨b,h2,_,h3⟩:=part_at h h1
  rw [show ((l.length:Int)-1).toNat=l.length-1 by omega] at h2
  exact ⟨b,h2,by rw [zci];exact h3⟩
theorem partsOf_few (h:BuildOk l m k):(partsOf l m k).length=(prefixOf (levelsOf l) m k).1.length+k.toNat∧(partsOf l m k).length≤l.length:=by
  rw [zci]
  exact ⟨places_len h,places_few h⟩
theorem chain_rise (h:BuildOk l m k) {i:Nat} {x y:Part} (hx:(partsOf l m k)[i]?=some x) (hy:(partsOf l m k)[i+1]?=some y):x.h.height<y.h.height:=by
  obtain ⟨p,b,h1,h2,_,_,h3,h4,_⟩:=chain_part h (List.getElem?_eq_some_iff.1 hx).1
  obtain ⟨q,c,g1,g2,_,_,g3,g4,_⟩:=chain_part h (List.getElem?_eq_some_iff.1 hy).1
  rw [hx] at h4;rw [hy] at g4
  injection h4 with h4;injection g4 with g4
  rw [h4,g4]
  show b.h.height<c.h.height
  rw [h3,g3]
  exact (zcw (zay h) h1 g1).2 (by omega)
theorem prefix_yes (h:BuildOk l m k):(prefixOf (levelsOf l) m k).2=true:=by unfold prefixOf;rw [if_pos (build_may h)]
theorem pr_is (h:prE l m k=0):prOf l m k=⟨m,k,partsOf l m k⟩:=build_is h
end
def hasH (L:List Part) (h:Head):Bool:=L.any fun x=>decide (x.h=h)
theorem has_step {L:List Part} {h:Head} {j:Nat} {z:Part} (hz:L[j]?=some z):hasH (L.take (j+1)) h=(hasH (L.take j) h||decide (z.h=h)):=by
  unfold hasH
  rw [List.take_add_one,hz,List.any_append];simp
theorem has_mem {L:List Part} {x:Part} (hx:x∈L):hasH L x.h=true:=List.any_eq_true.2 ⟨x,hx,decide_eq_true rfl⟩
theorem ProofChain_ok (l:List Block) (m k x:Int) (hl:smallC l):Tells P 5 [.val (sl blockT) l,.val i64T m,.val i64T k,.val i64T x] (.val boolT true):=by
 have hll:=hl.1
 refine zc Tryz.func5 rfl rfl rfl (fun ext w hext=>?_)
 refine ze (d:=0) rfl zk (fun hsl0=>?_)
 refine ze (d:=1) rfl zn (fun hin1=>?_)
 refine ze (d:=2) rfl zn (fun hin2=>?_)
 refine ze (d:=3) rfl zn (fun hin3=>?_)
 refine CQR ?_;refine qb7 ?_;refine qad ?_;refine A0 (oCl (fewC_ok l) rfl fn_12 ⟨(zd rfl),trivial⟩) ?_;refine qad ?_;refine qak ?_;refine A0 (oCl (zcn l m k hl) rfl fn_14 ⟨(zd rfl),(zd rfl),(zd rfl),trivial⟩) ?_;refine A0 mX ?_;refine A0 (by first|exact zN rfl rfl|exact zM rfl rfl) ?_;refine A0 (by first|exact zQ rfl rfl|exact zP rfl rfl) ?_;refine qaI ?_;refine qai ?_;refine A0 oN ?_;refine zcr (d:=28) rfl (rfl) ?_;refine qbr ?_;refine A1 oN ?_;refine zL (d:=31) (p:=¬fewC l=true) rfl (by cases fewC l<;>rfl) (fun g31=>?_) (fun g31=>?_)
 ·
  refine qb5 ?_;refine Ct ?_;refine qbg ?_
  exact zb rfl rfl (za rfl (rfl))
 ·
  refine qbs ?_;refine A1 zdr ?_;refine qat ?_;refine zr (p:=¬prE l m k=0) rfl (by simp [IntL.toI]) (fun ht36=>?_) (fun ht36=>?_)
  ·
   refine qbg ?_
   exact zb rfl rfl (za rfl (rfl))
  ·
   have hpe:prE l m k=0:=Classical.not_not.1 ht36
   have hb:=zbZ hpe
   have hk1:=hb.k1
   have hkl:=hb.kl
   obtain ⟨Q,hQ⟩:∃Q,Q=partsOf l m k:=⟨_,rfl⟩
   obtain ⟨T,hT⟩:∃T,T=(prefixOf (levelsOf l) m k).1:=⟨_,rfl⟩
   obtain ⟨hq1,hq2⟩:=partsOf_few hb
   rw [←hQ,←hT] at hq1
   rw [←hQ] at hq2
   obtain ⟨b0,hb0,hQ0⟩:=chain_first hb
   obtain ⟨bz,hbz,hQz⟩:=chain_last hb
   rw [←hQ] at hQ0 hQz
   have hpq:({ m:=m,k:=k,p:=Q }:Proof).p.length=Q.length:=rfl
   refine zS (n:=0) (y:=(⟨m,k,Q⟩:Proof)) rfl (by rw [pr_is hpe,hQ]) ?_;refine qbF ?_;refine A0 (oCl (zp (levels_ok l (by omega))) rfl fn_25 ⟨(zd rfl),trivial⟩) ?_;refine qak ?_;refine A0 (oCl (zbT (prefix_ok (levelsOf l) m k)) rfl fn_24 ⟨(zd rfl),(zd rfl),(zd rfl),trivial⟩) ?_;refine A0 mX ?_;refine A0 (by first|exact zN rfl rfl|exact zM rfl rfl) ?_;refine zi (d:=44) (y:=T) rfl (by rw [hT]) ?_;refine A0 (by first|exact zQ rfl rfl|exact zP rfl rfl) ?_;refine A0 aV ?_;refine qaL ?_;refine qbc ?_;refine G0 mV ?_;refine G0 oN ?_
   refine zcu (d:=47) rfl (by rw [prefix_yes hb];rfl) ?_;refine G0 mV ?_;refine qbj ?_;refine G1 zbf ?_;refine zcu (d:=52) rfl (decide_eq_false (by simp only [IntL.toI,id_eq];omega)) ?_;refine G0 oK ?_;refine G0 mV ?_;refine G1 mV ?_;refine G1 (zR rfl rfl zcQ) ?_;refine G1 zbf ?_;refine zcu (d:=57) rfl (decide_eq_false (by simp only [IntL.toI,id_eq];omega)) ?_;refine G0 oK ?_;refine G0 mV ?_;refine qbj ?_;refine G1 mV ?_;refine G1 (zR rfl rfl zb2) ?_;refine G1 mV ?_;refine G1 zby ?_;refine G1 zdr ?_
   refine zcu (d:=67) rfl (by simp only [IntL.toI,id_eq];rw [decide_eq_true (by omega)];rfl) ?_;refine G0 oK ?_;refine G0 mV ?_;refine G1 (oFp zcZ) ?_;refine G1 (oLb zeR ty_3) ?_;refine G1 mV ?_;refine G1 zdr ?_;refine zcu (d:=73) rfl (by simp) ?_;refine G0 oK ?_;refine G0 mV ?_;refine G1 (oFp zcY) ?_;refine G1 (oLb zeS ty_3) ?_;refine G1 mV ?_;refine G1 zdr ?_;refine zcu (d:=79) rfl (by simp) ?_;refine G0 oK ?_;refine G0 mV ?_;refine G1 (oFp zax) ?_;refine G1 (oLb zaB zcv) ?_;refine G1 (zu (i:=0) rfl rfl rfl (by omega) za9 (by assumption)) ?_
   refine qaR ?_;refine G1 mV ?_;refine G1 (zu (i:=0) rfl rfl rfl (by omega) zc8 (by assumption)) ?_;refine G1 (oFr zaw zah) ?_;refine G1 (zg rfl rfl zav) ?_;refine G1 (g_neqS rfl rfl rfl (eqt_52)) ?_;refine zcu (d:=91) rfl (by simp) ?_;refine G0 oK ?_;refine G0 mV ?_;refine G1 (oFp zax) ?_;refine G1 (oLb zaB zcv) ?_;refine qbj ?_;refine G1 zaT ?_;refine G1 (zu (i:=Q.length-1) rfl rfl rfl (by omega) za9 (by assumption)) ?_;refine qaR ?_;refine G1 mV ?_;refine G1 mV ?_;refine G1 (zR rfl rfl zcQ) ?_;refine G1 zaT ?_
   refine G1 (zu (i:=l.length-1) rfl rfl rfl (by omega) zc8 (by assumption)) ?_;refine G1 (oFr zaw zah) ?_;refine G1 (zg rfl rfl zav) ?_;refine G1 (g_neqS rfl rfl rfl (eqt_52)) ?_;refine zcu (d:=110) rfl (by simp) ?_;refine qaE ?_;refine Cg ?_;refine CSQQR ?_;refine A0 aV ?_;refine CNB ?_
   refine Lp (ι:=Nat) 1 (fun (i:Nat)=>((((((Fr.none).set 0 (.val (sl blockT) l)).set 2 (.val i64T k)).set 3 (.val i64T x)).set 11 (.ptr 0 0)).set 13 (.val (sl i64T) T)).set 15 (.val i64T (i:Int))) (fun (i:Nat)=>(Hp.none).set 0 (.box 25 proofT (⟨m,k,Q⟩:Proof))) (fun (i:Nat)=>1≤i∧i≤Q.length) (fun (i:Nat)=>Q.length-i) (1) (⟨Nat.le_refl _,by omega⟩) ?_
   intro i hinv
   refine qbb ?_;refine qaF ?_;refine qaG ?_;refine Cf (p:=i<Q.length) (fun ht116=>?_) (fun ht116=>?_)
   ·
    obtain ⟨y1,hy1⟩:∃y,Q[i]?=some y:=⟨_,List.getElem?_eq_getElem ht116⟩
    obtain ⟨y0,hy0⟩:∃y,Q[i-1]?=some y:=⟨_,List.getElem?_eq_getElem (by omega)⟩
    have hrise:=chain_rise hb (i:=i-1) (hQ▸hy0) (by rw [show i-1+1=i by omega];exact hQ▸hy1)
    refine CS ?_;refine CQ ?_;refine CB ?_;refine qbc ?_;refine G0 (oFp zax) ?_;refine G0 (oLb zaB zcv) ?_;refine G0 mV ?_;refine G0 (zu (i:=i) rfl rfl rfl (by omega) za9 (by assumption)) ?_;refine G0 (oFr zbL zb0) ?_;refine G0 (oFr zbh zae) ?_;refine G0 (zg rfl rfl ty_3) ?_;refine G0 (oFp zax) ?_;refine G0 (oLb zaB zcv) ?_;refine G0 mV ?_;refine G0 zaT ?_;refine G0 (zu (i:=i-1) rfl rfl rfl (by omega) za9 (by assumption)) ?_;refine G0 (oFr zbL zb0) ?_;refine G0 (oFr zbh zae) ?_
    refine G0 (zg rfl rfl ty_3) ?_;refine G0 zcN ?_;refine GK.nil ?_;refine zdx rfl (decide_eq_false (by simp only [IntL.toI,id_eq];omega)) ?_;refine qas ?_
    exact Nx (i+1) (⟨by omega,by omega⟩) (by omega)
   ·
    refine CE ?_;refine qbb ?_;refine A0 zbx ?_;refine Sp (d:=136) (p:=x<0) (fun g136=>?_) (fun g136=>?_)
    ·
     refine qbJ ?_;refine qaC ?_;refine qat ?_;refine Ct ?_;refine qa5 ?_
     exact zb rfl rfl (za rfl (rfl))
    ·
     refine qbr ?_;refine qap ?_;refine A1 zcU ?_;refine qat ?_;refine Cf (p:=(Q.length:Int)≤x) (fun ht143=>?_) (fun ht143=>?_)
     ·
      refine qa5 ?_
      exact zb rfl rfl (za rfl (rfl))
     ·
      obtain ⟨p,b,hp1,hp2,hp3,hp4,hp5,hp6,hp7⟩:=chain_part hb (i:=x.toNat) (by rw [←hQ];omega)
      rw [←hQ] at hp6
      rw [←hT] at hp7
      have hbhh:({ h:=b.h,l:=b.l }:Part).h.height=p:=hp5
      refine CSQR ?_;refine A0 (oFp zax) ?_;refine A0 (oLb zaB zcv) ?_;refine qaw ?_;refine A0 (zu (i:=x.toNat) rfl rfl rfl (by omega) za9 (by assumption)) ?_;refine A0 (oFr zbL zb0) ?_;refine A0 (oFr zbh zae) ?_;refine qbM ?_;refine A0 aX ?_;refine CNQ ?_;refine qbc ?_;refine G0 mX ?_;refine G0 zbx ?_;refine zcu (d:=152) rfl (decide_eq_false (by simp only [IntL.toI,id_eq];omega)) ?_;refine G0 mV ?_;refine G1 mX ?_;refine G1 mV ?_;refine G1 (zR rfl rfl zcQ) ?_;refine G1 zcU ?_
      refine zcu (d:=157) rfl (decide_eq_false (by simp only [IntL.toI,id_eq];omega)) ?_;refine G0 oK ?_;refine G0 mV ?_;refine G1 mV ?_;refine G1 mX ?_;refine G1 (zu (i:=p.toNat) rfl rfl rfl (by omega) zc8 (by assumption)) ?_;refine G1 (oFr zaw zah) ?_;refine G1 (zg rfl rfl zav) ?_;refine qan ?_;refine G1 (zu (i:=x.toNat) rfl rfl rfl (by omega) za9 (by assumption)) ?_;refine qaR ?_;refine G1 (g_neqS rfl rfl rfl (eqt_52)) ?_;refine zcu (d:=171) rfl (by simp) ?_;refine G0 oK ?_;refine G0 mV ?_;refine G1 mV ?_;refine G1 mX ?_
      refine G1 (zu (i:=p.toNat) rfl rfl rfl (by omega) zc8 (by assumption)) ?_;refine G1 (oFr zbt zbc) ?_;refine G1 (zg rfl rfl zbI) ?_;refine G1 (by first|exact zR rfl rfl zba|exact zan rfl rfl rfl zba|exact zaz rfl rfl zba) ?_;refine qan ?_;refine G1 (zu (i:=x.toNat) rfl rfl rfl (by omega) za9 (by assumption)) ?_;refine G1 (oFr zck zc5) ?_;refine G1 (zg rfl rfl zbI) ?_;refine G1 (by first|exact zR rfl rfl zba|exact zan rfl rfl rfl zba|exact zaz rfl rfl zba) ?_;refine G1 zdr ?_
      refine zcu (d:=187) rfl (by simp) ?_;refine qaE ?_;refine Cg ?_;refine CSQR ?_;refine qak ?_;refine qbC ?_;refine A0 zcU ?_;refine Sp (d:=192) (p:=(T.length:Int)≤x) (fun g192=>?_) (fun g192=>?_)
      ·
       have hpk:(l.length:Int)-k≤p:=by rcases hp7 with h|h<;>omega
       refine qaw ?_;refine A1 mX ?_;refine A1 mV ?_;refine A1 (zR rfl rfl zcQ) ?_;refine A1 mV ?_;refine A1 zaT ?_;refine A1 zcU ?_;refine zaJ (d:=199) rfl (decide_eq_true (by simp only [IntL.toI,id_eq];omega)) ?_;refine qaM ?_;refine qaC ?_;refine qa9 ?_;refine qa9 ?_;refine A2 ?_;refine qa3 ?_
       exact zb rfl rfl (za rfl (rfl))
      ·
       have hpt:T[x.toNat]?=some p:=by rcases hp7 with h|h;exact h.2;omega
       refine qbJ ?_;refine qab ?_;refine qae ?_;refine qaH ?_;refine A1 (zR rfl rfl zb2) ?_;refine A1 zbx ?_;refine zaJ (d:=205) rfl (decide_eq_true (by simp only [IntL.toI,id_eq];omega)) ?_;refine qaH ?_;refine A1 mV ?_;refine A1 (zu (i:=x.toNat) rfl rfl rfl (by omega) zbm (by assumption)) ?_;refine A1 (zg rfl rfl ty_3) ?_;refine A1 mX ?_;refine A1 zbf ?_;refine zaJ (d:=212) rfl (by simp [hp5]) ?_;refine A1 oK ?_;refine qa3 ?_
       exact zb rfl rfl (za rfl (rfl))
theorem ProofMore_ok (l:List Block) (m n k:Int) (hl:smallC l):Tells P 8 [.val (sl blockT) l,.val i64T m,.val i64T n,.val i64T k] (.val boolT true):=by
 have hll:=hl.1
 refine zc Tryz.func8 rfl rfl rfl (fun ext w hext=>?_)
 refine ze (d:=0) rfl zk (fun hsl0=>?_)
 refine ze (d:=1) rfl zn (fun hin1=>?_)
 refine ze (d:=2) rfl zn (fun hin2=>?_)
 refine ze (d:=3) rfl zn (fun hin3=>?_)
 refine CQR ?_;refine qb7 ?_;refine qad ?_;refine A0 (oCl (fewC_ok l) rfl fn_12 ⟨(zd rfl),trivial⟩) ?_;refine qad ?_;refine qak ?_;refine A0 (oCl (zcn l m k hl) rfl fn_14 ⟨(zd rfl),(zd rfl),(zd rfl),trivial⟩) ?_;refine A0 mX ?_;refine A0 (by first|exact zN rfl rfl|exact zM rfl rfl) ?_;refine A0 (by first|exact zQ rfl rfl|exact zP rfl rfl) ?_;refine qaI ?_;refine qad ?_;refine qak ?_;refine A0 (oCl (zcn l n k hl) rfl fn_14 ⟨(zd rfl),(zd rfl),(zd rfl),trivial⟩) ?_;refine A0 mX ?_;refine A0 (by first|exact zN rfl rfl|exact zM rfl rfl) ?_
 refine A0 (by first|exact zQ rfl rfl|exact zP rfl rfl) ?_;refine qaI ?_;refine qai ?_;refine A0 oN ?_;refine zcr (d:=36) rfl (rfl) ?_;refine qbr ?_;refine A1 oN ?_;refine zL (d:=39) (p:=¬fewC l=true) rfl (by cases fewC l<;>rfl) (fun g39=>?_) (fun g39=>?_)
 ·
  refine qaM ?_;refine qae ?_;refine qaC ?_;refine qb5 ?_;refine Ct ?_;refine qbg ?_
  exact zb rfl rfl (za rfl (rfl))
 ·
  refine qae ?_;refine qaH ?_;refine A1 zbx ?_;refine Sp (d:=44) (p:=n<m) (fun g44=>?_) (fun g44=>?_)
  ·
   refine qae ?_;refine qaC ?_;refine qb5 ?_;refine Ct ?_;refine qbg ?_
   exact zb rfl rfl (za rfl (rfl))
  ·
   refine qbs ?_;refine A1 zdr ?_;refine zL (d:=48) (p:=¬prE l m k=0) rfl (by simp [IntL.toI]) (fun g48=>?_) (fun g48=>?_)
   ·
    refine qb5 ?_;refine Ct ?_;refine qbg ?_
    exact zb rfl rfl (za rfl (rfl))
   ·
    refine qbs ?_;refine A1 zdr ?_;refine qat ?_;refine zr (p:=¬prE l n k=0) rfl (by simp [IntL.toI]) (fun ht53=>?_) (fun ht53=>?_)
    ·
     refine qbg ?_
     exact zb rfl rfl (za rfl (rfl))
    ·
     have hp1:prE l m k=0:=Classical.not_not.1 g48
     have hp2:prE l n k=0:=Classical.not_not.1 ht53
     have hb:=zbZ hp1
     have hb2:=zbZ hp2
     have hk1:=hb.k1
     have hkl:=hb.kl
     obtain ⟨A,hA⟩:∃A,A=partsOf l m k:=⟨_,rfl⟩
     obtain ⟨B,hB⟩:∃B,B=partsOf l n k:=⟨_,rfl⟩
     have hq1:=(partsOf_few hb).2
     have hq2:=(partsOf_few hb2).2
     rw [←hA] at hq1
     rw [←hB] at hq2
     have hab:A.length≤B.length:=by rw [hA,hB,zci,zci];exact places_more hb (by omega) hb2
     have hpa:({ m:=m,k:=k,p:=A }:Proof).p.length=A.length:=rfl
     have hpb:({ m:=n,k:=k,p:=B }:Proof).p.length=B.length:=rfl
     refine zS (n:=0) (y:=(⟨m,k,A⟩:Proof)) rfl (by rw [pr_is hp1,hA]) ?_;refine zS (n:=1) (y:=(⟨n,k,B⟩:Proof)) rfl (by rw [pr_is hp2,hB]) ?_;refine CSQQR ?_;refine A0 aV ?_;refine CNB ?_;refine Lp (ι:=Nat) 2 (fun (i:Nat)=>((((((Fr.none).set 0 (.val (sl blockT) l)).set 2 (.val i64T n)).set 3 (.val i64T k)).set 11 (.ptr 0 0)).set 13 (.ptr 1 0)).set 15 (.val i64T (i:Int))) (fun (i:Nat)=>((Hp.none).set 0 (.box 25 proofT (⟨m,k,A⟩:Proof))).set 1 (.box 25 proofT (⟨n,k,B⟩:Proof))) (fun (i:Nat)=>i≤A.length) (fun (i:Nat)=>A.length-i) (0) (Nat.zero_le _) ?_
     intro i hinv
     refine qbb ?_;refine qaF ?_;refine qaG ?_;refine Cf (p:=i<A.length) (fun ht59=>?_) (fun ht59=>?_)
     ·
      obtain ⟨y,hy⟩:∃y,A[i]?=some y:=⟨_,List.getElem?_eq_getElem ht59⟩
      refine CSQBQR ?_;refine qbu ?_;refine Lp (ι:=Nat) 2 (fun (j:Nat)=>((((((((Fr.none).set 0 (.val (sl blockT) l)).set 2 (.val i64T n)).set 3 (.val i64T k)).set 11 (.ptr 0 0)).set 13 (.ptr 1 0)).set 15 (.val i64T (i:Int))).set 16 (.val boolT (hasH (B.take j) y.h))).set 17 (.val i64T (j:Int))) (fun (j:Nat)=>((Hp.none).set 0 (.box 25 proofT (⟨m,k,A⟩:Proof))).set 1 (.box 25 proofT (⟨n,k,B⟩:Proof))) (fun (j:Nat)=>j≤B.length) (fun (j:Nat)=>B.length-j) (0) (Nat.zero_le _) ?_
      intro j hj
      refine qbb ?_;refine qaF ?_;refine qaG ?_;refine Cf (p:=j<B.length) (fun ht66=>?_) (fun ht66=>?_)
      ·
       obtain ⟨z,hz⟩:∃z,B[j]?=some z:=⟨_,List.getElem?_eq_getElem ht66⟩
       refine CS ?_;refine CQ ?_;refine CB ?_;refine CD mixed ?_;refine G0 mV ?_;refine G0 mV ?_;refine zai (d:=70) (p:=hasH (B.take j) y.h=true) rfl (by simp) (fun g70=>?_) (fun g70=>?_)
       ·
        refine qaa ?_;refine qau ?_;refine G2 ?_;refine G2 ?_;refine G0 oK ?_;refine qbn ?_;refine CI ?_;refine CR ?_;refine qaY ?_;refine qac ?_;refine zi (d:=16) (y:=hasH (B.take (j+1)) y.h) rfl (by rw [has_step hz,g70];rfl) ?_
        exact Nx (j+1) (by omega) (by omega)
       ·
        refine qan ?_;refine G1 (zu (i:=j) rfl rfl rfl (by omega) za9 (by assumption)) ?_;refine qaR ?_;refine qan ?_;refine G1 (zu (i:=i) rfl rfl rfl (by omega) za9 (by assumption)) ?_;refine qaR ?_;refine G1 (g_eqlS rfl rfl rfl (eqt_52)) ?_;refine G0 oK ?_;refine qbn ?_;refine CI ?_;refine CR ?_;refine qaY ?_;refine qac ?_;refine zi (d:=16) (y:=hasH (B.take (j+1)) y.h) rfl (by rw [has_step hz,Bool.eq_false_iff.2 g70];simp) ?_
        exact Nx (j+1) (by omega) (by omega)
      ·
       have hall:hasH (B.take j) y.h=true:=by rw [List.take_of_length_le (by omega)];exact has_mem (by rw [hB];exact parts_more hb (by omega) (by have:=List.mem_of_getElem? hy;rw [hA] at this;exact this))
       refine CE ?_;refine qa1 ?_;refine qaN ?_;refine zdx rfl (by rw [hall];rfl) ?_;refine qas ?_
       exact Nx (i+1) (by omega) (by omega)
     ·
      refine CE ?_;refine CQR ?_;refine qaF ?_;refine qaF ?_;refine A0 zcN ?_;refine zaJ (d:=93) rfl (decide_eq_true (by simp only [IntL.toI,id_eq];omega)) ?_;refine qaw ?_;refine qap ?_;refine A1 mV ?_;refine A1 (zR rfl rfl zcQ) ?_;refine A1 zcN ?_;refine zaJ (d:=100) rfl (decide_eq_true (by simp only [IntL.toI,id_eq];omega)) ?_;refine qbs ?_;refine A1 (zR rfl rfl zcQ) ?_;refine A1 mV ?_;refine A1 zaT ?_;refine A1 mV ?_;refine A1 zaI ?_;refine Sp (d:=108) (p:=n<(l.length:Int)-k) (fun g108=>?_) (fun g108=>?_)
      ·
       refine A1 mV ?_;refine qab ?_;refine qab ?_;refine A1 oK ?_;refine qa3 ?_
       exact zb rfl rfl (za rfl (rfl))
      ·
       refine A1 mV ?_;refine qap ?_;refine A1 mV ?_;refine A1 (zR rfl rfl zcQ) ?_;refine A1 zbf ?_;refine A1 oK ?_;refine qa3 ?_
       exact zb rfl rfl (za rfl (decide_eq_true (by have:=places_whole hb2 (by omega);rw [←zci,←hB] at this;simp only [IntL.toI,id_eq];omega)))
set_option maxRecDepth 20000
theorem uu_26:P.underlying 26=some (.slice 5):=by kernel_rfl
theorem chain_lens {l:List Block} {t:Tip} {i:Nat} {b:Block} (h:Chain l t) (hb:l[i]?=some b):b.l.length≤32:=by
  by_cases hi:i=0
  · subst hi
    rw [(zff h hb).2.2.1 rfl];decide
  · obtain ⟨t',h1,h2,h3⟩:=chain_at h (by omega) hb
    have e:b.l=linksT t':=(push_iff.1 h2).2.2.1
    obtain ⟨a1,a2,a3,a4⟩:=chain_links h1
    rw [←e] at a2
    exact a2
def BW (l:List Block):Prop:=∀x∈l,HW x.h∧∀y∈x.l,y.length=32
theorem fact_bw {l:List Block} {b:Bool} {ρ:Nat→Value} {B:Nat→Prop} {U N:Nat→Prop} {w:World} {v:Value} (h:(AV.val (slT b blockT) l).rel ρ B U N w v):BW l:=by
  obtain ⟨cs,⟨ad,cap,_,_,_,h3⟩,_⟩:=h
  intro x hx
  obtain ⟨_,ds,_,_,hr,_⟩:=h3 (List.ne_nil_of_mem hx)
  obtain ⟨c,d1,d2,_,hh,e1,e2,_,hl,_⟩:=relAll_mem hr x hx
  exact ⟨hd_rel hh,is_rel hl⟩
section
variable {l:List Block} {m k:Int}
theorem parts_put {W : List Int} (h : BuildOk l m k) (hn : l.length ≤ 50) (hbw : BW l) (hr : W.Pairwise (· < ·)) (hm : ∀ x ∈ W, 0 ≤ x ∧ x < l.length) :
    wOk ⟨m,k,W.map (prPart l)⟩=true∧PW ⟨m,k,W.map (prPart l)⟩∧W.length≤l.length∧(putL ⟨m,k,W.map (prPart l)⟩).length≤63453:=by
  have hlen:W.length≤l.length:=by
    have:=zbq (all_rising l.length) hr (fun x hx=>by
      have:=hm x hx
      exact List.mem_map.2 ⟨x.toNat,List.mem_range.2 (by omega),by omega⟩)
    simpa using this
  have hpart:∀x∈W.map (prPart l),∃(i:Nat) (b:Block),l[i]?=some b∧x=⟨b.h,b.l⟩:=fun x hx=>by
    obtain ⟨p,hp,rfl⟩:=List.mem_map.1 hx
    have:=hm p hp
    obtain ⟨b,hb⟩:∃b,l[p.toNat]?=some b:=⟨_,List.getElem?_eq_getElem (by omega)⟩
    refine ⟨p.toNat,b,hb,?_⟩
    unfold prPart
    rw [List.getD_eq_getElem?_getD,hb];rfl
  have hc:=zfe h.c
  have hpw:PW ⟨m,k,W.map (prPart l)⟩:=fun x hx=>by
    obtain ⟨i,b,hb,rfl⟩:=hpart x hx
    exact hbw b (List.mem_of_getElem? hb)
  have hl:∀x∈W.map (prPart l),x.l.length≤32:=fun x hx=>by
    obtain ⟨i,b,hb,rfl⟩:=hpart x hx
    exact chain_lens hc hb
  have hw:wOk ⟨m,k,W.map (prPart l)⟩=true:=by
    unfold wOk sizeOk
    rw [Bool.and_eq_true,Bool.and_eq_true,decide_eq_true_eq,List.all_eq_true,List.all_eq_true]
    refine ⟨⟨⟨h.m1,h.m2,h.k1,h.k2,by show (W.map (prPart l)).length≤100;rw [List.length_map];omega⟩,fun x hx=>decide_eq_true (hl x hx)⟩,fun x hx=>?_⟩
    obtain ⟨i,b,hb,rfl⟩:=hpart x hx
    exact (zff hc hb).2.1
  refine ⟨hw,hpw,hlen,?_⟩
  rw [put_len hpw hw]
  have h3:=sum_le (fun x:Part=>181+34*x.l.length) 1269 (W.map (prPart l)) (fun x hx=>by have:=hl x hx;omega)
  rw [List.length_map] at h3
  have h4:W.length*1269≤50*1269:=Nat.mul_le_mul_right _ (by omega)
  show 3+((W.map (prPart l)).map fun x=>181+34*x.l.length).sum≤63453
  omega
theorem build_put (h:prE l m k=0) (hn:l.length≤50) (hbw:BW l):wOk (prOf l m k)=true∧PW (prOf l m k)∧(putL (prOf l m k)).length≤63453:=by
  have hb:=zbZ h
  have:=parts_put hb hn hbw (zay hb) (fun x hx=>zbV ⟨hb.k1,hb.kl⟩ hx)
  rw [build_is h]
  exact ⟨this.1,this.2.1,this.2.2.2⟩
end
theorem pput_yes {p:Proof} (h:wOk p=true):pputL p=putL p:=by unfold pputL;rw [if_pos h]
def sizeN (L:List Part) (i:Nat):Nat:=3+((L.take i).map fun x=>181+34*x.l.length).sum
theorem size_step {L:List Part} {i:Nat} {y:Part} (h:L[i]?=some y):sizeN L (i+1)=sizeN L i+(181+34*y.l.length):=by
  unfold sizeN
  rw [List.take_add_one,h,List.map_append,List.sum_append]
  simp;omega
theorem size_bd {L:List Part} {i:Nat} (hl:L.length≤110) (h:∀x∈L,x.l.length≤40):sizeN L i≤169513:=by
  unfold sizeN
  have h3:=sum_le (fun x:Part=>181+34*x.l.length) 1541 (L.take i) (fun x hx=>by have:=h x (List.mem_of_mem_take hx);omega)
  have h4:(L.take i).length*1541≤110*1541:=Nat.mul_le_mul_right _ (by rw [List.length_take];omega)
  omega
theorem few_links {p:Proof} (h:fewPr p=true):∀x∈p.p,x.l.length≤40:=by
  unfold fewPr at h
  rw [Bool.and_eq_true,List.all_eq_true] at h
  exact fun x hx=>of_decide_eq_true (h.1 x hx)
theorem cut_more {p:Proof} (hp:PW p) (h:wOk p=true) (z:List UInt8):readOk (putL p++z)=decide (z.length=0):=by
  by_cases hz:z=[]
  · subst hz
    rw [List.append_nil,(proof_back hp h).1];rfl
  · rw [decide_eq_false (fun e=>hz (List.length_eq_zero_iff.1 e))]
    cases hr:readOk (putL p++z) with
    | false=>rfl
    | true =>
      obtain ⟨h1,h2,h3⟩:=back_proof hr
      exact absurd (put_ahead h2 hp h1 h h3) hz
theorem cut_less {p:Proof} (hp:PW p) (h:wOk p=true) {n:Nat} (hn:n<(putL p).length):readOk ((putL p).take n)=false:=by
  cases hr:readOk ((putL p).take n) with
  | false=>rfl
  | true =>
    obtain ⟨h1,h2,h3⟩:=back_proof hr
    have e:putL p=putL (readP ((putL p).take n))++(putL p).drop n:=by rw [h3,List.take_append_drop]
    have:=put_ahead hp h2 h h1 e
    rw [List.drop_eq_nil_iff] at this
    omega
theorem zep {b:List UInt8} (h:readOk b=true):wOk (readR b)=true∧pputL (readR b)=b:=by
  obtain ⟨h1,_,h3⟩:=back_proof h
  rw [readR_yes h,pput_yes h1]
  exact ⟨h1,h3⟩
theorem put_back {p:Proof} (hp:PW p) (h:wOk p=true):readOk (pputL p)=true∧readR (pputL p)=p:=by
  obtain ⟨h1,h2⟩:=proof_back hp h
  rw [pput_yes h,readR_yes h1]
  exact ⟨h1,h2⟩
theorem pput_bd {p:Proof} (hp:PW p):(pputL p).length≤126903:=by
  unfold pputL
  split
  · rename_i h;exact put_bd hp h
  · simp
theorem ProofSizes_ok (p:Proof) (l:List Block) (m k:Int) (hl:smallC l):Tells P 9 [.val proofT p,.val (sl blockT) l,.val i64T m,.val i64T k] (.val boolT true):=by
 have hll:=hl.1
 refine zc Tryz.func9 rfl rfl rfl (fun ext w hext=>?_)
 refine ze (d:=1) rfl zk (fun hsl1=>?_)
 refine ze (d:=2) rfl zn (fun hin2=>?_)
 refine ze (d:=3) rfl zn (fun hin3=>?_)
 refine ze (d:=0) rfl fact_pw (fun hpw=>?_)
 refine ze (d:=1) rfl fact_bw (fun hbw=>?_)
 refine qaf ?_;refine qb7 ?_;refine qbd ?_;refine A0 (oCl (fewPr_ok p) rfl fn_13 ⟨(zd rfl),trivial⟩) ?_;refine qad ?_;refine A0 (oCl (fewC_ok l) rfl fn_12 ⟨(zd rfl),trivial⟩) ?_;refine qai ?_;refine A0 oN ?_;refine zcr (d:=28) rfl (rfl) ?_;refine qbr ?_;refine A1 oN ?_;refine zL (d:=31) (p:=fewPr p=false) rfl (by cases fewPr p<;>rfl) (fun g31=>?_) (fun g31=>?_)
 ·
  refine qb5 ?_;refine Ct ?_;refine qbg ?_
  exact zb rfl rfl (za rfl (rfl))
 ·
  refine qbs ?_;refine A1 oN ?_;refine qat ?_;refine zr (p:=¬fewC l=true) rfl (by cases fewC l<;>rfl) (fun ht36=>?_) (fun ht36=>?_)
  ·
   refine qbg ?_
   exact zb rfl rfl (za rfl (rfl))
  ·
   have hfp:fewPr p=true:=by simpa using g31
   have hfl:=few_links hfp
   have hpl:p.p.length≤110:=by unfold fewPr at hfp;rw [Bool.and_eq_true,decide_eq_true_eq] at hfp;exact hfp.2
   have hfc:=fewC_len (Classical.not_not.1 ht36)
   refine CSQR ?_;refine A0 (oLs rfl rfl rfl zaH) ?_;refine A0 (oCl (ze3 p) rfl fn_18 ⟨(zd rfl),trivial⟩) ?_;refine A0 mX ?_;refine A0 (by first|exact zN rfl rfl|exact zM rfl rfl) ?_;refine A0 (by first|exact zQ rfl rfl|exact zP rfl rfl) ?_;refine A0 aV ?_;refine qar ?_;refine qbu ?_;refine zi (d:=14) (y:=((sizeN p.p 0:Nat):Int)) rfl (by rfl) ?_
   refine Lp (ι:=Nat) 1 (fun (i:Nat)=>((((((((Fr.none).set 1 (.val (sl blockT) l)).set 2 (.val i64T m)).set 3 (.val i64T k)).set 4 (.ptr 0 0)).set 12 (.val (sl u8T) (pputL p))).set 13 (.val boolT (wOk p))).set 14 (.val i64T ((sizeN p.p i:Nat):Int))).set 15 (.val i64T (i:Int))) (fun (i:Nat)=>(Hp.none).set 0 (.box 25 proofT p)) (fun (i:Nat)=>i≤p.p.length) (fun (i:Nat)=>p.p.length-i) (0) (Nat.zero_le _) ?_
   intro i hinv
   refine qbb ?_;refine qaF ?_;refine qaG ?_;refine Cf (p:=i<p.p.length) (fun ht47=>?_) (fun ht47=>?_)
   ·
    obtain ⟨y,hy⟩:∃y,p.p[i]?=some y:=⟨_,List.getElem?_eq_getElem ht47⟩
    have hyl:=hfl y (List.mem_of_getElem? hy)
    have hsn:=size_step hy
    have hsb:=size_bd (i:=i) hpl hfl
    refine CS ?_;refine CQ ?_;refine CB ?_;refine CR ?_;refine qaw ?_;refine A0 (g_add rfl rfl rfl (show _=(((sizeN p.p i+181:Nat):Int):Int) from (zaa (by omega)).trans (by omega))) ?_;refine A0 (oFp zax) ?_;refine A0 (oLb zaB zcv) ?_;refine qaw ?_;refine A0 (zu (i:=i) rfl rfl rfl (by omega) za9 (by assumption)) ?_;refine A0 (oFr zck zc5) ?_;refine A0 (zg rfl rfl zbI) ?_;refine A0 (by first|exact zR rfl rfl zba|exact zan rfl rfl rfl zba|exact zaz rfl rfl zba) ?_
    refine A0 (g_mul rfl rfl rfl (show _=(((34*y.l.length:Nat):Int):Int) from (zaa (by omega)).trans (by omega))) ?_;refine A0 (g_add rfl rfl rfl (show _=(((sizeN p.p (i+1):Nat):Int):Int) from (zaa (by omega)).trans (by omega))) ?_;refine A0 aV ?_;refine CNIR ?_;refine qaY ?_;refine qac ?_
    exact Nx (i+1) (by omega) (by omega)
   ·
    refine CE ?_;refine CQQR ?_;refine qak ?_;refine zL (d:=62) (p:=wOk p=true) rfl (by simp) (fun g62=>?_) (fun g62=>?_)
    ·
     have hpz:(pputL p).length=sizeN p.p i:=by rw [pput_yes g62,put_len hpw g62];unfold sizeN;rw [List.take_of_length_le (by omega)]
     refine A1 mV ?_;refine A1 (zR rfl rfl za3) ?_;refine A1 mV ?_;refine A1 zdr ?_;refine zcr (d:=66) rfl (by simp only [IntL.toI,id_eq];rw [decide_eq_true (by omega)];rfl) ?_;refine qat ?_;refine Cg ?_;refine CSQR ?_;refine qak ?_;refine qaw ?_;refine A0 (oCl (zcn l m k hl) rfl fn_14 ⟨(zd rfl),(zd rfl),(zd rfl),trivial⟩) ?_;refine A0 mX ?_;refine A0 (by first|exact zN rfl rfl|exact zM rfl rfl) ?_;refine A0 (by first|exact zQ rfl rfl|exact zP rfl rfl) ?_;refine qaI ?_;refine qbd ?_;refine A0 (oCl (ze3 (prOf l m k)) rfl fn_18 ⟨(zd rfl),trivial⟩) ?_
     refine A0 mX ?_;refine A0 (by first|exact zN rfl rfl|exact zM rfl rfl) ?_;refine A0 (by first|exact zQ rfl rfl|exact zP rfl rfl) ?_;refine qbw ?_;refine A0 (oCl (check_ok l hl) rfl fn_26 ⟨(zd rfl),trivial⟩) ?_;refine A0 mX ?_;refine A0 (by first|exact zN rfl rfl|exact zM rfl rfl) ?_;refine A0 (by first|exact zQ rfl rfl|exact zP rfl rfl) ?_;refine qbx ?_;refine qa4 ?_;refine qad ?_;refine A0 zdr ?_;refine zL (d:=86) (p:=¬prE l m k=0) rfl (by simp [IntL.toI]) (fun g86=>?_) (fun g86=>?_)
     ·
      refine qbJ ?_;refine A3 ?_;refine qaC ?_;refine qa9 ?_;refine A2 ?_;refine qa3 ?_
      exact zb rfl rfl (za rfl (rfl))
     ·
      have hpe:prE l m k=0:=Classical.not_not.1 g86
      have hb:=zbZ hpe
      have hbp:=build_put hpe hfc hbw
      have hbp3:=hbp.2.2
      refine qbr ?_;refine A1 zbf ?_;refine zaJ (d:=89) rfl (by rw [hb.c];rfl) ?_;refine qaH ?_;refine zaJ (d:=91) rfl (hbp.1) ?_;refine A1 oK ?_;refine qaH ?_;refine A1 (zR rfl rfl za3) ?_;refine A1 zcN ?_;refine zaJ (d:=96) rfl (decide_eq_true (by rw [pput_yes hbp.1];simp only [IntL.toI,id_eq];omega)) ?_;refine A1 oK ?_;refine qa3 ?_
      exact zb rfl rfl (za rfl (rfl))
    ·
     refine qab ?_;refine A2 ?_;refine qat ?_;refine Cg ?_;refine CSQR ?_;refine qak ?_;refine qaw ?_;refine A0 (oCl (zcn l m k hl) rfl fn_14 ⟨(zd rfl),(zd rfl),(zd rfl),trivial⟩) ?_;refine A0 mX ?_;refine A0 (by first|exact zN rfl rfl|exact zM rfl rfl) ?_;refine A0 (by first|exact zQ rfl rfl|exact zP rfl rfl) ?_;refine qaI ?_;refine qbd ?_;refine A0 (oCl (ze3 (prOf l m k)) rfl fn_18 ⟨(zd rfl),trivial⟩) ?_;refine A0 mX ?_;refine A0 (by first|exact zN rfl rfl|exact zM rfl rfl) ?_;refine A0 (by first|exact zQ rfl rfl|exact zP rfl rfl) ?_;refine qbw ?_
     refine A0 (oCl (check_ok l hl) rfl fn_26 ⟨(zd rfl),trivial⟩) ?_;refine A0 mX ?_;refine A0 (by first|exact zN rfl rfl|exact zM rfl rfl) ?_;refine A0 (by first|exact zQ rfl rfl|exact zP rfl rfl) ?_;refine qbx ?_;refine qa4 ?_;refine qad ?_;refine A0 zdr ?_;refine zL (d:=86) (p:=¬prE l m k=0) rfl (by simp [IntL.toI]) (fun g86=>?_) (fun g86=>?_)
     ·
      refine qbJ ?_;refine A3 ?_;refine qaC ?_;refine qa9 ?_;refine A2 ?_;refine qa3 ?_
      exact zb rfl rfl (za rfl (rfl))
     ·
      have hpe:prE l m k=0:=Classical.not_not.1 g86
      have hb:=zbZ hpe
      have hbp:=build_put hpe hfc hbw
      have hbp3:=hbp.2.2
      refine qbr ?_;refine A1 zbf ?_;refine zaJ (d:=89) rfl (by rw [hb.c];rfl) ?_;refine qaH ?_;refine zaJ (d:=91) rfl (hbp.1) ?_;refine A1 oK ?_;refine qaH ?_;refine A1 (zR rfl rfl za3) ?_;refine A1 zcN ?_;refine zaJ (d:=96) rfl (decide_eq_true (by rw [pput_yes hbp.1];simp only [IntL.toI,id_eq];omega)) ?_;refine A1 oK ?_;refine qa3 ?_
      exact zb rfl rfl (za rfl (rfl))
theorem ProofCut_ok (p:Proof) (x:Int) (z:List UInt8):Tells P 7 [.val proofT p,.val i64T x,.val (sl u8T) z] (.val boolT true):=by
 refine zc Tryz.func7 rfl rfl rfl (fun ext w hext=>?_)
 refine ze (d:=1) rfl zn (fun hin1=>?_)
 refine ze (d:=2) rfl zk (fun hsl2=>?_)
 refine ze (d:=0) rfl fact_pw (fun hpw=>?_)
 refine qaf ?_;refine qb7 ?_;refine qbd ?_;refine A0 (oCl (fewPr_ok p) rfl fn_13 ⟨(zd rfl),trivial⟩) ?_;refine qbd ?_;refine A0 (oCl (ze3 p) rfl fn_18 ⟨(zd rfl),trivial⟩) ?_;refine A0 mX ?_;refine A0 (by first|exact zN rfl rfl|exact zM rfl rfl) ?_;refine A0 (by first|exact zQ rfl rfl|exact zP rfl rfl) ?_;refine A0 aV ?_;refine qai ?_;refine A0 oN ?_;refine zcr (d:=24) rfl (rfl) ?_;refine qbr ?_;refine A1 oN ?_;refine A0 oK ?_;refine zL (d:=28) (p:=fewPr p=false) rfl (by cases fewPr p<;>rfl) (fun g28=>?_) (fun g28=>?_)
 ·
  refine qaw ?_;refine qaC ?_;refine qaM ?_;refine qat ?_;refine Ct ?_;refine qbg ?_
  exact zb rfl rfl (za rfl (rfl))
 ·
  refine qbr ?_;refine A1 oN ?_;refine zL (d:=31) (p:=¬wOk p=true) rfl (by cases wOk p<;>rfl) (fun g31=>?_) (fun g31=>?_)
  ·
   refine qaM ?_;refine qat ?_;refine Ct ?_;refine qbg ?_
   exact zb rfl rfl (za rfl (rfl))
  ·
   have hwk:wOk p=true:=Classical.not_not.1 g31
   refine qbs ?_;refine A1 (zR rfl rfl za3) ?_;refine A1 zaI ?_;refine qat ?_;refine Cf (p:=300<z.length) (fun ht37=>?_) (fun ht37=>?_)
   ·
    refine qbg ?_
    exact zb rfl rfl (za rfl (rfl))
   ·
    have hbd:=put_bd hpw hwk
    refine zi (d:=9) (y:=putL p) rfl (pput_yes hwk) ?_;refine qbF ?_;refine aw_append0 rfl rfl rfl rfl rfl rfl zaZ (by first|omega|(simp;omega)) ?_;refine qaw ?_;refine zD rfl rfl rfl rfl rfl rfl rfl zaZ (by first|omega|(simp;omega)) ?_;refine A0 (oCl (pread_ok (putL p++z) (by simp;omega)) rfl fn_20 ⟨(zG rfl rfl),trivial⟩) ?_;refine A0 mX ?_;refine A0 (by first|exact zN rfl rfl|exact zM rfl rfl) ?_;refine A0 (by first|exact zQ rfl rfl|exact zP rfl rfl) ?_;refine qaI ?_;refine qai ?_;refine qaw ?_;refine qbD ?_;refine A0 zbf ?_
    refine A0 (g_neqB rfl rfl rfl ub_4) ?_;refine zcr (d:=51) rfl (by rw [cut_more hpw hwk];simp [IntL.toI]) ?_;refine qbr ?_;refine A1 zbx ?_;refine Sp (d:=54) (p:=x<0) (fun g54=>?_) (fun g54=>?_)
    ·
     refine qaM ?_;refine A2 ?_;refine qat ?_;refine Ct ?_;refine CQR ?_;refine qak ?_;refine qbD ?_;refine A0 zbf ?_;refine A0 (g_eqlB rfl rfl rfl ub_4) ?_;refine qac ?_
     exact zb rfl rfl (za rfl (by rw [cut_more hpw hwk];simp [IntL.toI]))
    ·
     refine qae ?_;refine qaH ?_;refine A1 (zR rfl rfl za3) ?_;refine A1 zcU ?_;refine qat ?_;refine Cf (p:=((putL p).length:Int)≤x) (fun ht61=>?_) (fun ht61=>?_)
     ·
      refine CQR ?_;refine qak ?_;refine qbD ?_;refine A0 zbf ?_;refine A0 (g_eqlB rfl rfl rfl ub_4) ?_;refine qac ?_
      exact zb rfl rfl (za rfl (by rw [cut_more hpw hwk];simp [IntL.toI]))
     ·
      have hcl:=cut_less hpw hwk (n:=x.toNat) (by omega)
      refine CSQR ?_;refine qak ?_;refine A0 (by first|exact zbj rfl rfl rfl (by first|rfl|omega) zar|exact zdG rfl rfl rfl zar (by first|assumption|omega|(simp;omega))) ?_;refine A0 (oCl (pread_ok ((putL p).take x.toNat) (by rw [List.length_take];omega)) rfl fn_20 ⟨(zd rfl),trivial⟩) ?_;refine A0 mX ?_;refine A0 (by first|exact zN rfl rfl|exact zM rfl rfl) ?_;refine A0 (by first|exact zQ rfl rfl|exact zP rfl rfl) ?_;refine qaI ?_;refine qad ?_;refine A0 oN ?_;refine qac ?_
      exact zb rfl rfl (za rfl (by rw [hcl];rfl))
theorem ProofBack_ok (l:List Block) (m k:Int) (p:Proof) (b:List UInt8) (hl:smallC l):Tells P 4 [.val (sl blockT) l,.val i64T m,.val i64T k,.val proofT p,.val (sl u8T) b] (.val boolT true):=by
 have hll:=hl.1
 refine zc Tryz.func4 rfl rfl rfl (fun ext w hext=>?_)
 refine ze (d:=0) rfl zk (fun hsl0=>?_)
 refine ze (d:=1) rfl zn (fun hin1=>?_)
 refine ze (d:=2) rfl zn (fun hin2=>?_)
 refine ze (d:=4) rfl zk (fun hsl4=>?_)
 refine ze (d:=3) rfl fact_pw (fun hpw=>?_)
 refine ze (d:=0) rfl fact_bw (fun hbw=>?_)
 refine qaf ?_;refine qb7 ?_;refine qad ?_;refine A0 (oCl (fewC_ok l) rfl fn_12 ⟨(zd rfl),trivial⟩) ?_;refine qbd ?_;refine A0 (oCl (fewPr_ok p) rfl fn_13 ⟨(zd rfl),trivial⟩) ?_;refine qai ?_;refine A0 oN ?_;refine zcr (d:=32) rfl (rfl) ?_;refine qbr ?_;refine A1 oN ?_;refine zL (d:=35) (p:=¬fewC l=true) rfl (by cases fewC l<;>rfl) (fun g35=>?_) (fun g35=>?_)
 ·
  refine qae ?_;refine qaC ?_;refine qaM ?_;refine qat ?_;refine Ct ?_;refine qbg ?_
  exact zb rfl rfl (za rfl (rfl))
 ·
  have hfc:=fewC_len (Classical.not_not.1 g35)
  refine qbs ?_;refine A1 oN ?_;refine zL (d:=39) (p:=fewPr p=false) rfl (by cases fewPr p<;>rfl) (fun g39=>?_) (fun g39=>?_)
  ·
   refine qaM ?_;refine qat ?_;refine Ct ?_;refine qbg ?_
   exact zb rfl rfl (za rfl (rfl))
  ·
   refine qbs ?_;refine A1 (zR rfl rfl za3) ?_;refine A1 zaI ?_;refine qat ?_;refine Cf (p:=6000<b.length) (fun ht45=>?_) (fun ht45=>?_)
   ·
    refine qbg ?_
    exact zb rfl rfl (za rfl (rfl))
   ·
    refine CSQR ?_;refine qak ?_;refine qaw ?_;refine A0 (oCl (zcn l m k hl) rfl fn_14 ⟨(zd rfl),(zd rfl),(zd rfl),trivial⟩) ?_;refine A0 mX ?_;refine A0 (by first|exact zN rfl rfl|exact zM rfl rfl) ?_;refine A0 (by first|exact zQ rfl rfl|exact zP rfl rfl) ?_;refine qaI ?_;refine qbd ?_;refine A0 (oCl (ze3 (prOf l m k)) rfl fn_18 ⟨(zd rfl),trivial⟩) ?_;refine A0 mX ?_;refine A0 (by first|exact zN rfl rfl|exact zM rfl rfl) ?_;refine A0 (by first|exact zQ rfl rfl|exact zP rfl rfl) ?_;refine A0 aV ?_;refine qbd ?_
    refine A0 (oCl (ze3 p) rfl fn_18 ⟨(zd rfl),trivial⟩) ?_;refine A0 mX ?_;refine A0 (by first|exact zN rfl rfl|exact zM rfl rfl) ?_;refine A0 (by first|exact zQ rfl rfl|exact zP rfl rfl) ?_;refine qbw ?_;refine A0 (oCl (pread_ok (pputL p) (by have:=pput_bd hpw;omega)) rfl fn_20 ⟨(zd rfl),trivial⟩) ?_;refine A0 mX ?_;refine A0 (by first|exact zN rfl rfl|exact zM rfl rfl) ?_;refine A0 (by first|exact zQ rfl rfl|exact zP rfl rfl) ?_;refine qaI ?_;refine qad ?_;refine A0 (oCl (pread_ok b (by omega)) rfl fn_20 ⟨(zd rfl),trivial⟩) ?_;refine A0 mX ?_
    refine A0 (by first|exact zN rfl rfl|exact zM rfl rfl) ?_;refine A0 (by first|exact zQ rfl rfl|exact zP rfl rfl) ?_;refine qaI ?_;refine qbd ?_;refine A0 (oCl (ze3 (readR b)) rfl fn_18 ⟨(zd rfl),trivial⟩) ?_;refine A0 mX ?_;refine A0 (by first|exact zN rfl rfl|exact zM rfl rfl) ?_;refine A0 (by first|exact zQ rfl rfl|exact zP rfl rfl) ?_;refine A0 aV ?_;refine qai ?_;refine A0 zbf ?_;refine zL (d:=80) (p:=prE l m k=0) rfl (by simp [IntL.toI]) (fun g80=>?_) (fun g80=>?_)
    ·
     have hbp:=build_put g80 hfc hbw
     refine qbr ?_;refine A1 oN ?_;refine zcr (d:=83) rfl (by rw [hbp.1];rfl) ?_;refine qae ?_;refine qaH ?_;refine zL (d:=87) (p:=wOk p=true) rfl (by simp) (fun g87=>?_) (fun g87=>?_)
     ·
      refine A1 mV ?_;refine A1 oN ?_;refine zcr (d:=89) rfl (by rw [(put_back hpw g87).1];rfl) ?_;refine A1 mV ?_;refine A1 (oLs rfl rfl rfl zaH) ?_;refine A1 (oLs rfl rfl rfl zaH) ?_;refine A1 (oCl (sameP_ok (readR (pputL p)) p) rfl fn_23 ⟨(zd rfl),(zd rfl),trivial⟩) ?_;refine A1 oN ?_;refine zcr (d:=94) rfl (by rw [(put_back hpw g87).2];simp) ?_;refine A1 oK ?_;refine A1 oK ?_;refine qat ?_;refine Cg ?_;refine qbF ?_;refine A0 oN ?_;refine zL (d:=99) (p:=¬readOk b=true) rfl (by cases readOk b<;>rfl) (fun g99=>?_) (fun g99=>?_)
      ·
       refine qaw ?_;refine qap ?_;refine A1 zbf ?_;refine zaJ (d:=104) rfl (by rw [zcy (Bool.eq_false_iff.2 g99)];rfl) ?_;refine qbm ?_
       exact zb rfl rfl (za rfl (rfl))
      ·
       refine qbJ ?_;refine A2 ?_;refine qbs ?_;refine zaJ (d:=107) rfl (Classical.not_not.1 g99) ?_;refine qaH ?_;refine zaJ (d:=109) rfl ((zep (Classical.not_not.1 g99)).1) ?_;refine A1 oK ?_;refine qaH ?_;refine A1 (g_cvs rfl rfl uu_26 ui_5 st_9) ?_;refine A1 mV ?_;refine A1 (g_cvs rfl rfl uu_26 ui_5 st_9) ?_;refine A1 (g_eqlstr rfl rfl rfl) ?_;refine A1 oK ?_;refine qa3 ?_
       exact zb rfl rfl (za rfl (decide_eq_true (zep (Classical.not_not.1 g99)).2))
     ·
      refine qab ?_;refine qa9 ?_;refine A3 ?_;refine A2 ?_;refine A1 oK ?_;refine qat ?_;refine Cg ?_;refine qbF ?_;refine A0 oN ?_;refine zL (d:=99) (p:=¬readOk b=true) rfl (by cases readOk b<;>rfl) (fun g99=>?_) (fun g99=>?_)
      ·
       refine qaw ?_;refine qap ?_;refine A1 zbf ?_;refine zaJ (d:=104) rfl (by rw [zcy (Bool.eq_false_iff.2 g99)];rfl) ?_;refine qbm ?_
       exact zb rfl rfl (za rfl (rfl))
      ·
       refine qbJ ?_;refine A2 ?_;refine qbs ?_;refine zaJ (d:=107) rfl (Classical.not_not.1 g99) ?_;refine qaH ?_;refine zaJ (d:=109) rfl ((zep (Classical.not_not.1 g99)).1) ?_;refine A1 oK ?_;refine qaH ?_;refine A1 (g_cvs rfl rfl uu_26 ui_5 st_9) ?_;refine A1 mV ?_;refine A1 (g_cvs rfl rfl uu_26 ui_5 st_9) ?_;refine A1 (g_eqlstr rfl rfl rfl) ?_;refine A1 oK ?_;refine qa3 ?_
       exact zb rfl rfl (za rfl (decide_eq_true (zep (Classical.not_not.1 g99)).2))
    ·
     refine qaw ?_;refine qaC ?_;refine qae ?_;refine qaH ?_;refine zL (d:=87) (p:=wOk p=true) rfl (by simp) (fun g87=>?_) (fun g87=>?_)
     ·
      refine A1 mV ?_;refine A1 oN ?_;refine zcr (d:=89) rfl (by rw [(put_back hpw g87).1];rfl) ?_;refine A1 mV ?_;refine A1 (oLs rfl rfl rfl zaH) ?_;refine A1 (oLs rfl rfl rfl zaH) ?_;refine A1 (oCl (sameP_ok (readR (pputL p)) p) rfl fn_23 ⟨(zd rfl),(zd rfl),trivial⟩) ?_;refine A1 oN ?_;refine zcr (d:=94) rfl (by rw [(put_back hpw g87).2];simp) ?_;refine A1 oK ?_;refine A1 oK ?_;refine qat ?_;refine Cg ?_;refine qbF ?_;refine A0 oN ?_;refine zL (d:=99) (p:=¬readOk b=true) rfl (by cases readOk b<;>rfl) (fun g99=>?_) (fun g99=>?_)
      ·
       refine qaw ?_;refine qap ?_;refine A1 zbf ?_;refine zaJ (d:=104) rfl (by rw [zcy (Bool.eq_false_iff.2 g99)];rfl) ?_;refine qbm ?_
       exact zb rfl rfl (za rfl (rfl))
      ·
       refine qbJ ?_;refine A2 ?_;refine qbs ?_;refine zaJ (d:=107) rfl (Classical.not_not.1 g99) ?_;refine qaH ?_;refine zaJ (d:=109) rfl ((zep (Classical.not_not.1 g99)).1) ?_;refine A1 oK ?_;refine qaH ?_;refine A1 (g_cvs rfl rfl uu_26 ui_5 st_9) ?_;refine A1 mV ?_;refine A1 (g_cvs rfl rfl uu_26 ui_5 st_9) ?_;refine A1 (g_eqlstr rfl rfl rfl) ?_;refine A1 oK ?_;refine qa3 ?_
       exact zb rfl rfl (za rfl (decide_eq_true (zep (Classical.not_not.1 g99)).2))
     ·
      refine qab ?_;refine qa9 ?_;refine A3 ?_;refine A2 ?_;refine A1 oK ?_;refine qat ?_;refine Cg ?_;refine qbF ?_;refine A0 oN ?_;refine zL (d:=99) (p:=¬readOk b=true) rfl (by cases readOk b<;>rfl) (fun g99=>?_) (fun g99=>?_)
      ·
       refine qaw ?_;refine qap ?_;refine A1 zbf ?_;refine zaJ (d:=104) rfl (by rw [zcy (Bool.eq_false_iff.2 g99)];rfl) ?_;refine qbm ?_
       exact zb rfl rfl (za rfl (rfl))
      ·
       refine qbJ ?_;refine A2 ?_;refine qbs ?_;refine zaJ (d:=107) rfl (Classical.not_not.1 g99) ?_;refine qaH ?_;refine zaJ (d:=109) rfl ((zep (Classical.not_not.1 g99)).1) ?_;refine A1 oK ?_;refine qaH ?_;refine A1 (g_cvs rfl rfl uu_26 ui_5 st_9) ?_;refine A1 mV ?_;refine A1 (g_cvs rfl rfl uu_26 ui_5 st_9) ?_;refine A1 (g_eqlstr rfl rfl rfl) ?_;refine A1 oK ?_;refine qa3 ?_
       exact zb rfl rfl (za rfl (decide_eq_true (zep (Classical.not_not.1 g99)).2))
set_option maxRecDepth 20000
section
variable {l:List Block} {m k q:Int}
def wayP (l:List Block) (m k q:Int):List Part:=(zcm l m k q).map (prPart l)
theorem wi_ok (h:wiE l m k q=0):prE l m k=0∧0≤q∧q<(l.length:Int)-k:=by
  unfold wiE at h
  by_cases c:prE l m k=0
  · rw [if_neg (fun g=>g c)] at h
    by_cases d:q<0∨(l.length:Int)-k≤q
    · rw [if_pos d] at h;cases h
    · exact ⟨c,by omega,by omega⟩
  · rw [if_pos c] at h;exact absurd h c
theorem wi_is (h:wiE l m k q=0):wiOf l m k q=⟨m,k,wayP l m k q⟩:=by unfold wiOf;rw [if_pos h];rfl
theorem way_put (h:wiE l m k q=0) (hn:l.length≤50) (hbw:BW l):wOk (wiOf l m k q)=true∧PW (wiOf l m k q)∧(wayP l m k q).length≤l.length:=by
  obtain ⟨h1,h2,h3⟩:=wi_ok h
  have hb:=zbZ h1
  have:=parts_put hb hn hbw (with_rising hb (q:=q)) (fun x hx=>with_mem hb h2 h3 hx)
  rw [wi_is h]
  exact ⟨this.1,this.2.1,by unfold wayP;rw [List.length_map];exact this.2.2.1⟩
theorem way_at (h:wiE l m k q=0) {p:Int} (hp:p∈zcm l m k q):∃b:Block,l[p.toNat]?=some b∧b.h.height=p∧prPart l p=⟨b.h,b.l⟩:=by
  obtain ⟨h1,h2,h3⟩:=wi_ok h
  have hb:=zbZ h1
  have hm:=with_mem hb h2 h3 hp
  obtain ⟨b,hbk⟩:∃b,l[p.toNat]?=some b:=⟨_,List.getElem?_eq_getElem (by omega)⟩
  refine ⟨b,hbk,?_,?_⟩
  · have:=(zff (zfe hb.c) hbk).1;omega
  · unfold prPart;rw [List.getD_eq_getElem?_getD,hbk];rfl
theorem zej (h:wiE l m k q=0) {i:Nat} {x y:Part} (hx:(wayP l m k q)[i]?=some x) (hy:(wayP l m k q)[i+1]?=some y):x.h.height<y.h.height:=by
  unfold wayP at hx hy
  rw [List.getElem?_map] at hx hy
  obtain ⟨p,hp,rfl⟩:=Option.map_eq_some_iff.1 hx
  obtain ⟨r,hr,rfl⟩:=Option.map_eq_some_iff.1 hy
  obtain ⟨b,_,h3,h4⟩:=way_at h (List.mem_of_getElem? hp)
  obtain ⟨c,_,g3,g4⟩:=way_at h (List.mem_of_getElem? hr)
  rw [h4,g4]
  show b.h.height<c.h.height
  rw [h3,g3]
  exact (zcw (with_rising (zbZ (wi_ok h).1)) hp hr).2 (by omega)
theorem way_more (h:wiE l m k q=0):(partsOf l m k).length≤(wayP l m k q).length:=by
  have hb:=zbZ (wi_ok h).1
  rw [zci]
  unfold wayP
  rw [List.length_map]
  exact zbq (with_rising hb) (zay hb) (fun x hx=>with_all hx)
theorem way_all {x:Part} (hx:x∈partsOf l m k):x∈wayP l m k q:=by
  obtain ⟨p,hp,rfl⟩:=List.mem_map.1 hx
  exact List.mem_map.2 ⟨p,with_all hp,rfl⟩
def hasN (L:List Part) (n:Int):Bool:=L.any fun x=>decide (x.h.height=n)
theorem hasN_step {L:List Part} {n:Int} {j:Nat} {z:Part} (hz:L[j]?=some z):hasN (L.take (j+1)) n=(hasN (L.take j) n||decide (z.h.height=n)):=by
  unfold hasN
  rw [List.take_add_one,hz,List.any_append];simp
theorem way_it (h:wiE l m k q=0):hasN (wayP l m k q) q=true:=by
  obtain ⟨h1,h2,h3⟩:=wi_ok h
  have hm:=with_it (zbZ h1) h2 h3
  obtain ⟨b,_,g3,g4⟩:=way_at h hm
  exact List.any_eq_true.2 ⟨prPart l q,List.mem_map_of_mem hm,decide_eq_true (by rw [g4];exact g3)⟩
def partB (A:List Part) (x:Int) (L:List Part):Bool:=decide (0≤x∧x<A.length)&&hasH L (A.getD x.toNat default).h
end
section
variable {A W:List Part} {x q:Int} {i:Nat} {w y:Part}
theorem pb_step (hw:W[i]?=some w):partB A x (W.take (i+1))=(partB A x (W.take i)||(decide (0≤x∧x<A.length)&&decide (w.h=(A.getD x.toNat default).h))):=by
  unfold partB
  rw [has_step hw,Bool.and_or_distrib_left]
theorem zdD (hw:W[i]?=some w) (h:partB A x (W.take i)=true):true=partB A x (W.take (i+1)):=by rw [pb_step hw,h];rfl
theorem zdE (hw:W[i]?=some w) (hn:¬partB A x (W.take i)=true) (h0:0≤x) (h1:x<A.length) (hy:A[x.toNat]?=some y):decide (w.h=y.h)=partB A x (W.take (i+1)):=by
  rw [pb_step hw,Bool.eq_false_iff.2 hn,decide_eq_true (⟨h0,h1⟩:0≤x∧x<(A.length:Int)),List.getD_eq_getElem?_getD,hy];rfl
theorem pb_no (hw:W[i]?=some w) (hn:¬partB A x (W.take i)=true) (h:¬(0≤x∧x<(A.length:Int))):false=partB A x (W.take (i+1)):=by
  rw [pb_step hw,Bool.eq_false_iff.2 hn,decide_eq_false h];rfl
theorem pb_all (h0:0≤x) (h1:x<A.length) (h:∀y∈A,y∈W):partB A x W=true:=by
  obtain ⟨y,hy⟩:∃y,A[x.toNat]?=some y:=⟨_,List.getElem?_eq_getElem (by omega)⟩
  unfold partB
  rw [decide_eq_true (⟨h0,h1⟩:0≤x∧x<(A.length:Int)),List.getD_eq_getElem?_getD,hy,Bool.true_and]
  exact has_mem (h y (List.mem_of_getElem? hy))
theorem zdz (hw:W[i]?=some w) (h:hasN (W.take i) q=true):true=hasN (W.take (i+1)) q:=by rw [hasN_step hw,h];rfl
theorem zdA (hw:W[i]?=some w) (h:¬hasN (W.take i) q=true):decide (w.h.height=q)=hasN (W.take (i+1)) q:=by rw [hasN_step hw,Bool.eq_false_iff.2 h];rfl
end
theorem ProofWay_ok (l:List Block) (m k q x:Int) (hl:smallC l):Tells P 6 [.val (sl blockT) l,.val i64T m,.val i64T k,.val i64T q,.val i64T x] (.val boolT true):=by
 have hll:=hl.1
 refine zc Tryz.func6 rfl rfl rfl (fun ext w hext=>?_)
 refine ze (d:=0) rfl zk (fun hsl0=>?_)
 refine ze (d:=1) rfl zn (fun hin1=>?_)
 refine ze (d:=2) rfl zn (fun hin2=>?_)
 refine ze (d:=3) rfl zn (fun hin3=>?_)
 refine ze (d:=4) rfl zn (fun hin4=>?_)
 refine ze (d:=0) rfl fact_bw (fun hbw=>?_)
 refine CQR ?_;refine qb7 ?_;refine qad ?_;refine A0 (oCl (fewC_ok l) rfl fn_12 ⟨(zd rfl),trivial⟩) ?_;refine qad ?_;refine qak ?_;refine A0 (oCl (zcn l m k hl) rfl fn_14 ⟨(zd rfl),(zd rfl),(zd rfl),trivial⟩) ?_;refine A0 mX ?_;refine A0 (by first|exact zN rfl rfl|exact zM rfl rfl) ?_;refine A0 (by first|exact zQ rfl rfl|exact zP rfl rfl) ?_;refine qaI ?_;refine qad ?_;refine qak ?_;refine qaw ?_;refine A0 (oCl (prWith_ok l m k q hl) rfl fn_16 ⟨(zd rfl),(zd rfl),(zd rfl),(zd rfl),trivial⟩) ?_;refine A0 mX ?_
 refine A0 (by first|exact zN rfl rfl|exact zM rfl rfl) ?_;refine A0 (by first|exact zQ rfl rfl|exact zP rfl rfl) ?_;refine qaI ?_;refine qai ?_;refine A0 oN ?_;refine zcr (d:=41) rfl (rfl) ?_;refine qbr ?_;refine A1 oN ?_;refine zL (d:=44) (p:=¬fewC l=true) rfl (by cases fewC l<;>rfl) (fun g44=>?_) (fun g44=>?_)
 ·
  refine qae ?_;refine qaC ?_;refine qb5 ?_;refine Ct ?_;refine qbg ?_
  exact zb rfl rfl (za rfl (rfl))
 ·
  refine qbs ?_;refine A1 zdr ?_;refine zL (d:=48) (p:=¬prE l m k=0) rfl (by simp [IntL.toI]) (fun g48=>?_) (fun g48=>?_)
  ·
   refine qb5 ?_;refine Ct ?_;refine qbg ?_
   exact zb rfl rfl (za rfl (rfl))
  ·
   refine qbs ?_;refine A1 zdr ?_;refine qat ?_;refine zr (p:=¬wiE l m k q=0) rfl (by simp [IntL.toI]) (fun ht53=>?_) (fun ht53=>?_)
   ·
    refine qbg ?_
    exact zb rfl rfl (za rfl (rfl))
   ·
    have hp1:prE l m k=0:=Classical.not_not.1 g48
    have hp2:wiE l m k q=0:=Classical.not_not.1 ht53
    have hfc:=fewC_len (Classical.not_not.1 g44)
    obtain ⟨A,hA⟩:∃A,A=partsOf l m k:=⟨_,rfl⟩
    obtain ⟨W,hW⟩:∃W,W=wayP l m k q:=⟨_,rfl⟩
    obtain ⟨hwp,_,hwl⟩:=way_put hp2 hfc hbw
    have haw:=way_more hp2
    rw [←hW] at hwl
    rw [←hA,←hW] at haw
    rw [wi_is hp2,←hW] at hwp
    have hall:∀y∈A,y∈W:=fun y hy=>by rw [hW];rw [hA] at hy;exact way_all hy
    have hit:=way_it hp2
    rw [←hW] at hit
    have hpa:({ m:=m,k:=k,p:=A }:Proof).p.length=A.length:=rfl
    have hpb:({ m:=m,k:=k,p:=W }:Proof).p.length=W.length:=rfl
    refine zS (n:=0) (y:=(⟨m,k,A⟩:Proof)) rfl (by rw [pr_is hp1,hA]) ?_;refine zS (n:=1) (y:=(⟨m,k,W⟩:Proof)) rfl (by rw [wi_is hp2,hW]) ?_;refine CSQR ?_;refine A0 (oLs rfl rfl rfl zaH) ?_;refine A0 (oCl (ze3 (⟨m,k,W⟩:Proof)) rfl fn_18 ⟨(zd rfl),trivial⟩) ?_;refine A0 mX ?_;refine A0 (by first|exact zN rfl rfl|exact zM rfl rfl) ?_;refine A0 (by first|exact zQ rfl rfl|exact zP rfl rfl) ?_;refine A0 aV ?_;refine qar ?_;refine qar ?_;refine qbu ?_;refine zi (d:=18) (y:=true) rfl hwp ?_;refine zi (d:=19) (y:=hasN (W.take 0) q) rfl (by rfl) ?_
    refine zi (d:=20) (y:=partB A x (W.take 0)) rfl (by unfold partB hasH;simp) ?_;refine Lp (ι:=Nat) 2 (fun (i:Nat)=>((((((((Fr.none).set 3 (.val i64T q)).set 4 (.val i64T x)).set 13 (.ptr 0 0)).set 15 (.ptr 1 0)).set 18 (.val boolT true)).set 19 (.val boolT (hasN (W.take i) q))).set 20 (.val boolT (partB A x (W.take i)))).set 21 (.val i64T (i:Int))) (fun (i:Nat)=>((Hp.none).set 0 (.box 25 proofT (⟨m,k,A⟩:Proof))).set 1 (.box 25 proofT (⟨m,k,W⟩:Proof))) (fun (i:Nat)=>i≤W.length) (fun (i:Nat)=>W.length-i) (0) (Nat.zero_le _) ?_
    intro i hinv
    refine qbb ?_;refine qaF ?_;refine qaG ?_;refine Cf (p:=i<W.length) (fun ht64=>?_) (fun ht64=>?_)
    ·
     obtain ⟨w,hw⟩:∃w,W[i]?=some w:=⟨_,List.getElem?_eq_getElem ht64⟩
     refine CSQBQR ?_;refine qak ?_;refine zL (d:=68) (p:=hasN (W.take i) q=true) rfl (by simp) (fun g68=>?_) (fun g68=>?_)
     ·
      refine qab ?_;refine qab ?_;refine qab ?_;refine A0 oK ?_;refine qbN ?_;refine G0 mV ?_;refine G0 mV ?_;refine zai (d:=80) (p:=partB A x (W.take i)=true) rfl (by simp) (fun g80=>?_) (fun g80=>?_)
      ·
       refine qau ?_;refine qbi ?_;refine G3 ?_;refine G2 ?_;refine G2 ?_;refine qax ?_;refine qbi ?_;refine G3 ?_;refine G3 ?_;refine G2 ?_;refine qa2 ?_;refine zai (d:=108) (p:=0<i) rfl (by first|rfl|(rw [decide_eq_decide];simp only [IntL.toI,id_eq];omega)|(simp [IntL.toI];done)|(simp [IntL.toI];omega)) (fun g108=>?_) (fun g108=>?_)
       ·
        obtain ⟨v,hv⟩:∃v,W[i-1]?=some v:=⟨_,List.getElem?_eq_getElem (by omega)⟩
        have hrise:=zej hp2 (i:=i-1) (hW▸hv) (by rw [show i-1+1=i by omega];exact hW▸hw)
        refine qan ?_;refine G1 (zu (i:=i) rfl rfl rfl (by omega) za9 (by assumption)) ?_;refine qbL ?_;refine G1 (zu (i:=i-1) rfl rfl rfl (by omega) za9 (by assumption)) ?_;refine qam ?_;refine G1 zcN ?_;refine zcu (d:=124) rfl (decide_eq_false (by simp only [IntL.toI,id_eq];omega)) ?_;refine qaE ?_;refine Cg ?_;refine qas ?_;refine zi (d:=19) (y:=hasN (W.take (i+1)) q) rfl (by first|exact zdz hw g68|exact zdA hw g68) ?_;refine zi (d:=20) (y:=partB A x (W.take (i+1))) rfl (by first|exact zdD hw g80|exact zdE hw g80 g82 g88 hy|exact pb_no hw g80 (by omega)) ?_
        exact Nx (i+1) (by omega) (by omega)
       ·
        refine qaa ?_;refine qaa ?_;refine qaE ?_;refine Cg ?_;refine qas ?_;refine zi (d:=19) (y:=hasN (W.take (i+1)) q) rfl (by first|exact zdz hw g68|exact zdA hw g68) ?_;refine zi (d:=20) (y:=partB A x (W.take (i+1))) rfl (by first|exact zdD hw g80|exact zdE hw g80 g82 g88 hy|exact pb_no hw g80 (by omega)) ?_
        exact Nx (i+1) (by omega) (by omega)
      ·
       refine G1 mV ?_;refine G1 zcU ?_;refine zai (d:=82) (p:=0≤x) rfl (by first|rfl|(rw [decide_eq_decide];simp only [IntL.toI,id_eq];omega)|(simp [IntL.toI];done)|(simp [IntL.toI];omega)) (fun g82=>?_) (fun g82=>?_)
       ·
        refine G1 mV ?_;refine G1 mV ?_;refine qbj ?_;refine G1 zbx ?_;refine zai (d:=88) (p:=x<(A.length:Int)) rfl (by first|rfl|(rw [decide_eq_decide];simp only [IntL.toI,id_eq];omega)|(simp [IntL.toI];done)|(simp [IntL.toI];omega)) (fun g88=>?_) (fun g88=>?_)
        ·
         obtain ⟨y,hy⟩:∃y,A[x.toNat]?=some y:=⟨_,List.getElem?_eq_getElem (by omega)⟩
         refine G1 oK ?_;refine G1 mV ?_;refine qan ?_;refine G1 (zu (i:=i) rfl rfl rfl (by omega) za9 (by assumption)) ?_;refine qaR ?_;refine qan ?_;refine G1 (zu (i:=x.toNat) rfl rfl rfl (by omega) za9 (by assumption)) ?_;refine qaR ?_;refine G1 (g_eqlS rfl rfl rfl (eqt_52)) ?_;refine G1 oK ?_;refine qa2 ?_;refine zai (d:=108) (p:=0<i) rfl (by first|rfl|(rw [decide_eq_decide];simp only [IntL.toI,id_eq];omega)|(simp [IntL.toI];done)|(simp [IntL.toI];omega)) (fun g108=>?_) (fun g108=>?_)
         ·
          obtain ⟨v,hv⟩:∃v,W[i-1]?=some v:=⟨_,List.getElem?_eq_getElem (by omega)⟩
          have hrise:=zej hp2 (i:=i-1) (hW▸hv) (by rw [show i-1+1=i by omega];exact hW▸hw)
          refine qan ?_;refine G1 (zu (i:=i) rfl rfl rfl (by omega) za9 (by assumption)) ?_;refine qbL ?_;refine G1 (zu (i:=i-1) rfl rfl rfl (by omega) za9 (by assumption)) ?_;refine qam ?_;refine G1 zcN ?_;refine zcu (d:=124) rfl (decide_eq_false (by simp only [IntL.toI,id_eq];omega)) ?_;refine qaE ?_;refine Cg ?_;refine qas ?_;refine zi (d:=19) (y:=hasN (W.take (i+1)) q) rfl (by first|exact zdz hw g68|exact zdA hw g68) ?_;refine zi (d:=20) (y:=partB A x (W.take (i+1))) rfl (by first|exact zdD hw g80|exact zdE hw g80 g82 g88 hy|exact pb_no hw g80 (by omega)) ?_
          exact Nx (i+1) (by omega) (by omega)
         ·
          refine qaa ?_;refine qaa ?_;refine qaE ?_;refine Cg ?_;refine qas ?_;refine zi (d:=19) (y:=hasN (W.take (i+1)) q) rfl (by first|exact zdz hw g68|exact zdA hw g68) ?_;refine zi (d:=20) (y:=partB A x (W.take (i+1))) rfl (by first|exact zdD hw g80|exact zdE hw g80 g82 g88 hy|exact pb_no hw g80 (by omega)) ?_
          exact Nx (i+1) (by omega) (by omega)
        ·
         refine qbq ?_;refine zai (d:=108) (p:=0<i) rfl (by first|rfl|(rw [decide_eq_decide];simp only [IntL.toI,id_eq];omega)|(simp [IntL.toI];done)|(simp [IntL.toI];omega)) (fun g108=>?_) (fun g108=>?_)
         ·
          obtain ⟨v,hv⟩:∃v,W[i-1]?=some v:=⟨_,List.getElem?_eq_getElem (by omega)⟩
          have hrise:=zej hp2 (i:=i-1) (hW▸hv) (by rw [show i-1+1=i by omega];exact hW▸hw)
          refine qan ?_;refine G1 (zu (i:=i) rfl rfl rfl (by omega) za9 (by assumption)) ?_;refine qbL ?_;refine G1 (zu (i:=i-1) rfl rfl rfl (by omega) za9 (by assumption)) ?_;refine qam ?_;refine G1 zcN ?_;refine zcu (d:=124) rfl (decide_eq_false (by simp only [IntL.toI,id_eq];omega)) ?_;refine qaE ?_;refine Cg ?_;refine qas ?_;refine zi (d:=19) (y:=hasN (W.take (i+1)) q) rfl (by first|exact zdz hw g68|exact zdA hw g68) ?_;refine zi (d:=20) (y:=partB A x (W.take (i+1))) rfl (by first|exact zdD hw g80|exact zdE hw g80 g82 g88 hy|exact pb_no hw g80 (by omega)) ?_
          exact Nx (i+1) (by omega) (by omega)
         ·
          refine qaa ?_;refine qaa ?_;refine qaE ?_;refine Cg ?_;refine qas ?_;refine zi (d:=19) (y:=hasN (W.take (i+1)) q) rfl (by first|exact zdz hw g68|exact zdA hw g68) ?_;refine zi (d:=20) (y:=partB A x (W.take (i+1))) rfl (by first|exact zdD hw g80|exact zdE hw g80 g82 g88 hy|exact pb_no hw g80 (by omega)) ?_
          exact Nx (i+1) (by omega) (by omega)
       ·
        refine G1 mV ?_;refine qau ?_;refine G2 ?_;refine G2 ?_;refine qbq ?_;refine zai (d:=108) (p:=0<i) rfl (by first|rfl|(rw [decide_eq_decide];simp only [IntL.toI,id_eq];omega)|(simp [IntL.toI];done)|(simp [IntL.toI];omega)) (fun g108=>?_) (fun g108=>?_)
        ·
         obtain ⟨v,hv⟩:∃v,W[i-1]?=some v:=⟨_,List.getElem?_eq_getElem (by omega)⟩
         have hrise:=zej hp2 (i:=i-1) (hW▸hv) (by rw [show i-1+1=i by omega];exact hW▸hw)
         refine qan ?_;refine G1 (zu (i:=i) rfl rfl rfl (by omega) za9 (by assumption)) ?_;refine qbL ?_;refine G1 (zu (i:=i-1) rfl rfl rfl (by omega) za9 (by assumption)) ?_;refine qam ?_;refine G1 zcN ?_;refine zcu (d:=124) rfl (decide_eq_false (by simp only [IntL.toI,id_eq];omega)) ?_;refine qaE ?_;refine Cg ?_;refine qas ?_;refine zi (d:=19) (y:=hasN (W.take (i+1)) q) rfl (by first|exact zdz hw g68|exact zdA hw g68) ?_;refine zi (d:=20) (y:=partB A x (W.take (i+1))) rfl (by first|exact zdD hw g80|exact zdE hw g80 g82 g88 hy|exact pb_no hw g80 (by omega)) ?_
         exact Nx (i+1) (by omega) (by omega)
        ·
         refine qaa ?_;refine qaa ?_;refine qaE ?_;refine Cg ?_;refine qas ?_;refine zi (d:=19) (y:=hasN (W.take (i+1)) q) rfl (by first|exact zdz hw g68|exact zdA hw g68) ?_;refine zi (d:=20) (y:=partB A x (W.take (i+1))) rfl (by first|exact zdD hw g80|exact zdE hw g80 g82 g88 hy|exact pb_no hw g80 (by omega)) ?_
         exact Nx (i+1) (by omega) (by omega)
     ·
      refine A1 (oFp zax) ?_;refine A1 (oLb zaB zcv) ?_;refine A1 mV ?_;refine A1 (zu (i:=i) rfl rfl rfl (by omega) za9 (by assumption)) ?_;refine A1 (oFr zbL zb0) ?_;refine A1 (oFr zbh zae) ?_;refine A1 (zg rfl rfl ty_3) ?_;refine A1 mV ?_;refine A1 zbf ?_;refine A0 oK ?_;refine qbN ?_;refine G0 mV ?_;refine G0 mV ?_;refine zai (d:=80) (p:=partB A x (W.take i)=true) rfl (by simp) (fun g80=>?_) (fun g80=>?_)
      ·
       refine qau ?_;refine qbi ?_;refine G3 ?_;refine G2 ?_;refine G2 ?_;refine qax ?_;refine qbi ?_;refine G3 ?_;refine G3 ?_;refine G2 ?_;refine qa2 ?_;refine zai (d:=108) (p:=0<i) rfl (by first|rfl|(rw [decide_eq_decide];simp only [IntL.toI,id_eq];omega)|(simp [IntL.toI];done)|(simp [IntL.toI];omega)) (fun g108=>?_) (fun g108=>?_)
       ·
        obtain ⟨v,hv⟩:∃v,W[i-1]?=some v:=⟨_,List.getElem?_eq_getElem (by omega)⟩
        have hrise:=zej hp2 (i:=i-1) (hW▸hv) (by rw [show i-1+1=i by omega];exact hW▸hw)
        refine qan ?_;refine G1 (zu (i:=i) rfl rfl rfl (by omega) za9 (by assumption)) ?_;refine qbL ?_;refine G1 (zu (i:=i-1) rfl rfl rfl (by omega) za9 (by assumption)) ?_;refine qam ?_;refine G1 zcN ?_;refine zcu (d:=124) rfl (decide_eq_false (by simp only [IntL.toI,id_eq];omega)) ?_;refine qaE ?_;refine Cg ?_;refine qas ?_;refine zi (d:=19) (y:=hasN (W.take (i+1)) q) rfl (by first|exact zdz hw g68|exact zdA hw g68) ?_;refine zi (d:=20) (y:=partB A x (W.take (i+1))) rfl (by first|exact zdD hw g80|exact zdE hw g80 g82 g88 hy|exact pb_no hw g80 (by omega)) ?_
        exact Nx (i+1) (by omega) (by omega)
       ·
        refine qaa ?_;refine qaa ?_;refine qaE ?_;refine Cg ?_;refine qas ?_;refine zi (d:=19) (y:=hasN (W.take (i+1)) q) rfl (by first|exact zdz hw g68|exact zdA hw g68) ?_;refine zi (d:=20) (y:=partB A x (W.take (i+1))) rfl (by first|exact zdD hw g80|exact zdE hw g80 g82 g88 hy|exact pb_no hw g80 (by omega)) ?_
        exact Nx (i+1) (by omega) (by omega)
      ·
       refine G1 mV ?_;refine G1 zcU ?_;refine zai (d:=82) (p:=0≤x) rfl (by first|rfl|(rw [decide_eq_decide];simp only [IntL.toI,id_eq];omega)|(simp [IntL.toI];done)|(simp [IntL.toI];omega)) (fun g82=>?_) (fun g82=>?_)
       ·
        refine G1 mV ?_;refine G1 mV ?_;refine qbj ?_;refine G1 zbx ?_;refine zai (d:=88) (p:=x<(A.length:Int)) rfl (by first|rfl|(rw [decide_eq_decide];simp only [IntL.toI,id_eq];omega)|(simp [IntL.toI];done)|(simp [IntL.toI];omega)) (fun g88=>?_) (fun g88=>?_)
        ·
         obtain ⟨y,hy⟩:∃y,A[x.toNat]?=some y:=⟨_,List.getElem?_eq_getElem (by omega)⟩
         refine G1 oK ?_;refine G1 mV ?_;refine qan ?_;refine G1 (zu (i:=i) rfl rfl rfl (by omega) za9 (by assumption)) ?_;refine qaR ?_;refine qan ?_;refine G1 (zu (i:=x.toNat) rfl rfl rfl (by omega) za9 (by assumption)) ?_;refine qaR ?_;refine G1 (g_eqlS rfl rfl rfl (eqt_52)) ?_;refine G1 oK ?_;refine qa2 ?_;refine zai (d:=108) (p:=0<i) rfl (by first|rfl|(rw [decide_eq_decide];simp only [IntL.toI,id_eq];omega)|(simp [IntL.toI];done)|(simp [IntL.toI];omega)) (fun g108=>?_) (fun g108=>?_)
         ·
          obtain ⟨v,hv⟩:∃v,W[i-1]?=some v:=⟨_,List.getElem?_eq_getElem (by omega)⟩
          have hrise:=zej hp2 (i:=i-1) (hW▸hv) (by rw [show i-1+1=i by omega];exact hW▸hw)
          refine qan ?_;refine G1 (zu (i:=i) rfl rfl rfl (by omega) za9 (by assumption)) ?_;refine qbL ?_;refine G1 (zu (i:=i-1) rfl rfl rfl (by omega) za9 (by assumption)) ?_;refine qam ?_;refine G1 zcN ?_;refine zcu (d:=124) rfl (decide_eq_false (by simp only [IntL.toI,id_eq];omega)) ?_;refine qaE ?_;refine Cg ?_;refine qas ?_;refine zi (d:=19) (y:=hasN (W.take (i+1)) q) rfl (by first|exact zdz hw g68|exact zdA hw g68) ?_;refine zi (d:=20) (y:=partB A x (W.take (i+1))) rfl (by first|exact zdD hw g80|exact zdE hw g80 g82 g88 hy|exact pb_no hw g80 (by omega)) ?_
          exact Nx (i+1) (by omega) (by omega)
         ·
          refine qaa ?_;refine qaa ?_;refine qaE ?_;refine Cg ?_;refine qas ?_;refine zi (d:=19) (y:=hasN (W.take (i+1)) q) rfl (by first|exact zdz hw g68|exact zdA hw g68) ?_;refine zi (d:=20) (y:=partB A x (W.take (i+1))) rfl (by first|exact zdD hw g80|exact zdE hw g80 g82 g88 hy|exact pb_no hw g80 (by omega)) ?_
          exact Nx (i+1) (by omega) (by omega)
        ·
         refine qbq ?_;refine zai (d:=108) (p:=0<i) rfl (by first|rfl|(rw [decide_eq_decide];simp only [IntL.toI,id_eq];omega)|(simp [IntL.toI];done)|(simp [IntL.toI];omega)) (fun g108=>?_) (fun g108=>?_)
         ·
          obtain ⟨v,hv⟩:∃v,W[i-1]?=some v:=⟨_,List.getElem?_eq_getElem (by omega)⟩
          have hrise:=zej hp2 (i:=i-1) (hW▸hv) (by rw [show i-1+1=i by omega];exact hW▸hw)
          refine qan ?_;refine G1 (zu (i:=i) rfl rfl rfl (by omega) za9 (by assumption)) ?_;refine qbL ?_;refine G1 (zu (i:=i-1) rfl rfl rfl (by omega) za9 (by assumption)) ?_;refine qam ?_;refine G1 zcN ?_;refine zcu (d:=124) rfl (decide_eq_false (by simp only [IntL.toI,id_eq];omega)) ?_;refine qaE ?_;refine Cg ?_;refine qas ?_;refine zi (d:=19) (y:=hasN (W.take (i+1)) q) rfl (by first|exact zdz hw g68|exact zdA hw g68) ?_;refine zi (d:=20) (y:=partB A x (W.take (i+1))) rfl (by first|exact zdD hw g80|exact zdE hw g80 g82 g88 hy|exact pb_no hw g80 (by omega)) ?_
          exact Nx (i+1) (by omega) (by omega)
         ·
          refine qaa ?_;refine qaa ?_;refine qaE ?_;refine Cg ?_;refine qas ?_;refine zi (d:=19) (y:=hasN (W.take (i+1)) q) rfl (by first|exact zdz hw g68|exact zdA hw g68) ?_;refine zi (d:=20) (y:=partB A x (W.take (i+1))) rfl (by first|exact zdD hw g80|exact zdE hw g80 g82 g88 hy|exact pb_no hw g80 (by omega)) ?_
          exact Nx (i+1) (by omega) (by omega)
       ·
        refine G1 mV ?_;refine qau ?_;refine G2 ?_;refine G2 ?_;refine qbq ?_;refine zai (d:=108) (p:=0<i) rfl (by first|rfl|(rw [decide_eq_decide];simp only [IntL.toI,id_eq];omega)|(simp [IntL.toI];done)|(simp [IntL.toI];omega)) (fun g108=>?_) (fun g108=>?_)
        ·
         obtain ⟨v,hv⟩:∃v,W[i-1]?=some v:=⟨_,List.getElem?_eq_getElem (by omega)⟩
         have hrise:=zej hp2 (i:=i-1) (hW▸hv) (by rw [show i-1+1=i by omega];exact hW▸hw)
         refine qan ?_;refine G1 (zu (i:=i) rfl rfl rfl (by omega) za9 (by assumption)) ?_;refine qbL ?_;refine G1 (zu (i:=i-1) rfl rfl rfl (by omega) za9 (by assumption)) ?_;refine qam ?_;refine G1 zcN ?_;refine zcu (d:=124) rfl (decide_eq_false (by simp only [IntL.toI,id_eq];omega)) ?_;refine qaE ?_;refine Cg ?_;refine qas ?_;refine zi (d:=19) (y:=hasN (W.take (i+1)) q) rfl (by first|exact zdz hw g68|exact zdA hw g68) ?_;refine zi (d:=20) (y:=partB A x (W.take (i+1))) rfl (by first|exact zdD hw g80|exact zdE hw g80 g82 g88 hy|exact pb_no hw g80 (by omega)) ?_
         exact Nx (i+1) (by omega) (by omega)
        ·
         refine qaa ?_;refine qaa ?_;refine qaE ?_;refine Cg ?_;refine qas ?_;refine zi (d:=19) (y:=hasN (W.take (i+1)) q) rfl (by first|exact zdz hw g68|exact zdA hw g68) ?_;refine zi (d:=20) (y:=partB A x (W.take (i+1))) rfl (by first|exact zdD hw g80|exact zdE hw g80 g82 g88 hy|exact pb_no hw g80 (by omega)) ?_
         exact Nx (i+1) (by omega) (by omega)
    ·
     have hWi:W.take i=W:=List.take_of_length_le (by omega)
     refine zi (d:=19) (y:=true) rfl (by rw [hWi];exact hit) ?_;refine zi (d:=20) (y:=partB A x W) rfl (by rw [hWi]) ?_;refine CE ?_;refine qa1 ?_;refine zaJ (d:=126) rfl (rfl) ?_;refine qbr ?_;refine zaJ (d:=128) rfl (rfl) ?_;refine qae ?_;refine qaH ?_;refine zL (d:=132) (p:=partB A x W=true) rfl (by simp) (fun g132=>?_) (fun g132=>?_)
     ·
      refine qaC ?_;refine A1 oK ?_;refine A1 mV ?_;refine qab ?_;refine qaC ?_;refine A1 oK ?_;refine qae ?_;refine qap ?_;refine qap ?_;refine A1 zcU ?_;refine qa3 ?_
      exact zb rfl rfl (za rfl (decide_eq_true (by simp only [IntL.toI,id_eq];omega)))
     ·
      refine A1 mV ?_;refine A1 zbx ?_;refine Sp (d:=134) (p:=x<0) (fun g134=>?_) (fun g134=>?_)
      ·
       refine A1 oK ?_;refine A1 mV ?_;refine qab ?_;refine qaC ?_;refine A1 oK ?_;refine qae ?_;refine qap ?_;refine qap ?_;refine A1 zcU ?_;refine qa3 ?_
       exact zb rfl rfl (za rfl (decide_eq_true (by simp only [IntL.toI,id_eq];omega)))
      ·
       refine A1 oK ?_;refine qaH ?_;refine qap ?_;refine A1 zcU ?_;refine zaJ (d:=141) rfl (decide_eq_true (by simp only [IntL.toI,id_eq];exact Int.not_lt.1 (fun c=>g132 (pb_all (by omega) c hall)))) ?_;refine A1 oK ?_;refine qae ?_;refine qap ?_;refine qap ?_;refine A1 zcU ?_;refine qa3 ?_
       exact zb rfl rfl (za rfl (decide_eq_true (by simp only [IntL.toI,id_eq];omega)))
end Go.Proofs.YtjjlfapfjjkomaaGreat
